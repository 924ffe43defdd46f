/-
 What words say: the functions of package pack, and the document's, as pure functions. Conditions: none.
-/
import Derived.Test.YtkjpgikjcfhckaaGreatPlan
import Derived.Test.YtkjpgikjcfhckaaGreatRefPlan
import Derived.Test.YtkjpgikjcfhckaaGreatMa
import Derived.Test.YtkjpgikjcfhckaaGreatSimp
import Derived.Test.YtkjpgikjcfhckaaGreatSep
open Nat renaming reduceAdd→xA,reduceMul→xB,reduceSub→xC,reduceEqDiff→xD,reduceBEq→xE,reduceLeDiff→xF,reduceLT→xG
open Int renaming reduceAdd→xH,reduceMul→xI,reduceSub→xJ,reduceLT→xK,reduceLE→xL,reduceToNat→xM,reduceEq→xN,reduceNe→xO,reduceBEq→xP,reduceBNe→xQ
set_option linter.unusedVariables false
set_option linter.unusedSimpArgs false
set_option maxRecDepth 8000
namespace Go.Proofs.YtkjpgikjcfhckaaGreat
open Go Go.Ev Go.Pl Go.Ma

/-! ### Bits -/
theorem ofInt_nat (n:Nat) (h:n<2 ^ 64):(BitVec.ofInt 64 (n:Int)).toNat=n:=by
 rw[BitVec.ofInt_natCast,BitVec.toNat_ofNat];omega
theorem and_u {a:Int} (h:U a) (k:Nat) (hk:k≤63):bits .and .u64 a ((2 ^ k - 1:Nat):Int)=a % 2 ^ k:=by
 obtain⟨h0,h1⟩:=h
 obtain⟨n,rfl⟩:=Int.eq_ofNat_of_zero_le h0
 have hp:2 ^ k≤2 ^ 63:=Nat.pow_le_pow_right (by decide) hk
 have hq:0<2 ^ k:=Nat.pos_of_ne_zero (by simp)
 unfold bits
 have e:(BitVec.ofInt IntKind.u64.bits (n:Int) &&& BitVec.ofInt IntKind.u64.bits ((2 ^ k - 1:Nat):Int)).toNat=n % 2 ^ k:=by
  show(BitVec.ofInt 64 (n:Int) &&& BitVec.ofInt 64 ((2 ^ k - 1:Nat):Int)).toNat=n % 2 ^ k
  rw[BitVec.toNat_and,ofInt_nat n (by omega),ofInt_nat _ (by omega),Nat.and_two_pow_sub_one_eq_mod]
 simp only[e]
 have h2:n % 2 ^ k≤n:=Nat.mod_le ..
 rw[wrap_wu,wu_eq (by omega) (by omega)]
 simp
theorem and15 {a:Int} (h:U a):bits .and .u64 a 15=a % 16:=and_u h 4 (by decide)
theorem and255 {a:Int} (h:U a):bits .and .u64 a 255=a % 256:=and_u h 8 (by decide)
theorem or_u {a c:Int} (k:Nat) (hk:k≤32) (h0:0≤a) (h1:a<2 ^ k) (h2:0≤c) (h3:c<2 ^ 31):bits .or .u64 a (c*2 ^ k)=a+c*2 ^ k:=by
 obtain⟨n,rfl⟩:=Int.eq_ofNat_of_zero_le h0
 obtain⟨m,rfl⟩:=Int.eq_ofNat_of_zero_le h2
 have hp:2 ^ k≤2 ^ 32:=Nat.pow_le_pow_right (by decide) hk
 have hn:n<2 ^ k:=by
  have:((2 ^ k:Nat):Int)=2 ^ k:=by simp
  omega
 have hm:m<2 ^ 31:=by omega
 have hmk:m*2 ^ k<2 ^ 63:=by
  calc m*2 ^ k≤m*2 ^ 32:=Nat.mul_le_mul_left _ hp
   _<2 ^ 31*2 ^ 32:=Nat.mul_lt_mul_of_pos_right hm (by decide)
   _=2 ^ 63:=by decide
 unfold bits
 have e0:((m:Int)*2 ^ k)=((m*2 ^ k:Nat):Int):=by simp
 have e:(BitVec.ofInt IntKind.u64.bits (n:Int) ||| BitVec.ofInt IntKind.u64.bits ((m*2 ^ k:Nat):Int)).toNat=n+m*2 ^ k:=by
  show(BitVec.ofInt 64 (n:Int) ||| BitVec.ofInt 64 ((m*2 ^ k:Nat):Int)).toNat=n+m*2 ^ k
  rw[BitVec.toNat_or,ofInt_nat n (by omega),ofInt_nat _ (by omega),Nat.or_comm,Nat.mul_comm,← Nat.two_pow_add_eq_or_of_lt hn m,Nat.add_comm]
 rw[e0]
 simp only[e]
 rw[wrap_wu,wu_eq (by omega) (by omega)]
 simp
theorem or4 {k a:Int} (h0:0≤k) (h1:k<16) (h2:0≤a) (h3:a≤255):bits .or .u64 k (a*16)=k+16*a:=by
 have:=or_u (a:=k) (c:=a) 4 (by decide) h0 (by simpa using h1) h2 (by omega)
 rw[show((2:Int) ^ 4)=16 by decide]at this;rw[this];omega
theorem or12 {k a:Int} (h0:0≤k) (h1:k<4096) (h2:0≤a) (h3:a≤255):bits .or .u64 k (a*4096)=k+4096*a:=by
 have:=or_u (a:=k) (c:=a) 12 (by decide) h0 (by simpa using h1) h2 (by omega)
 rw[show((2:Int) ^ 12)=4096 by decide]at this;rw[this];omega
theorem or20 {k a:Int} (h0:0≤k) (h1:k<1048576) (h2:0≤a) (h3:a≤255):bits .or .u64 k (a*1048576)=k+1048576*a:=by
 have:=or_u (a:=k) (c:=a) 20 (by decide) h0 (by simpa using h1) h2 (by omega)
 rw[show((2:Int) ^ 20)=1048576 by decide]at this;rw[this];omega
theorem shl_u {a:Int} (k:Nat) (hk:k≤20) (h2:0≤a) (h3:a≤255):wu (a*2 ^ min k IntKind.u64.bits)=a*2 ^ k:=by
 rw[show min k IntKind.u64.bits=k from Nat.min_eq_left (by show k≤64;omega)]
 have hp:(2:Int) ^ k≤2 ^ 20:=by
  have:=Nat.pow_le_pow_right (n:=2) (by decide) hk
  have e:((2 ^ k:Nat):Int)=2 ^ k:=by simp
  omega
 have h0:0≤(2:Int) ^ k:=by
  have e:((2 ^ k:Nat):Int)=2 ^ k:=by simp
  rw[← e];exact Int.natCast_nonneg _
 have h4:0≤a*2 ^ k:=Int.mul_nonneg h2 h0
 have h5:a*2 ^ k≤255*2 ^ 20:=Int.mul_le_mul h3 hp h0 (by decide)
 exact wu_eq h4 (by omega)
theorem shl4 {a:Int} (h2:0≤a) (h3:a≤255):wu (a*2 ^ min 4 IntKind.u64.bits)=a*16:=shl_u 4 (by decide) h2 h3
theorem shl12 {a:Int} (h2:0≤a) (h3:a≤255):wu (a*2 ^ min 12 IntKind.u64.bits)=a*4096:=shl_u 12 (by decide) h2 h3
theorem shl20 {a:Int} (h2:0≤a) (h3:a≤255):wu (a*2 ^ min 20 IntKind.u64.bits)=a*1048576:=shl_u 20 (by decide) h2 h3
theorem shr_u (n:Int) (k:Nat) (hk:k≤20):Int.fdiv n (2 ^ min k IntKind.u64.bits)=n / 2 ^ k:=by
 rw[show min k IntKind.u64.bits=k from Nat.min_eq_left (by show k≤64;omega),Int.fdiv_eq_ediv_of_nonneg]
 have e:((2 ^ k:Nat):Int)=2 ^ k:=by simp
 rw[← e];exact Int.natCast_nonneg _
theorem shr4 (n:Int):Int.fdiv n (2 ^ min 4 IntKind.u64.bits)=n / 16:=shr_u n 4 (by decide)
theorem shr12 (n:Int):Int.fdiv n (2 ^ min 12 IntKind.u64.bits)=n / 4096:=shr_u n 12 (by decide)
theorem shr20 (n:Int):Int.fdiv n (2 ^ min 20 IntKind.u64.bits)=n / 1048576:=shr_u n 20 (by decide)
theorem U_div {a:Int} (h:U a) (d:Int) (hd:0<d):U (a / d):=by
 obtain⟨h0,h1⟩:=h
 exact⟨Int.ediv_nonneg h0 (by omega),by have:=Int.ediv_le_self d h0;omega⟩
theorem w64_byte {a:Int}:w64 (a % 256)=a % 256:=w64_eq (by omega) (by omega)
theorem w64_nib {a:Int}:w64 (a % 16)=a % 16:=w64_eq (by omega) (by omega)

section
variable {W:World} {H:Hp} {b:Nat} {T:TypeId}

theorem c_put1 (k x:Int) (hk:0≤k∧k≤15) (hb:H b=some (.cells #[.int .i64 x] T (0,0))) :
  CallP Tryz.prog W 119 #[.int .i64 k,.slice (some ⟨b,0,none⟩) 1 1] H fun v H'=>v=.int .u64 (if 0≤x∧x≤255 then k+16*x else 0)∧H'=H:=by
 refine CallP.of mixed Tryz.func119 tr119 (by show 2≤_;decide) fun W _=>?_
 have r1:=fun o=>rd_of hb o
 have w1:wu k=k:=wu_eq (by omega) (by omega)
 have g0:decide ((0:Int)<((1:Nat):Int))=true:=by decide
 have g1:decide ((1:Int)<((1:Nat):Int))=false:=by decide
 have l0:(0:Int)<((1:Nat):Int):=by decide
 have v0:w64 0=0:=by decide
 have v1:w64 1=1:=by decide
 have v4:w64 4=4:=by decide
 have v8:w64 8=8:=by decide
 have v12:w64 12=12:=by decide
 have v16:w64 16=16:=by decide
 have v20:w64 20=20:=by decide
 simp only[wrap_wu,w1,↓DD,UU,xA,xE]
 refine loop_n 2 ?_
 simp only[rounds_s,r1,↓DD,UU,xB,xE,xK,xL,xM]
 refine both_intro (fun h=>?_) (fun h=>?_)<;>simp only[h,↓DD,UU,xE]
 ·rw[decide_eq_true_eq]at h;rw[if_neg (by omega)]
 refine both_intro (fun h'=>?_) (fun h'=>?_)<;>simp only[h',rounds_s,wrap_w64,wrap_wu,v0,v1,v4,↓DD,UU,xE,xH,xI,xK,xL,xM]
 ·rw[decide_eq_true_eq]at h';rw[if_neg (by omega)]
 rw[decide_eq_false_iff_not]at h h'
 have u0:wu x=x:=wu_eq (by omega) (by omega)
 have s0:=shl4 (a:=x) (by omega) (by omega)
 have t0:=or4 (k:=k) (a:=x) (by omega) (by omega) (by omega) (by omega)
 simp only[u0,s0,t0]
 rw[if_pos (by omega)]
theorem c_put2 (k x y:Int) (hk:0≤k∧k≤15) (hb:H b=some (.cells #[.int .i64 x,.int .i64 y] T (0,0))) :
  CallP Tryz.prog W 119 #[.int .i64 k,.slice (some ⟨b,0,none⟩) 2 2] H fun v H'=>v=.int .u64 (if 0≤x∧x≤255∧0≤y∧y≤255 then k+16*x+4096*y else 0)∧H'=H:=by
 refine CallP.of mixed Tryz.func119 tr119 (by show 2≤_;decide) fun W _=>?_
 have r1:=fun o=>rd_of hb o
 have w1:wu k=k:=wu_eq (by omega) (by omega)
 have g0:decide ((0:Int)<((2:Nat):Int))=true:=by decide
 have g1:decide ((1:Int)<((2:Nat):Int))=true:=by decide
 have g2:decide ((2:Int)<((2:Nat):Int))=false:=by decide
 have l0:(0:Int)<((2:Nat):Int):=by decide
 have l1:(1:Int)<((2:Nat):Int):=by decide
 have v0:w64 0=0:=by decide
 have v1:w64 1=1:=by decide
 have v2:w64 2=2:=by decide
 have v4:w64 4=4:=by decide
 have v8:w64 8=8:=by decide
 have v12:w64 12=12:=by decide
 have v16:w64 16=16:=by decide
 have v20:w64 20=20:=by decide
 simp only[wrap_wu,w1,↓DD,UU,xA,xE]
 refine loop_n 3 ?_
 simp only[rounds_s,r1,↓DD,UU,xB,xE,xK,xL,xM]
 refine both_intro (fun h=>?_) (fun h=>?_)<;>simp only[h,↓DD,UU,xE]
 ·rw[decide_eq_true_eq]at h;rw[if_neg (by omega)]
 refine both_intro (fun h'=>?_) (fun h'=>?_)<;>simp only[h',rounds_s,r1,wrap_w64,wrap_wu,v0,v1,v4,↓DD,UU,xB,xE,xH,xI,xK,xL,xM]
 ·rw[decide_eq_true_eq]at h';rw[if_neg (by omega)]
 rw[decide_eq_false_iff_not]at h h'
 have u0:wu x=x:=wu_eq (by omega) (by omega)
 have s0:=shl4 (a:=x) (by omega) (by omega)
 have t0:=or4 (k:=k) (a:=x) (by omega) (by omega) (by omega) (by omega)
 refine both_intro (fun h=>?_) (fun h=>?_)<;>simp only[h,u0,s0,t0,↓DD,UU,xE]
 ·rw[decide_eq_true_eq]at h;rw[if_neg (by omega)]
 refine both_intro (fun h'=>?_) (fun h'=>?_)<;>simp only[h',rounds_s,wrap_w64,wrap_wu,v2,v8,v12,u0,s0,t0,↓DD,UU,xE,xH,xI,xK,xL,xM]
 ·rw[decide_eq_true_eq]at h';rw[if_neg (by omega)]
 rw[decide_eq_false_iff_not]at h h'
 have u1:wu y=y:=wu_eq (by omega) (by omega)
 have s1:=shl12 (a:=y) (by omega) (by omega)
 have t1:=or12 (k:=k+16*x) (a:=y) (by omega) (by omega) (by omega) (by omega)
 simp only[u1,s1,t1]
 rw[if_pos (by omega)]
theorem c_put3 (k x y z:Int) (hk:0≤k∧k≤15) (hb:H b=some (.cells #[.int .i64 x,.int .i64 y,.int .i64 z] T (0,0))) :
  CallP Tryz.prog W 119 #[.int .i64 k,.slice (some ⟨b,0,none⟩) 3 3] H fun v H'=>v=.int .u64 (if 0≤x∧x≤255∧0≤y∧y≤255∧0≤z∧z≤255 then k+16*x+4096*y+1048576*z else 0)∧H'=H:=by
 refine CallP.of mixed Tryz.func119 tr119 (by show 2≤_;decide) fun W _=>?_
 have r1:=fun o=>rd_of hb o
 have w1:wu k=k:=wu_eq (by omega) (by omega)
 have g0:decide ((0:Int)<((3:Nat):Int))=true:=by decide
 have g1:decide ((1:Int)<((3:Nat):Int))=true:=by decide
 have g2:decide ((2:Int)<((3:Nat):Int))=true:=by decide
 have g3:decide ((3:Int)<((3:Nat):Int))=false:=by decide
 have l0:(0:Int)<((3:Nat):Int):=by decide
 have l1:(1:Int)<((3:Nat):Int):=by decide
 have l2:(2:Int)<((3:Nat):Int):=by decide
 have v0:w64 0=0:=by decide
 have v1:w64 1=1:=by decide
 have v2:w64 2=2:=by decide
 have v3:w64 3=3:=by decide
 have v4:w64 4=4:=by decide
 have v8:w64 8=8:=by decide
 have v12:w64 12=12:=by decide
 have v16:w64 16=16:=by decide
 have v20:w64 20=20:=by decide
 simp only[wrap_wu,w1,↓DD,UU,xA,xE]
 refine loop_n 4 ?_
 simp only[rounds_s,r1,↓DD,UU,xB,xE,xK,xL,xM]
 refine both_intro (fun h=>?_) (fun h=>?_)<;>simp only[h,↓DD,UU,xE]
 ·rw[decide_eq_true_eq]at h;rw[if_neg (by omega)]
 refine both_intro (fun h'=>?_) (fun h'=>?_)<;>simp only[h',rounds_s,r1,wrap_w64,wrap_wu,v0,v1,v4,↓DD,UU,xB,xE,xH,xI,xK,xL,xM]
 ·rw[decide_eq_true_eq]at h';rw[if_neg (by omega)]
 rw[decide_eq_false_iff_not]at h h'
 have u0:wu x=x:=wu_eq (by omega) (by omega)
 have s0:=shl4 (a:=x) (by omega) (by omega)
 have t0:=or4 (k:=k) (a:=x) (by omega) (by omega) (by omega) (by omega)
 refine both_intro (fun h=>?_) (fun h=>?_)<;>simp only[h,u0,s0,t0,↓DD,UU,xE]
 ·rw[decide_eq_true_eq]at h;rw[if_neg (by omega)]
 refine both_intro (fun h'=>?_) (fun h'=>?_)<;>simp only[h',rounds_s,r1,wrap_w64,wrap_wu,v2,v8,v12,u0,s0,t0,↓DD,UU,xB,xE,xH,xI,xK,xL,xM]
 ·rw[decide_eq_true_eq]at h';rw[if_neg (by omega)]
 rw[decide_eq_false_iff_not]at h h'
 have u1:wu y=y:=wu_eq (by omega) (by omega)
 have s1:=shl12 (a:=y) (by omega) (by omega)
 have t1:=or12 (k:=k+16*x) (a:=y) (by omega) (by omega) (by omega) (by omega)
 refine both_intro (fun h=>?_) (fun h=>?_)<;>simp only[h,u1,s1,t1,↓DD,UU,xE]
 ·rw[decide_eq_true_eq]at h;rw[if_neg (by omega)]
 refine both_intro (fun h'=>?_) (fun h'=>?_)<;>simp only[h',rounds_s,wrap_w64,wrap_wu,v3,v16,v20,u1,s1,t1,↓DD,UU,xE,xH,xI,xK,xL,xM]
 ·rw[decide_eq_true_eq]at h';rw[if_neg (by omega)]
 rw[decide_eq_false_iff_not]at h h'
 have u2:wu z=z:=wu_eq (by omega) (by omega)
 have s2:=shl20 (a:=z) (by omega) (by omega)
 have t2:=or20 (k:=k+16*x+4096*y) (a:=z) (by omega) (by omega) (by omega) (by omega)
 simp only[u2,s2,t2]
 rw[if_pos (by omega)]

theorem p_putpg (k a b:Int):PureC Tryz.prog 120 #[.agg #[.int .i64 k,.int .i64 a,.int .i64 b]] (.int .u64 (putPg k a b)):=by
 refine PureC.of mixed Tryz.func120 (by kernel_rfl) tr120 (by show 1≤_;decide) fun W H=>?_
 simp only[↓DD,UU]
 refine newB_intro fun x hx f1 f2=>?_
 have hsub:∀ o,Sub H (upd H x o):=fun o=>(Sub.refl H).new f1
 by_cases hv:0≤k∧k≤4∧(k=0→a=0)∧(k≠2→b=0)
 ·have e1:decide (k<0)=false:=by rw[decide_eq_false_iff_not];omega
  have e2:decide (4<k)=false:=by rw[decide_eq_false_iff_not];omega
  have e3:(k == 0 && a != 0)=false:=by
   rw[Bool.and_eq_false_iff];by_cases h:k=0
   ·right;simp [hv.2.2.1 h]
   ·left;simpa using h
  have e4:(k != 2 && b != 0)=false:=by
   rw[Bool.and_eq_false_iff];by_cases h:k=2
   ·left;simp [h]
   ·right;simp [hv.2.2.2 h]
  simp only[e1,e2,↓DD,UU,↓reduceIte,xE]
  refine both_intro (fun h3=>?_) (fun h3=>?_)<;>simp only[h3,Bool.true_and,Bool.false_and]at e3 ⊢<;>simp only[e3,↓DD,UU,↓reduceIte,xE]
  all_goals
   refine both_intro (fun h4=>?_) (fun h4=>?_)<;>simp only[h4,Bool.true_and,Bool.false_and]at e4 ⊢<;>simp only[e4,↓DD,UU,↓reduceIte,xA,xE]
  all_goals
   refine newB_intro fun y hy f3 f4=>?_
   refine callT_of (c_put2 k a b (by omega) (upd_same ..)) ?_
   rintro v H' ⟨rfl,rfl⟩
   simp only[↓DD,UU]
   refine⟨?_,(hsub _).trans ((Sub.refl _).new f3)⟩
   congr 1;unfold putPg;by_cases hr:0≤a∧a≤255∧0≤b∧b≤255
   ·rw[if_pos hr,if_pos (by omega)]
   ·rw[if_neg hr,if_neg (by omega)]
 ·have e0:putPg k a b=0:=by unfold putPg;rw[if_neg (by omega)]
  rw[e0]
  by_cases h1:k<0
  ·simp only[decide_eq_true h1,↓DD,UU,↓reduceIte,xE];exact hsub _
  have e1:=decide_eq_false h1
  by_cases h2:4<k
  ·simp only[e1,decide_eq_true h2,↓DD,UU,↓reduceIte,xE];exact hsub _
  have e2:=decide_eq_false h2
  by_cases h3:k=0∧a≠0
  ·have g1:(k == 0)=true:=by simp [h3.1]
   have g2:(a != 0)=true:=by simp [h3.2]
   simp only[e1,e2,g1,g2,↓DD,UU,↓reduceIte,xE];exact hsub _
  have h4:k≠2∧b≠0:=by omega
  have g3:(k != 2)=true:=by simp [h4.1]
  have g4:(b != 0)=true:=by simp [h4.2]
  by_cases h5:k=0
  ·have g1:(k == 0)=true:=by simp [h5]
   have g2:(a != 0)=false:=by simp;omega
   simp only[e1,e2,g1,g2,g3,g4,↓DD,UU,↓reduceIte,xE];exact hsub _
  ·have g1:(k == 0)=false:=by simp [h5]
   simp only[e1,e2,g1,g3,g4,↓DD,UU,↓reduceIte,xE];exact hsub _
theorem v_putpg (k a b:Int):pv Tryz.prog 120 #[.agg #[.int .i64 k,.int .i64 a,.int .i64 b]] = some (.int .u64 (putPg k a b)):=pv_of (p_putpg k a b)

theorem p_putsl (k a:Int):PureC Tryz.prog 122 #[.agg #[.int .i64 k,.int .i64 a]] (.int .u64 (putSl k a)):=by
 refine PureC.of mixed Tryz.func122 (by kernel_rfl) tr122 (by show 1≤_;decide) fun W H=>?_
 simp only[↓DD,UU]
 refine newB_intro fun x hx f1 f2=>?_
 have hsub:∀ o,Sub H (upd H x o):=fun o=>(Sub.refl H).new f1
 by_cases h1:k<0
 ·have e0:putSl k a=0:=by unfold putSl;rw[if_neg (by omega)]
  simp only[decide_eq_true h1,e0,↓DD,UU,↓reduceIte,xE];exact hsub _
 have e1:=decide_eq_false h1
 by_cases h2:3<k
 ·have e0:putSl k a=0:=by unfold putSl;rw[if_neg (by omega)]
  simp only[e1,decide_eq_true h2,e0,↓DD,UU,↓reduceIte,xE];exact hsub _
 have e2:=decide_eq_false h2
 by_cases h3:k=0
 ·have g1:(k == 0)=true:=by simp [h3]
  by_cases h4:a=0
  ·have g2:(a != 0)=false:=by simp [h4]
   simp only[e1,e2,g1,g2,↓DD,UU,↓reduceIte,xE]
   refine newB_intro fun y hy f3 f4=>?_
   refine callT_of (c_put1 k a (by omega) (upd_same ..)) ?_
   rintro v H' ⟨rfl,rfl⟩
   simp only[↓DD,UU]
   refine⟨?_,(hsub _).trans ((Sub.refl _).new f3)⟩
   congr 1;unfold putSl;rw[if_pos (by omega),if_pos (by omega)]
  ·have g2:(a != 0)=true:=by simp [h4]
   have e0:putSl k a=0:=by unfold putSl;rw[if_neg (by omega)]
   simp only[e1,e2,g1,g2,e0,↓DD,UU,↓reduceIte,xE];exact hsub _
 ·have g1:(k == 0)=false:=by simp [h3]
  simp only[e1,e2,g1,↓DD,UU,↓reduceIte,xE]
  refine newB_intro fun y hy f3 f4=>?_
  refine callT_of (c_put1 k a (by omega) (upd_same ..)) ?_
  rintro v H' ⟨rfl,rfl⟩
  simp only[↓DD,UU]
  refine⟨?_,(hsub _).trans ((Sub.refl _).new f3)⟩
  congr 1;unfold putSl;by_cases hr:0≤a∧a≤255
  ·rw[if_pos hr,if_pos (by omega)]
  ·rw[if_neg hr,if_neg (by omega)]
theorem v_putsl (k a:Int):pv Tryz.prog 122 #[.agg #[.int .i64 k,.int .i64 a]] = some (.int .u64 (putSl k a)):=pv_of (p_putsl k a)

theorem p_puten (p i k:Int):PureC Tryz.prog 223 #[.agg #[.int .i64 p,.int .i64 i,.int .i64 k]] (.int .u64 (putEn p i k)):=by
 refine PureC.of mixed Tryz.func223 (by kernel_rfl) tr223 (by show 1≤_;decide) fun W H=>?_
 simp only[↓DD,UU]
 refine newB_intro fun x hx f1 f2=>?_
 have hsub:∀ o,Sub H (upd H x o):=fun o=>(Sub.refl H).new f1
 simp only[↓DD,UU,↓reduceIte,xA,xE]
 refine newB_intro fun y hy f3 f4=>?_
 refine callT_of (c_put3 1 p i k (by omega) (upd_same ..)) ?_
 rintro v H' ⟨rfl,rfl⟩
 simp only[↓DD,UU]
 refine⟨?_,(hsub _).trans ((Sub.refl _).new f3)⟩
 congr 1
theorem v_puten (p i k:Int):pv Tryz.prog 223 #[.agg #[.int .i64 p,.int .i64 i,.int .i64 k]] = some (.int .u64 (putEn p i k)):=pv_of (p_puten p i k)

theorem p_kind {w:Int} (hw:U w):PureC Tryz.prog 102 #[.int .u64 w] (.int .i64 (w % 16)):=by
 refine PureC.of mixed Tryz.func102 (by kernel_rfl) tr102 (by show 1≤_;decide) fun W H=>?_
 simp only[and15 hw,wrap_w64,w64_nib,↓DD,UU,xE]
 exact Sub.refl H
theorem v_kind {w:Int} (hw:U w):pv Tryz.prog 102 #[.int .u64 w] = some (.int .i64 (w % 16)):=pv_of (p_kind hw)
theorem p_part0 {w:Int} (hw:U w):PureC Tryz.prog 103 #[.int .u64 w,.int .i64 0] (.int .i64 (pt w 16)):=by
 refine PureC.of mixed Tryz.func103 (by kernel_rfl) tr103 (by show 2≤_;decide) fun W H=>?_
 have h:=and255 (U_div hw 16 (by decide))
 have e0:w64 0=0:=by decide
 have e4:w64 4=4:=by decide
 simp only[shr4,h,wrap_w64,e0,e4,w64_byte,↓DD,UU,xA,xE,xH,xI,xL,xM]
 exact⟨rfl,Sub.refl H⟩
theorem p_part1 {w:Int} (hw:U w):PureC Tryz.prog 103 #[.int .u64 w,.int .i64 1] (.int .i64 (pt w 4096)):=by
 refine PureC.of mixed Tryz.func103 (by kernel_rfl) tr103 (by show 2≤_;decide) fun W H=>?_
 have h:=and255 (U_div hw 4096 (by decide))
 have e0:w64 8=8:=by decide
 have e4:w64 12=12:=by decide
 simp only[shr12,h,wrap_w64,e0,e4,w64_byte,↓DD,UU,xA,xE,xH,xI,xL,xM]
 exact⟨rfl,Sub.refl H⟩
theorem p_part2 {w:Int} (hw:U w):PureC Tryz.prog 103 #[.int .u64 w,.int .i64 2] (.int .i64 (pt w 1048576)):=by
 refine PureC.of mixed Tryz.func103 (by kernel_rfl) tr103 (by show 2≤_;decide) fun W H=>?_
 have h:=and255 (U_div hw 1048576 (by decide))
 have e0:w64 16=16:=by decide
 have e4:w64 20=20:=by decide
 simp only[shr20,h,wrap_w64,e0,e4,w64_byte,↓DD,UU,xA,xE,xH,xI,xL,xM]
 exact⟨rfl,Sub.refl H⟩
theorem v_part0 {w:Int} (hw:U w):pv Tryz.prog 103 #[.int .u64 w,.int .i64 0] = some (.int .i64 (pt w 16)):=pv_of (p_part0 hw)
theorem v_part1 {w:Int} (hw:U w):pv Tryz.prog 103 #[.int .u64 w,.int .i64 1] = some (.int .i64 (pt w 4096)):=pv_of (p_part1 hw)
theorem v_part2 {w:Int} (hw:U w):pv Tryz.prog 103 #[.int .u64 w,.int .i64 2] = some (.int .i64 (pt w 1048576)):=pv_of (p_part2 hw)
theorem pt_bd (w d:Int):0≤pt w d∧pt w d≤255:=by unfold pt;omega

theorem p_fits (s:Sh) (i k a b:Int) (hm:may s.p s.c s.m=true) (h0:0≤i) (h1:i<s.p):PureC Tryz.prog 121 #[.agg #[.int .i64 s.p,.int .i64 s.c,.int .i64 s.m],.int .i64 i,.agg #[.int .i64 k,.int .i64 a,.int .i64 b]] (.bool (fits s i k a b)):=by
 refine PureC.of mixed Tryz.func121 (by kernel_rfl) tr121 (by show 3≤_;decide) fun W H=>?_
 obtain⟨m1,m2,m3,m4,m5,m6⟩:=(may_iff _ _ _).1 hm
 have w1:w64 (s.p - i)=s.p - i:=w64_eq (by omega) (by omega)
 have w2:w64 (i - 8)=i - 8:=w64_eq (by omega) (by omega)
 simp only[↓DD,UU,xA]
 refine newB_intro fun x hx f1 f2=>?_
 refine newB_intro fun y hy f3 f4=>?_
 have nxy:(x=y)=False:=f3 x (by rw[upd_same];rfl)
 have nyx:(y=x)=False:=f4 x (by rw[upd_same];rfl)
 unfold fits
 by_cases k1:k=1
 ·subst k1
  simp only[nxy,↓DD,UU,↓reduceIte,xA,xE]
  exact(((Sep.one H).new f1 _).new f3 _).tail.tail.head
 have g1:(k == 1)=false:=by simp [k1]
 by_cases k2:k=2
 ·subst k2
  simp only[↓DD,UU,↓reduceIte,xA,xE,xP]
  refine both_intro (fun g=>?_) (fun g=>?_)<;>simp only[g,nxy,Bool.false_and,↓DD,UU,↓reduceIte,xA,xE,xN]
  all_goals exact(((Sep.one H).new f1 _).new f3 _).tail.tail.head
 have g2:(k == 2)=false:=by simp [k2]
 by_cases k3:k=3
 ·subst k3
  simp only[↓DD,UU,↓reduceIte,xA,xE,xP]
  refine both_intro (fun g=>?_) (fun g=>?_)<;>simp only[g,Bool.false_and,↓DD,UU,↓reduceIte,xA,xE,xN]
  ·refine both_intro (fun g'=>?_) (fun g'=>?_)<;>simp only[g,g',nxy,wrap_w64,w1,Bool.false_and,↓DD,UU,↓reduceIte,xA,xE,xN]
   all_goals exact(((Sep.one H).new f1 _).new f3 _).tail.tail.head
  ·exact(((Sep.one H).new f1 _).new f3 _).tail.tail.head
 have g3:(k == 3)=false:=by simp [k3]
 by_cases k4:k=4
 ·subst k4
  simp only[↓DD,UU,↓reduceIte,xA,xE,xP]
  refine both_intro (fun g=>?_) (fun g=>?_)<;>simp only[g,wrap_w64,w2,Bool.false_and,↓DD,UU,↓reduceIte,xA,xE,xN]
  all_goals exact(((Sep.one H).new f1 _).new f3 _).tail.tail.head
 have g4:(k == 4)=false:=by simp [k4]
 simp only[g1,g2,g3,g4,k1,k2,k3,k4,↓DD,UU,↓reduceIte,xA,xE]
 exact(((Sep.one H).new f1 _).new f3 _).tail.tail.head
theorem v_fits (s:Sh) (i k a b:Int) (hm:may s.p s.c s.m=true) (h0:0≤i) (h1:i<s.p):pv Tryz.prog 121 #[.agg #[.int .i64 s.p,.int .i64 s.c,.int .i64 s.m],.int .i64 i,.agg #[.int .i64 k,.int .i64 a,.int .i64 b]] = some (.bool (fits s i k a b)):=pv_of (p_fits s i k a b hm h0 h1)

theorem p_readpg (s:Sh) (i:Int) {w:Int} (hw:U w):PureC Tryz.prog 93 #[.agg #[.int .i64 s.p,.int .i64 s.c,.int .i64 s.m],.int .i64 i,.int .u64 w] (.tuple #[.agg #[.int .i64 (pgK s i w),.int .i64 (pgA s i w),.int .i64 (pgB s i w)],.bool (okPg s i w)]):=by
 refine PureC.of mixed Tryz.func93 (by kernel_rfl) tr93 (by show 3≤_;decide) fun W H=>?_
 simp only[↓DD,UU,xA]
 refine newB_intro fun x hx f1 f2=>?_
 refine newB_intro fun y hy f3 f4=>?_
 have nxy:(x=y)=False:=f3 x (by rw[upd_same];rfl)
 have nyx:(y=x)=False:=f4 x (by rw[upd_same];rfl)
 simp only[v_kind hw,v_part0 hw,v_part1 hw,↓DD,UU,xA,xE]
 refine newB_intro fun z hz f5 f6=>?_
 have nxz:(x=z)=False:=f5 x (by rw[is_upd,upd_same];simp)
 have nzx:(z=x)=False:=f6 x (by rw[is_upd,upd_same];simp)
 have nyz:(y=z)=False:=f5 y (by rw[upd_same];rfl)
 have nzy:(z=y)=False:=f6 y (by rw[upd_same];rfl)
 by_cases e1:putPg (w % 16) (pt w 16) (pt w 4096)=w
 ·have g1:(putPg (w % 16) (pt w 16) (pt w 4096) != w)=false:=by simp [e1]
  by_cases e2:page s.p s.c s.m i<0
  ·have hok:okPg s i w=false:=by unfold okPg;simp [e1];omega
   simp only[v_putpg,v_page,g1,decide_eq_true e2,nxy,nxz,nyz,↓DD,UU,↓reduceIte,xA,xC,xE,xF]
   simp only[pgK,pgA,pgB,hok,Bool.false_eq_true,if_false]
   exact⟨trivial,(((((Sep.one H).new f1 _).new f3 _).new f5 _).p1.set _).tail.tail.tail.head⟩
  ·obtain⟨hm,h0,h1⟩:may s.p s.c s.m=true∧0≤i∧i<s.p:=by
    have:=(page_lt0 s.p s.c s.m i);exact Decidable.not_not.1 fun h=>e2 (this.2 h)
   have g2:decide (page s.p s.c s.m i<0)=false:=decide_eq_false e2
   have hok:okPg s i w=fits s i (w % 16) (pt w 16) (pt w 4096):=by unfold okPg;rw[decide_eq_true e1,decide_eq_true (by omega:0≤page s.p s.c s.m i)];rfl
   cases hf:fits s i (w % 16) (pt w 16) (pt w 4096)
   ·simp only[v_putpg,v_page,g1,g2,v_fits s i _ _ _ hm h0 h1,hf,nxy,nxz,nyz,↓DD,UU,↓reduceIte,xA,xC,xE,xF]
    simp only[pgK,pgA,pgB,hok,hf,Bool.false_eq_true,if_false]
    exact⟨trivial,(((((Sep.one H).new f1 _).new f3 _).new f5 _).p1.set _).tail.tail.tail.head⟩
   ·simp only[v_putpg,v_page,g1,g2,v_fits s i _ _ _ hm h0 h1,hf,nxy,nxz,nyz,↓DD,UU,↓reduceIte,xA,xC,xE,xF]
    simp only[pgK,pgA,pgB,hok,hf,if_true]
    exact⟨trivial,(((((Sep.one H).new f1 _).new f3 _).new f5 _).p1.set _).tail.tail.tail.head⟩
 ·have g1:(putPg (w % 16) (pt w 16) (pt w 4096) != w)=true:=by simp [e1]
  have hok:okPg s i w=false:=by unfold okPg;simp [e1]
  simp only[v_putpg,g1,nyz,↓DD,UU,↓reduceIte,xA,xC,xE,xF]
  simp only[pgK,pgA,pgB,hok,Bool.false_eq_true,if_false]
  exact⟨trivial,(((((Sep.one H).new f1 _).new f3 _).new f5 _).p1.set _).tail.tail.tail.head⟩
theorem v_readpg (s:Sh) (i:Int) {w:Int} (hw:U w):pv Tryz.prog 93 #[.agg #[.int .i64 s.p,.int .i64 s.c,.int .i64 s.m],.int .i64 i,.int .u64 w] = some (.tuple #[.agg #[.int .i64 (pgK s i w),.int .i64 (pgA s i w),.int .i64 (pgB s i w)],.bool (okPg s i w)]):=pv_of (p_readpg s i hw)

theorem p_readen (s:Sh) {w:Int} (hw:U w):PureC Tryz.prog 252 #[.agg #[.int .i64 s.p,.int .i64 s.c,.int .i64 s.m],.int .u64 w] (.tuple #[.agg #[.int .i64 (enP s w),.int .i64 (enS s w),.int .i64 (enK s w)],.bool (okEn s w)]):=by
 refine PureC.of mixed Tryz.func252 (by kernel_rfl) tr252 (by show 2≤_;decide) fun W H=>?_
 simp only[↓DD,UU,xA]
 refine newB_intro fun x hx f1 f2=>?_
 refine newB_intro fun y hy f3 f4=>?_
 have nxy:(x=y)=False:=f3 x (by rw[upd_same];rfl)
 have nyx:(y=x)=False:=f4 x (by rw[upd_same];rfl)
 simp only[v_part0 hw,v_part1 hw,v_part2 hw,↓DD,UU,xA,xE]
 refine newB_intro fun z hz f5 f6=>?_
 have nxz:(x=z)=False:=f5 x (by rw[is_upd,upd_same];simp)
 have nzx:(z=x)=False:=f6 x (by rw[is_upd,upd_same];simp)
 have nyz:(y=z)=False:=f5 y (by rw[upd_same];rfl)
 have nzy:(z=y)=False:=f6 y (by rw[upd_same];rfl)
 by_cases e1:putEn (pt w 16) (pt w 4096) (pt w 1048576)=w
 ·have g1:(putEn (pt w 16) (pt w 4096) (pt w 1048576) != w)=false:=by simp [e1]
  by_cases e2:page s.p s.c s.m (pt w 16)<0
  ·have hok:okEn s w=false:=by unfold okEn;simp [e1];omega
   simp only[v_puten,v_page,g1,decide_eq_true e2,nxy,nxz,nyz,↓DD,UU,↓reduceIte,xA,xC,xE,xF]
   simp only[enP,enS,enK,hok,Bool.false_eq_true,if_false]
   exact⟨trivial,(((((Sep.one H).new f1 _).new f3 _).new f5 _).p1.set _).tail.tail.tail.head⟩
  ·have g2:decide (page s.p s.c s.m (pt w 16)<0)=false:=decide_eq_false e2
   by_cases e3:pt w 4096<slots (pt w 1048576)
   ·have g3:decide (slots (pt w 1048576)≤pt w 4096)=false:=decide_eq_false (by omega)
    have hok:okEn s w=true:=by unfold okEn;rw[decide_eq_true e1,decide_eq_true e3,decide_eq_true (by omega:0≤page s.p s.c s.m (pt w 16))];rfl
    simp only[v_puten,v_page,v_slots,g1,g2,g3,nxy,nxz,nyz,↓DD,UU,↓reduceIte,xA,xC,xE,xF]
    simp only[enP,enS,enK,hok,if_true]
    exact⟨trivial,(((((Sep.one H).new f1 _).new f3 _).new f5 _).p1.set _).tail.tail.tail.head⟩
   ·have g3:decide (slots (pt w 1048576)≤pt w 4096)=true:=decide_eq_true (by omega)
    have hok:okEn s w=false:=by unfold okEn;rw[decide_eq_false e3,Bool.and_false,Bool.and_false]
    simp only[v_puten,v_page,v_slots,g1,g2,g3,nxy,nxz,nyz,↓DD,UU,↓reduceIte,xA,xC,xE,xF]
    simp only[enP,enS,enK,hok,Bool.false_eq_true,if_false]
    exact⟨trivial,(((((Sep.one H).new f1 _).new f3 _).new f5 _).p1.set _).tail.tail.tail.head⟩
 ·have g1:(putEn (pt w 16) (pt w 4096) (pt w 1048576) != w)=true:=by simp [e1]
  have hok:okEn s w=false:=by unfold okEn;simp [e1]
  simp only[v_puten,g1,nyz,↓DD,UU,↓reduceIte,xA,xC,xE,xF]
  simp only[enP,enS,enK,hok,Bool.false_eq_true,if_false]
  exact⟨trivial,(((((Sep.one H).new f1 _).new f3 _).new f5 _).p1.set _).tail.tail.tail.head⟩
theorem v_readen (s:Sh) {w:Int} (hw:U w):pv Tryz.prog 252 #[.agg #[.int .i64 s.p,.int .i64 s.c,.int .i64 s.m],.int .u64 w] = some (.tuple #[.agg #[.int .i64 (enP s w),.int .i64 (enS s w),.int .i64 (enK s w)],.bool (okEn s w)]):=pv_of (p_readen s hw)

/-! ### The document's -/
def b8 (n:Int):Bool:=decide (0≤n) && decide (n≤255)
theorem q_byte8 (n:Int):PureC Tryz.prog 97 #[.int .i64 n] (.bool (b8 n)):=by
 refine PureC.of mixed Tryz.func97 (by kernel_rfl) tr97 (by show 1≤_;decide) fun W H=>?_
 unfold b8
 simp only[↓DD,UU,xE]
 refine both_intro (fun g=>?_) (fun g=>?_)<;>simp only[g,Bool.false_and,↓DD,UU,xE]
 all_goals exact Sub.refl H
theorem u_byte8 (n:Int):pv Tryz.prog 97 #[.int .i64 n] = some (.bool (b8 n)):=pv_of (q_byte8 n)
theorem b8_yes {n:Int} (h:0≤n∧n≤255):b8 n=true:=by unfold b8;simp;omega
theorem b8_no {n:Int} (h:¬ (0≤n∧n≤255)):b8 n=false:=by unfold b8;simp;omega
theorem q_putpg (k a b:Int):PureC Tryz.prog 69 #[.agg #[.int .i64 k,.int .i64 a,.int .i64 b]] (.int .u64 (putPg k a b)):=by
 refine PureC.of mixed Tryz.func69 (by kernel_rfl) tr69 (by show 1≤_;decide) fun W H=>?_
 simp only[↓DD,UU]
 refine newB_intro fun x hx f1 f2=>?_
 have hsub:∀ o,Sub H (upd H x o):=fun o=>(Sub.refl H).new f1
 by_cases h1:k<0
 ·have e0:putPg k a b=0:=by unfold putPg;rw[if_neg (by omega)]
  simp only[decide_eq_true h1,e0,↓DD,UU,↓reduceIte,xE];exact hsub _
 have e1:=decide_eq_false h1
 by_cases h2:4<k
 ·have e0:putPg k a b=0:=by unfold putPg;rw[if_neg (by omega)]
  simp only[e1,decide_eq_true h2,e0,↓DD,UU,↓reduceIte,xE];exact hsub _
 have e2:=decide_eq_false h2
 by_cases h3:0≤a∧a≤255
 rotate_left
 ·have e0:putPg k a b=0:=by unfold putPg;rw[if_neg (by omega)]
  simp only[e1,e2,u_byte8,b8_no h3,e0,↓DD,UU,↓reduceIte,xE];exact hsub _
 by_cases h4:0≤b∧b≤255
 rotate_left
 ·have e0:putPg k a b=0:=by unfold putPg;rw[if_neg (by omega)]
  simp only[e1,e2,u_byte8,b8_yes h3,b8_no h4,e0,↓DD,UU,↓reduceIte,xE];exact hsub _
 by_cases h5:k≠2∧b≠0
 ·have e0:putPg k a b=0:=by unfold putPg;rw[if_neg (by omega)]
  have g1:(k != 2)=true:=by simp [h5.1]
  have g2:(b != 0)=true:=by simp [h5.2]
  simp only[e1,e2,u_byte8,b8_yes h3,b8_yes h4,g1,g2,e0,↓DD,UU,↓reduceIte,xE];exact hsub _
 have w1:wu k=k:=wu_eq (by omega) (by omega)
 have w2:wu a=a:=wu_eq (by omega) (by omega)
 have w3:wu b=b:=wu_eq (by omega) (by omega)
 have s1:=shl4 (a:=a) (by omega) (by omega)
 have s2:=shl12 (a:=b) (by omega) (by omega)
 have t1:=or4 (k:=k) (a:=a) (by omega) (by omega) (by omega) (by omega)
 have t2:=or12 (k:=k+16*a) (a:=b) (by omega) (by omega) (by omega) (by omega)
 by_cases h6:k=0
 ·have g3:(k == 0)=true:=by simp [h6]
  have g1:(k != 2)=true:=by simp;omega
  have g2:(b != 0)=false:=by simp;omega
  by_cases h7:a=0
  ·have g4:(a != 0)=false:=by simp [h7]
   have e0:putPg k a b=k+16*a+4096*b:=by unfold putPg;rw[if_pos (by omega)]
   simp only[e1,e2,u_byte8,b8_yes h3,b8_yes h4,g1,g2,g3,g4,e0,wrap_wu,w1,w2,w3,s1,s2,t1,t2,↓DD,UU,↓reduceIte,xE,xL,xM];exact hsub _
  ·have g4:(a != 0)=true:=by simp [h7]
   have e0:putPg k a b=0:=by unfold putPg;rw[if_neg (by omega)]
   simp only[e1,e2,u_byte8,b8_yes h3,b8_yes h4,g1,g2,g3,g4,e0,↓DD,UU,↓reduceIte,xE];exact hsub _
 ·have g3:(k == 0)=false:=by simp [h6]
  have e0:putPg k a b=k+16*a+4096*b:=by unfold putPg;rw[if_pos (by omega)]
  by_cases h8:k=2
  ·have g1:(k != 2)=false:=by simp [h8]
   simp only[e1,e2,u_byte8,b8_yes h3,b8_yes h4,g1,g3,e0,wrap_wu,w1,w2,w3,s1,s2,t1,t2,↓DD,UU,↓reduceIte,xE,xL,xM];exact hsub _
  ·have g1:(k != 2)=true:=by simp [h8]
   have g2:(b != 0)=false:=by simp;omega
   simp only[e1,e2,u_byte8,b8_yes h3,b8_yes h4,g1,g2,g3,e0,wrap_wu,w1,w2,w3,s1,s2,t1,t2,↓DD,UU,↓reduceIte,xE,xL,xM];exact hsub _
theorem u_putpg (k a b:Int):pv Tryz.prog 69 #[.agg #[.int .i64 k,.int .i64 a,.int .i64 b]] = some (.int .u64 (putPg k a b)):=pv_of (q_putpg k a b)
theorem q_puten (p i k:Int):PureC Tryz.prog 67 #[.agg #[.int .i64 p,.int .i64 i,.int .i64 k]] (.int .u64 (putEn p i k)):=by
 refine PureC.of mixed Tryz.func67 (by kernel_rfl) tr67 (by show 1≤_;decide) fun W H=>?_
 simp only[↓DD,UU]
 refine newB_intro fun x hx f1 f2=>?_
 have hsub:∀ o,Sub H (upd H x o):=fun o=>(Sub.refl H).new f1
 by_cases h1:0≤p∧p≤255
 rotate_left
 ·have e0:putEn p i k=0:=by unfold putEn;rw[if_neg (by omega)]
  simp only[u_byte8,b8_no h1,e0,↓DD,UU,↓reduceIte,xE];exact hsub _
 by_cases h2:0≤i∧i≤255
 rotate_left
 ·have e0:putEn p i k=0:=by unfold putEn;rw[if_neg (by omega)]
  simp only[u_byte8,b8_yes h1,b8_no h2,e0,↓DD,UU,↓reduceIte,xE];exact hsub _
 by_cases h3:0≤k∧k≤255
 rotate_left
 ·have e0:putEn p i k=0:=by unfold putEn;rw[if_neg (by omega)]
  simp only[u_byte8,b8_yes h1,b8_yes h2,b8_no h3,e0,↓DD,UU,↓reduceIte,xE];exact hsub _
 have w1:wu p=p:=wu_eq (by omega) (by omega)
 have w2:wu i=i:=wu_eq (by omega) (by omega)
 have w3:wu k=k:=wu_eq (by omega) (by omega)
 have s1:=shl4 (a:=p) (by omega) (by omega)
 have s2:=shl12 (a:=i) (by omega) (by omega)
 have s3:=shl20 (a:=k) (by omega) (by omega)
 have t1:=or4 (k:=1) (a:=p) (by omega) (by omega) (by omega) (by omega)
 have t2:=or12 (k:=1+16*p) (a:=i) (by omega) (by omega) (by omega) (by omega)
 have t3:=or20 (k:=1+16*p+4096*i) (a:=k) (by omega) (by omega) (by omega) (by omega)
 have e0:putEn p i k=1+16*p+4096*i+1048576*k:=by unfold putEn;rw[if_pos (by omega)]
 simp only[u_byte8,b8_yes h1,b8_yes h2,b8_yes h3,e0,wrap_wu,w1,w2,w3,s1,s2,s3,t1,t2,t3,↓DD,UU,↓reduceIte,xE,xL,xM];exact hsub _
theorem u_puten (p i k:Int):pv Tryz.prog 67 #[.agg #[.int .i64 p,.int .i64 i,.int .i64 k]] = some (.int .u64 (putEn p i k)):=pv_of (q_puten p i k)
end

end Go.Proofs.YtkjpgikjcfhckaaGreat
