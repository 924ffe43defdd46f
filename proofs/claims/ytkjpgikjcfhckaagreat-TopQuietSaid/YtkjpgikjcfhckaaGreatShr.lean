/-
 The place among so many that a share of them says, whatever the float is. Conditions: none.
-/
import Derived.Test.YtkjpgikjcfhckaaGreatCodeX
import Derived.Test.YtkjpgikjcfhckaaGreatSep
import Derived.Test.YtkjpgikjcfhckaaGreatCode
import Derived.Test.YtkjpgikjcfhckaaGreatSimp
import Derived.Test.YtkjpgikjcfhckaaGreatPl
import Derived.Test.YtkjpgikjcfhckaaGreatFl
open Nat renaming reduceAdd→xA,reduceMul→xB,reduceSub→xC,reduceEqDiff→xD,reduceBEq→xE,reduceLeDiff→xF,reduceLT→xG
open Int renaming reduceAdd→xH,reduceMul→xI,reduceSub→xJ,reduceLT→xK,reduceLE→xL,reduceToNat→xM,reduceEq→xN,reduceNe→xO,reduceBEq→xP,reduceBNe→xQ
set_option linter.unusedVariables false
set_option linter.unusedSectionVars false
set_option linter.unusedSimpArgs false
set_option maxRecDepth 8000
namespace Go.Proofs.YtkjpgikjcfhckaaGreat
open Go Go.Ev Go.Pl Ieee
def shOne:Nat:=4607182418800017408
def shv (x:Nat) (n:Int):Option Int:=(floatBits .mul .f64 x (floatOfInt .f64 n)).bind fun r=>floatToIntVal .f64 r .i64
def shrv (x:Nat) (n:Int):Int:=
 if(double.order x x != some .eq) || (double.order x 0 == some .lt) then 0
 else if(double.order x shOne == some .gt) || (double.order x shOne == some .eq) then n - 1
 else match shv x n with
  | some v=>if n - 1<v then n - 1 else v
  | none=>0
theorem ord_lt {x:Nat} (h1:double.order x x=some .eq) (h2:double.order x shOne≠some .gt) (h3:double.order x shOne≠some .eq):double.order x shOne=some .lt:=by
 unfold Format.order at h1 h2 h3 ⊢
 have r1:double.read shOne=.number false 4503599627370496 (-52):=by decide
 rw[r1]at h2 h3 ⊢
 cases hx:double.read x with
 | nan=>rw[hx]at h1;cases h1
 | infinity s=>rw[hx]at h2;cases s<;>first | rfl | exact absurd rfl h2
 |number s m i=>
  rw[hx]at h2 h3
  show some (compare _ _)=some .lt
  have h2:some (compare (signed s m (i - min i (-52)).toNat) (signed false 4503599627370496 (-52 - min i (-52)).toNat))≠some .gt:=h2
  have h3:some (compare (signed s m (i - min i (-52)).toNat) (signed false 4503599627370496 (-52 - min i (-52)).toNat))≠some .eq:=h3
  cases hc:compare (signed s m (i - min i (-52)).toNat) (signed false 4503599627370496 (-52 - min i (-52)).toNat) with
  | lt=>rfl
  | eq=>rw[hc]at h3;exact absurd rfl h3
  | gt=>rw[hc]at h2;exact absurd rfl h2
theorem shv_some {x:Nat} {n:Int} (h0:1≤n) (h1:n≤64) (hx:double.order x x=some .eq) (hl:double.order x 0≠some .lt) (h2:double.order x shOne≠some .gt) (h3:double.order x shOne≠some .eq) :
  ∃ r v,floatBits .mul .f64 x (floatOfInt .f64 n)=some r∧floatToIntVal .f64 r .i64=some v∧0≤v∧shv x n=some v:=by
 obtain⟨N,hN⟩:∃ N:Nat,(N:Int)=n:=⟨n.toNat,by omega⟩
 obtain⟨r,v,e1,e2,e3⟩:=Go.Fl.share (n:=N) (x:=x) (by omega) hl (ord_lt hx h2 h3)
 rw[hN]at e1
 exact⟨r,v,e1,e2,e3,by unfold shv;rw[e1];exact e2⟩
theorem shrv_bd (x:Nat) {n:Int} (h0:1≤n) (h1:n≤64):0≤shrv x n∧shrv x n<n:=by
 unfold shrv
 split
 ·omega
 ·rename_i g
  split
  ·omega
  ·rename_i g2
   simp only[Bool.or_eq_true,bne_iff_ne,beq_iff_eq,not_or,Decidable.not_not]at g g2
   obtain⟨r,v,e1,e2,e3,e4⟩:=shv_some h0 h1 g.1 g.2 g2.1 g2.2
   rw[e4]
   dsimp only
   split<;>omega
theorem shrv_zero (n:Int) (h0:1≤n) (h1:n≤64):shrv 0 n=0:=by
 obtain⟨N,hN⟩:∃ N:Nat,(N:Int)=n:=⟨n.toNat,by omega⟩
 have h:∀ n:Fin 65,1≤n.val→shrv 0 ((n.val:Nat):Int)=0:=by decide +kernel
 have:=h ⟨N,by omega⟩ (by show 1≤N;omega)
 rw[← hN];exact this
section
variable {W:World} {H:Hp} {l:List Hp} {x:Nat}
theorem c_isnan (hS:Sep l H):CallP Tryz.prog W 134 #[.float .f64 x] H fun v H'=>v=.bool (double.order x x != some .eq)∧Sep l H':=by
 refine CallP.of mixed Tryz.func134 tr134 (by show 1≤_;decide) fun W _=>?_
 simp only[↓o_fcm,onFl_mk,fcompared,↓DD,UU,xE]
 exact⟨rfl,hS⟩
theorem c_isinf (y:Int) (hy:y=1∨y=-1) (hS:Sep l H):CallP Tryz.prog W 135 #[.float .f64 x,.int .i64 y] H fun v H'=>(∃ b,v=.bool b)∧Sep l H':=by
 refine CallP.of mixed Tryz.func135 tr135 (by show 2≤_;decide) fun W _=>?_
 rcases hy with rfl | rfl
 all_goals
  simp only[↓o_fcm,↓o_fng,onFl_mk,fcompared,↓DD,UU,xA,xE,xK,xP]
  exact⟨⟨_,rfl⟩,hS⟩
theorem c_kind (hS:Sep l H):CallP Tryz.prog W 123 #[.float .f64 x] H fun v H'=>(∃ k:Int,v=.int .i64 k∧(k == 0)=(double.order x x != some .eq))∧Sep l H':=by
 refine CallP.of mixed Tryz.func123 tr123 (by show 1≤_;decide) fun W _=>?_
 simp only[↓DD,UU,xE]
 refine callT_of (c_isnan hS) ?_
 rintro v H' ⟨rfl,hS⟩
 cases hn:(double.order x x != some .eq)
 rotate_left
 ·simp only[↓DD,UU]
  exact⟨⟨0,rfl,rfl⟩,hS⟩
 simp only[↓DD,UU,xE]
 refine callT_of (c_isinf (-1) (.inr rfl) hS) ?_
 rintro v H' ⟨⟨b,rfl⟩,hS⟩
 cases b
 rotate_left
 ·simp only[↓DD,UU]
  exact⟨⟨1,rfl,rfl⟩,hS⟩
 simp only[↓DD,UU,xE]
 refine callT_of (c_isinf 1 (.inl rfl) hS) ?_
 rintro v H' ⟨⟨b,rfl⟩,hS⟩
 cases b
 rotate_left
 ·simp only[↓DD,UU]
  exact⟨⟨5,rfl,rfl⟩,hS⟩
 simp only[↓o_fcm,onFl_mk,fcompared,↓DD,UU,xE]
 refine both_intro (fun g=>?_) (fun g=>?_)<;>simp only[g,↓o_fcm,onFl_mk,fcompared,↓DD,UU,xE]
 ·exact⟨⟨2,rfl,rfl⟩,hS⟩
 refine both_intro (fun g=>?_) (fun g=>?_)<;>simp only[g,↓DD,UU]
 ·exact⟨⟨4,rfl,rfl⟩,hS⟩
 ·exact⟨⟨3,rfl,rfl⟩,hS⟩
theorem c_share {n:Int} (h0:1≤n) (h1:n≤64) (hS:Sep l H):CallP Tryz.prog W 105 #[.float .f64 x,.int .i64 n] H fun v H'=>v=.int .i64 (shrv x n)∧Sep l H':=by
 refine CallP.of mixed Tryz.func105 tr105 (by show 2≤_;decide) fun W _=>?_
 have g1:decide (n<1)=false:=decide_eq_false (by omega)
 have wn:w64 (n - 1)=n - 1:=w64_eq (by omega) (by omega)
 have e0:FloatKind.f64.format=double:=rfl
 simp only[g1,↓DD,UU,xA,xE]
 refine callT_of (c_kind hS) ?_
 rintro v H' ⟨⟨k,rfl,hk⟩,hS⟩
 unfold shrv
 cases hn:(double.order x x != some .eq)
 rotate_left
 ·simp only[hk,hn,↓DD,UU,↓reduceIte,xA,xE]
  first | exact hS | exact⟨rfl,hS⟩
 cases hl:(double.order x 0 == some .lt)
 rotate_left
 ·simp only[hk,hn,hl,↓o_fcm,onFl_mk,fcompared,e0,↓DD,UU,↓reduceIte,xA,xE]
  first | exact hS | exact⟨rfl,hS⟩
 cases hg:((double.order x shOne == some .gt) || (double.order x shOne == some .eq))
 rotate_left
 ·have hg':=hg
  unfold shOne at hg'
  simp only[hk,hn,hl,hg',wrap_w64,wn,↓o_fcm,onFl_mk,fcompared,e0,↓DD,UU,↓reduceIte,xA,xE]
  first | exact hS | exact⟨rfl,hS⟩
 have hg':=hg
 unfold shOne at hg'
 simp only[Bool.or_eq_false_iff,bne_eq_false_iff_eq,beq_eq_false_iff_ne]at hn hl hg
 obtain⟨r,v,e1,e2,e3,e4⟩:=shv_some h0 h1 hn hl hg.1 hg.2
 have hn':(double.order x x != some .eq)=false:=by rw[hn];rfl
 have hl':(double.order x 0 == some .lt)=false:=by simpa using hl
 rw[e4]
 simp only[hk,hn',hl',hg',e1,e2,wrap_w64,wn,↓o_fcm,↓o_far,↓o_fcv,↓o_fti,onFl_mk,fcompared,e0,↓DD,UU,↓reduceIte,xA,xE]
 first | exact hS | exact⟨rfl,hS⟩
end
end Go.Proofs.YtkjpgikjcfhckaaGreat
