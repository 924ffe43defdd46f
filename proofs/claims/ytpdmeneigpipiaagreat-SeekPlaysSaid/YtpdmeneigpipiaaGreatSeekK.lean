/-
  Chapter 13's awake: one empty page is bound. Conditions: none.
-/
import Derived.Test.YtpdmeneigpipiaaGreatCodeAllotmentlaw13
import Derived.Test.YtpdmeneigpipiaaGreatSeek
import Derived.Test.YtpdmeneigpipiaaGreatMaIts
import Derived.Test.YtpdmeneigpipiaaGreatRow
set_option linter.unusedVariables false
set_option linter.unusedSectionVars false
set_option linter.unusedSimpArgs false
set_option maxRecDepth 8000
namespace Go.Ma
namespace Sk
theorem its_all {t : Sk} {w : Wd} {s : Sh} (h : t.wf) (ho : w.of s) (n : Nat) : (its Sk.step n t w).1.wf ∧ (its Sk.step n t w).2.of s ∧ Kp t (its Sk.step n t w).1 :=
  its_inv (P := fun (x : Sk) (y : Wd) => x.wf ∧ y.of s ∧ Kp t x) (fun x y ⟨h1, h2, h3⟩ => by
    have hk := step_kp (t := x) (w := y)
    exact ⟨step_wf h1, step_of h2, hk.1.trans h3.1, hk.2.1.trans h3.2.1, hk.2.2.1.trans h3.2.2.1, hk.2.2.2.trans h3.2.2.2⟩) ⟨h, ho, Kp.refl t⟩ n
theorem left_step {t : Sk} {w : Wd} {m : Int} (h : t.wf) (hl : t.left ≤ max 0 m) : (t.step w).1.left ≤ max 0 (m - 1) := by
  cases hd : t.dn
  · have := step_left (w := w) h hd; omega
  · rw [step_dn hd]
    have := left_0 hd
    show t.left ≤ _; omega
end Sk
end Go.Ma
namespace Go.Proofs.YtpdmeneigpipiaaGreat
open Go Go.Ev Go.Pl Go.Ma

def akT : Sk := Sk.new ⟨1, 1, 0⟩ 0 3 0
def akW : Wd := rowW 18 fun _ => 0
theorem ak_of : akW.of ⟨1, 1, 0⟩ := ⟨by decide, fun i => by
  show U (if _ then _ else _)
  split <;> exact U_0⟩
theorem ak_end : (its Sk.step 21 akT akW).1.dn = true ∧ (its Sk.step 21 akT akW).1.fd = true ∧ (its Sk.step 21 akT akW).1.pg = 0 ∧ (its Sk.step 21 akT akW).1.sl = 0 ∧ (its Sk.step 21 akT akW).2.st = 21 := by decide +kernel

section
variable {W : World} {H : Hp} {l : List Hp}
theorem c_blank {sh : Sh} {N : Nat} (hN : words sh.p sh.c sh.m = (N : Int)) (hN2 : N ≤ 2000) (hS : Sep l H) : CallP Tryz.prog W 120 #[.agg #[.int .i64 sh.p, .int .i64 sh.c, .int .i64 sh.m]] H fun v H' => ∃ y, v = .slice (some ⟨y, 0, none⟩) N N ∧ Sep (sg y (.cells (urow N fun _ => 0) 30 (0, 0)) :: l) H' := by
  refine CallP.of mixed Tryz.func120 tr120 (by show 1 ≤ _; decide) fun W _ => ?_
  simp only [↓D0, ↓D1, ↓D2, ↓D3, ↓D4, ↓D5, ↓D6, ↓D7, ↓D8, ↓D9, ↓D10, U0, U1, U2, U3, U4, U5, U6, U7, U8, U9, U10, ↓reduceIte, Nat.reduceAdd, Nat.reduceMul, Nat.reduceSub, Nat.reduceEqDiff, Nat.reduceBEq, Nat.reduceLeDiff, Nat.reduceLT, Int.reduceAdd, Int.reduceMul, Int.reduceSub, Int.reduceLT, Int.reduceLE, Int.reduceToNat, Int.reduceEq, Int.reduceNe, Int.reduceBEq, Int.reduceBNe, ne_eq, eq_self]
  refine newB_intro fun x hx f1 f2 => ?_
  have hS := hS.new f1 (.cells #[.int .i64 sh.p, .int .i64 sh.c, .int .i64 sh.m] 23 (0, 0))
  have hx1 := hS.look
  have r1 := fun o n => rdn_of hx1 o n
  have g0 : (0 : Int) ≤ (N : Int) := by omega
  have g1 : (N : Int) ≤ (N : Int) := by omega
  have g2 : 8 * (N : Int) ≤ 281474976710656 := by omega
  have g3 : (N : Int) ≤ 9223372036854775807 := by omega
  simp only [hx1, r1, u_words, hN, g0, g1, g2, g3, Int.toNat_natCast, ↓D0, ↓D1, ↓D2, ↓D3, ↓D4, ↓D5, ↓D6, ↓D7, ↓D8, ↓D9, ↓D10, U0, U1, U2, U3, U4, U5, U6, U7, U8, U9, U10, ↓reduceIte, Nat.reduceAdd, Nat.reduceMul, Nat.reduceSub, Nat.reduceEqDiff, Nat.reduceBEq, Nat.reduceLeDiff, Nat.reduceLT, Int.reduceAdd, Int.reduceMul, Int.reduceSub, Int.reduceLT, Int.reduceLE, Int.reduceToNat, Int.reduceEq, Int.reduceNe, Int.reduceBEq, Int.reduceBNe, ne_eq, eq_self]
  refine newB_intro fun y hy f3 f4 => ?_
  simp only [urow_zero, ↓D0, ↓D1, ↓D2, ↓D3, ↓D4, ↓D5, ↓D6, ↓D7, ↓D8, ↓D9, ↓D10, U0, U1, U2, U3, U4, U5, U6, U7, U8, U9, U10, ↓reduceIte, Nat.reduceAdd, Nat.reduceMul, Nat.reduceSub, Nat.reduceEqDiff, Nat.reduceBEq, Nat.reduceLeDiff, Nat.reduceLT, Int.reduceAdd, Int.reduceMul, Int.reduceSub, Int.reduceLT, Int.reduceLE, Int.reduceToNat, Int.reduceEq, Int.reduceNe, Int.reduceBEq, Int.reduceBNe, ne_eq, eq_self]
  exact ⟨y, rfl, (hS.new f3 _).p1.tail⟩
def akI (k b s : Nat) (l : List Hp) (F' : Fr) (H' : Hp) : Prop :=
  ∃ (i kn : Nat), i ≤ 21 ∧ gt F' 4 = .int .i64 (i : Int) ∧ gt F' 2 = .pointer (some ⟨b, 0, none⟩) ∧ gt F' 3 = .pointer (some ⟨k, 0, none⟩) ∧
    Sep (skB k kn (its Sk.step i akT akW).1 :: nwB kn (its Sk.step i akT akW).1.nw :: wB b s (its Sk.step i akT akW).2 :: wR s (its Sk.step i akT akW).2 :: l) H'
theorem c_awake13 (hS : Sep l H) : CallP Tryz.prog W 31 #[] H fun v H' => v = .bool true ∧ Sep l H' := by
  refine CallP.of mixed Tryz.func31 tr31 (by show 0 ≤ _; decide) fun W _ => ?_
  have e1 : words 1 1 0 = ((18 : Nat) : Int) := by decide
  simp only [↓D0, ↓D1, ↓D2, ↓D3, ↓D4, ↓D5, ↓D6, ↓D7, ↓D8, ↓D9, ↓D10, U0, U1, U2, U3, U4, U5, U6, U7, U8, U9, U10, ↓reduceIte, Nat.reduceAdd, Nat.reduceMul, Nat.reduceSub, Nat.reduceEqDiff, Nat.reduceBEq, Nat.reduceLeDiff, Nat.reduceLT, Int.reduceAdd, Int.reduceMul, Int.reduceSub, Int.reduceLT, Int.reduceLE, Int.reduceToNat, Int.reduceEq, Int.reduceNe, Int.reduceBEq, Int.reduceBNe, ne_eq, eq_self]
  refine newB_intro fun x hx f1 f2 => ?_
  simp only [↓D0, ↓D1, ↓D2, ↓D3, ↓D4, ↓D5, ↓D6, ↓D7, ↓D8, ↓D9, ↓D10, U0, U1, U2, U3, U4, U5, U6, U7, U8, U9, U10, ↓reduceIte, Nat.reduceAdd, Nat.reduceMul, Nat.reduceSub, Nat.reduceEqDiff, Nat.reduceBEq, Nat.reduceLeDiff, Nat.reduceLT, Int.reduceAdd, Int.reduceMul, Int.reduceSub, Int.reduceLT, Int.reduceLE, Int.reduceToNat, Int.reduceEq, Int.reduceNe, Int.reduceBEq, Int.reduceBNe, ne_eq, eq_self]
  have hS1 := hS.new f1 (.cells #[.int .i64 1, .int .i64 1, .int .i64 0] 23 (0, 0))
  refine callT_of (c_blank (sh := ⟨1, 1, 0⟩) e1 (by decide) hS1) ?_
  rintro v H' ⟨y, rfl, hS⟩
  simp only [↓D0, ↓D1, ↓D2, ↓D3, ↓D4, ↓D5, ↓D6, ↓D7, ↓D8, ↓D9, ↓D10, U0, U1, U2, U3, U4, U5, U6, U7, U8, U9, U10, ↓reduceIte, Nat.reduceAdd, Nat.reduceMul, Nat.reduceSub, Nat.reduceEqDiff, Nat.reduceBEq, Nat.reduceLeDiff, Nat.reduceLT, Int.reduceAdd, Int.reduceMul, Int.reduceSub, Int.reduceLT, Int.reduceLE, Int.reduceToNat, Int.reduceEq, Int.reduceNe, Int.reduceBEq, Int.reduceBNe, ne_eq, eq_self]
  refine callT_of (c_fill (n := 18) (by decide) (RowU.own y 18 _ _ _) hS) ?_
  rintro v H' ⟨b, s, rfl, hS⟩
  have hx := hS.lk 3 rfl
  have r2 := fun o n => rdn_of hx o n
  simp only [hx, r2, ↓D0, ↓D1, ↓D2, ↓D3, ↓D4, ↓D5, ↓D6, ↓D7, ↓D8, ↓D9, ↓D10, U0, U1, U2, U3, U4, U5, U6, U7, U8, U9, U10, ↓reduceIte, Nat.reduceAdd, Nat.reduceMul, Nat.reduceSub, Nat.reduceEqDiff, Nat.reduceBEq, Nat.reduceLeDiff, Nat.reduceLT, Int.reduceAdd, Int.reduceMul, Int.reduceSub, Int.reduceLT, Int.reduceLE, Int.reduceToNat, Int.reduceEq, Int.reduceNe, Int.reduceBEq, Int.reduceBNe, ne_eq, eq_self]
  refine callT_of (c_sknew (sh := ⟨1, 1, 0⟩) hS) ?_
  rintro v H' ⟨k, kn, rfl, hS⟩
  have hwf : akT.wf := Sk.new_wf ⟨1, 1, 0⟩ 0 3 0
  obtain ⟨z1, z2, z3, z4, z5⟩ := ak_end
  simp only [↓D0, ↓D1, ↓D2, ↓D3, ↓D4, ↓D5, ↓D6, ↓D7, ↓D8, ↓D9, ↓D10, U0, U1, U2, U3, U4, U5, U6, U7, U8, U9, U10, ↓reduceIte, Nat.reduceAdd, Nat.reduceMul, Nat.reduceSub, Nat.reduceEqDiff, Nat.reduceBEq, Nat.reduceLeDiff, Nat.reduceLT, Int.reduceAdd, Int.reduceMul, Int.reduceSub, Int.reduceLT, Int.reduceLE, Int.reduceToNat, Int.reduceEq, Int.reduceNe, Int.reduceBEq, Int.reduceBNe, ne_eq, eq_self]
  refine loop_intro (akI k b s l) (fun F' _ => (21 - iv (gt F' 4)).toNat) ⟨0, kn, by decide, rfl, rfl, rfl, hS.p5.tail.p4.tail⟩ ?_
  rintro F' H' ⟨i, kn, hi, e4, e2, e3, hS⟩
  obtain ⟨h1, h2, h3⟩ := Sk.its_all hwf ak_of i
  by_cases hlt : i < 21
  · have g1 : decide ((i : Int) < 21) = true := decide_eq_true (by omega)
    have w1 : w64 ((i : Int) + 1) = ((i + 1 : Nat) : Int) := by rw [w64_eq (by omega) (by omega)]; omega
    simp only [e4, e2, e3, g1, ↓D0, ↓D1, ↓D2, ↓D3, ↓D4, ↓D5, ↓D6, ↓D7, ↓D8, ↓D9, ↓D10, U0, U1, U2, U3, U4, U5, U6, U7, U8, U9, U10, ↓reduceIte, Nat.reduceAdd, Nat.reduceMul, Nat.reduceSub, Nat.reduceEqDiff, Nat.reduceBEq, Nat.reduceLeDiff, Nat.reduceLT, Int.reduceAdd, Int.reduceMul, Int.reduceSub, Int.reduceLT, Int.reduceLE, Int.reduceToNat, Int.reduceEq, Int.reduceNe, Int.reduceBEq, Int.reduceBNe, ne_eq, eq_self]
    refine callT_of (c_skstep h1 (fun _ => by rw [h3.1]; exact h2) hS) ?_
    rintro v H' ⟨rfl, kn2, hS⟩
    simp only [e4, e2, e3, wrap_w64, w1, ↓D0, ↓D1, ↓D2, ↓D3, ↓D4, ↓D5, ↓D6, ↓D7, ↓D8, ↓D9, ↓D10, U0, U1, U2, U3, U4, U5, U6, U7, U8, U9, U10, ↓reduceIte, Nat.reduceAdd, Nat.reduceMul, Nat.reduceSub, Nat.reduceEqDiff, Nat.reduceBEq, Nat.reduceLeDiff, Nat.reduceLT, Int.reduceAdd, Int.reduceMul, Int.reduceSub, Int.reduceLT, Int.reduceLE, Int.reduceToNat, Int.reduceEq, Int.reduceNe, Int.reduceBEq, Int.reduceBNe, ne_eq, eq_self]
    exact ⟨⟨i + 1, kn2, by omega, rfl, by simp [gt, e2], by simp [gt, e3], hS⟩, by simp [gt, iv, e4]; omega⟩
  · have hin : i = 21 := by omega
    subst hin
    have g1 : decide (((21 : Nat) : Int) < 21) = false := by decide
    simp only [e4, e2, e3, g1, ↓D0, ↓D1, ↓D2, ↓D3, ↓D4, ↓D5, ↓D6, ↓D7, ↓D8, ↓D9, ↓D10, U0, U1, U2, U3, U4, U5, U6, U7, U8, U9, U10, ↓reduceIte, Nat.reduceAdd, Nat.reduceMul, Nat.reduceSub, Nat.reduceEqDiff, Nat.reduceBEq, Nat.reduceLeDiff, Nat.reduceLT, Int.reduceAdd, Int.reduceMul, Int.reduceSub, Int.reduceLT, Int.reduceLE, Int.reduceToNat, Int.reduceEq, Int.reduceNe, Int.reduceBEq, Int.reduceBNe, ne_eq, eq_self]
    refine callT_of (c_skfound hS) ?_
    rintro v H' ⟨rfl, hS⟩
    simp only [e4, e2, e3, z2, z3, z4, ↓D0, ↓D1, ↓D2, ↓D3, ↓D4, ↓D5, ↓D6, ↓D7, ↓D8, ↓D9, ↓D10, U0, U1, U2, U3, U4, U5, U6, U7, U8, U9, U10, ↓reduceIte, Nat.reduceAdd, Nat.reduceMul, Nat.reduceSub, Nat.reduceEqDiff, Nat.reduceBEq, Nat.reduceLeDiff, Nat.reduceLT, Int.reduceAdd, Int.reduceMul, Int.reduceSub, Int.reduceLT, Int.reduceLE, Int.reduceToNat, Int.reduceEq, Int.reduceNe, Int.reduceBEq, Int.reduceBNe, ne_eq, eq_self]
    refine callT_of (c_skdone hS) ?_
    rintro v H' ⟨rfl, hS⟩
    simp only [e4, e2, e3, z1, ↓D0, ↓D1, ↓D2, ↓D3, ↓D4, ↓D5, ↓D6, ↓D7, ↓D8, ↓D9, ↓D10, U0, U1, U2, U3, U4, U5, U6, U7, U8, U9, U10, ↓reduceIte, Nat.reduceAdd, Nat.reduceMul, Nat.reduceSub, Nat.reduceEqDiff, Nat.reduceBEq, Nat.reduceLeDiff, Nat.reduceLT, Int.reduceAdd, Int.reduceMul, Int.reduceSub, Int.reduceLT, Int.reduceLE, Int.reduceToNat, Int.reduceEq, Int.reduceNe, Int.reduceBEq, Int.reduceBNe, ne_eq, eq_self]
    refine callT_of (c_steps hS.tail.tail) ?_
    rintro v H' ⟨rfl, hS⟩
    simp only [e4, e2, e3, z5, ↓D0, ↓D1, ↓D2, ↓D3, ↓D4, ↓D5, ↓D6, ↓D7, ↓D8, ↓D9, ↓D10, U0, U1, U2, U3, U4, U5, U6, U7, U8, U9, U10, ↓reduceIte, Nat.reduceAdd, Nat.reduceMul, Nat.reduceSub, Nat.reduceEqDiff, Nat.reduceBEq, Nat.reduceLeDiff, Nat.reduceLT, Int.reduceAdd, Int.reduceMul, Int.reduceSub, Int.reduceLT, Int.reduceLE, Int.reduceToNat, Int.reduceEq, Int.reduceNe, Int.reduceBEq, Int.reduceBNe, ne_eq, eq_self]
    exact hS.tail.tail
end
end Go.Proofs.YtpdmeneigpipiaaGreat
