/-
  Chapter 14's awake: a row of two empty pages is found. Conditions: none.
-/
import Derived.Test.YtfopnendmcpglaaCodeAllotmentlaw14
import Derived.Test.YtfopnendmcpglaaRun
import Derived.Test.YtfopnendmcpglaaMaIts
import Derived.Test.YtfopnendmcpglaaRow
set_option linter.unusedVariables false
set_option linter.unusedSimpArgs false
set_option maxRecDepth 8000
namespace Go.Ma
namespace Rn
theorem its_all {t : Rn} {w : Wd} {s : Sh} (h : t.wf) (ho : w.of s) (n : Nat) : (its Rn.step n t w).1.wf ∧ (its Rn.step n t w).2.of s ∧ (its Rn.step n t w).1.s = t.s ∧ (its Rn.step n t w).1.c = t.c ∧ (its Rn.step n t w).1.n = t.n :=
  its_inv (P := fun (x : Rn) (y : Wd) => x.wf ∧ y.of s ∧ x.s = t.s ∧ x.c = t.c ∧ x.n = t.n) (fun x y ⟨h1, h2, h3, h4, h5⟩ => by
    have hk := step_k h1 y
    exact ⟨step_wf h1 y, step_of h1 h2, hk.1.trans h3, hk.2.1.trans h4, hk.2.2.trans h5⟩) ⟨h, ho, rfl, rfl, rfl⟩ n
theorem left_step {t : Rn} {w : Wd} {m : Int} (h : t.wf) (hl : t.left ≤ max 0 m) : (t.step w).1.left ≤ max 0 (m - 1) := by
  cases hd : t.dn
  · have := step_left (w := w) h hd; omega
  · rw [step_dn hd]
    have := left_0 hd
    show t.left ≤ _; omega
end Rn
end Go.Ma
namespace Go.Proofs.Ytfopnendmcpglaa
open Go Go.Ev Go.Pl Go.Ma

def rkT : Rn := Rn.new ⟨3, 1, 0⟩ 0 2
def rkR : Nat → Int := fun j => if j = 1 then putPg 3 1 0 else 0
def rkW : Wd := rowW 52 rkR
theorem rk_of : rkW.of ⟨3, 1, 0⟩ := ⟨by decide, fun i => by
  show U (if _ then (if _ then _ else _) else _)
  split
  · split
    · exact U_putPg ..
    · exact U_0
  · exact U_0⟩
theorem rk_end : (its Rn.step 6 rkT rkW).1.dn = true ∧ (its Rn.step 6 rkT rkW).1.fd = true ∧ (its Rn.step 6 rkT rkW).1.hd = 1 ∧ (its Rn.step 6 rkT rkW).2.st = 6 ∧ (its Rn.step 6 rkT rkW).2.get 3 = putPg 4 1 0 ∧ (its Rn.step 6 rkT rkW).2.n = 52 := by decide +kernel

section
variable {W : World} {H : Hp} {l : List Hp}
def rkI (k b s : Nat) (l : List Hp) (F' : Fr) (H' : Hp) : Prop :=
  ∃ (i ks : Nat), i ≤ 6 ∧ gt F' 5 = .int .i64 (i : Int) ∧ gt F' 3 = .pointer (some ⟨b, 0, none⟩) ∧ gt F' 4 = .pointer (some ⟨k, 0, none⟩) ∧
    Sep (rnB k ks (its Rn.step i rkT rkW).1 :: stO ks (its Rn.step i rkT rkW).1.st :: wB b s (its Rn.step i rkT rkW).2 :: wR s (its Rn.step i rkT rkW).2 :: l) H'
theorem c_awake14 (hS : Sep l H) : CallP Try.prog W 12 #[] H fun v H' => v = .bool true ∧ Sep l H' := by
  refine CallP.of mixed Try.func12 tr12 (by show 0 ≤ _; decide) fun W _ => ?_
  have e1 : words 3 1 0 = 52 := by decide
  simp only [↓D0, ↓D1, ↓D2, ↓D3, ↓D4, ↓D5, ↓D6, ↓D7, ↓D8, ↓D9, ↓D10, U0, U1, U2, U3, U4, U5, U6, U7, U8, U9, U10, ↓reduceIte, Nat.reduceAdd, Nat.reduceMul, Nat.reduceSub, Nat.reduceEqDiff, Nat.reduceBEq, Nat.reduceLeDiff, Nat.reduceLT, Int.reduceAdd, Int.reduceMul, Int.reduceSub, Int.reduceLT, Int.reduceLE, Int.reduceToNat, Int.reduceEq, Int.reduceNe, Int.reduceBEq, Int.reduceBNe, ne_eq, eq_self]
  refine newB_intro fun x hx f1 f2 => ?_
  simp only [u_words, e1, ↓D0, ↓D1, ↓D2, ↓D3, ↓D4, ↓D5, ↓D6, ↓D7, ↓D8, ↓D9, ↓D10, U0, U1, U2, U3, U4, U5, U6, U7, U8, U9, U10, ↓reduceIte, Nat.reduceAdd, Nat.reduceMul, Nat.reduceSub, Nat.reduceEqDiff, Nat.reduceBEq, Nat.reduceLeDiff, Nat.reduceLT, Int.reduceAdd, Int.reduceMul, Int.reduceSub, Int.reduceLT, Int.reduceLE, Int.reduceToNat, Int.reduceEq, Int.reduceNe, Int.reduceBEq, Int.reduceBNe, ne_eq, eq_self]
  have hS1 := hS.new f1 (.cells #[.int .i64 3, .int .i64 1, .int .i64 0] 23 (0, 0))
  refine newB_intro fun y hy f3 f4 => ?_
  have hS2 := hS1.new f3 (.cells (Array.replicate 52 (.int .u64 0)) 46 (0, 0))
  have nxy := hS2.qen 0 1 (by decide) rfl rfl
  have nyx := hS2.neq 0 1 (by decide) rfl rfl
  simp only [nxy, nyx, urow_zero, urow_set, urow_size, u_putpg, ↓D0, ↓D1, ↓D2, ↓D3, ↓D4, ↓D5, ↓D6, ↓D7, ↓D8, ↓D9, ↓D10, U0, U1, U2, U3, U4, U5, U6, U7, U8, U9, U10, ↓reduceIte, Nat.reduceAdd, Nat.reduceMul, Nat.reduceSub, Nat.reduceEqDiff, Nat.reduceBEq, Nat.reduceLeDiff, Nat.reduceLT, Int.reduceAdd, Int.reduceMul, Int.reduceSub, Int.reduceLT, Int.reduceLE, Int.reduceToNat, Int.reduceEq, Int.reduceNe, Int.reduceBEq, Int.reduceBNe, ne_eq, eq_self]
  refine callT_of (c_fill (n := 52) (by decide) (RowU.own y 52 _ _ _) (hS1.new f3 _)) ?_
  rintro v H' ⟨b, s, rfl, hS⟩
  have hx := hS.lk 3 rfl
  have r2 := fun o n => rdn_of hx o n
  simp only [hx, r2, ↓D0, ↓D1, ↓D2, ↓D3, ↓D4, ↓D5, ↓D6, ↓D7, ↓D8, ↓D9, ↓D10, U0, U1, U2, U3, U4, U5, U6, U7, U8, U9, U10, ↓reduceIte, Nat.reduceAdd, Nat.reduceMul, Nat.reduceSub, Nat.reduceEqDiff, Nat.reduceBEq, Nat.reduceLeDiff, Nat.reduceLT, Int.reduceAdd, Int.reduceMul, Int.reduceSub, Int.reduceLT, Int.reduceLE, Int.reduceToNat, Int.reduceEq, Int.reduceNe, Int.reduceBEq, Int.reduceBNe, ne_eq, eq_self]
  refine callT_of (c_rnnew (sh := ⟨3, 1, 0⟩) hS) ?_
  rintro v H' ⟨k, rfl, hS⟩
  have hwf : rkT.wf := Rn.new_wf ⟨3, 1, 0⟩ 0 2
  obtain ⟨z1, z2, z3, z4, z5, z6⟩ := rk_end
  simp only [↓D0, ↓D1, ↓D2, ↓D3, ↓D4, ↓D5, ↓D6, ↓D7, ↓D8, ↓D9, ↓D10, U0, U1, U2, U3, U4, U5, U6, U7, U8, U9, U10, ↓reduceIte, Nat.reduceAdd, Nat.reduceMul, Nat.reduceSub, Nat.reduceEqDiff, Nat.reduceBEq, Nat.reduceLeDiff, Nat.reduceLT, Int.reduceAdd, Int.reduceMul, Int.reduceSub, Int.reduceLT, Int.reduceLE, Int.reduceToNat, Int.reduceEq, Int.reduceNe, Int.reduceBEq, Int.reduceBNe, ne_eq, eq_self]
  refine loop_intro (rkI k b s l) (fun F' _ => (6 - iv (gt F' 5)).toNat) ⟨0, 0, by decide, rfl, rfl, rfl, hS.p4.tail.p3.tail.nothing.p1⟩ ?_
  rintro F' H' ⟨i, ks, hi, e5, e3, e4, hS⟩
  obtain ⟨h1, h2, h3, -⟩ := Rn.its_all hwf rk_of i
  by_cases hlt : i < 6
  · have g1 : decide ((i : Int) < 6) = true := decide_eq_true (by omega)
    have w1 : w64 ((i : Int) + 1) = ((i + 1 : Nat) : Int) := by rw [w64_eq (by omega) (by omega)]; omega
    simp only [e5, e3, e4, g1, ↓D0, ↓D1, ↓D2, ↓D3, ↓D4, ↓D5, ↓D6, ↓D7, ↓D8, ↓D9, ↓D10, U0, U1, U2, U3, U4, U5, U6, U7, U8, U9, U10, ↓reduceIte, Nat.reduceAdd, Nat.reduceMul, Nat.reduceSub, Nat.reduceEqDiff, Nat.reduceBEq, Nat.reduceLeDiff, Nat.reduceLT, Int.reduceAdd, Int.reduceMul, Int.reduceSub, Int.reduceLT, Int.reduceLE, Int.reduceToNat, Int.reduceEq, Int.reduceNe, Int.reduceBEq, Int.reduceBNe, ne_eq, eq_self]
    refine callT_of (c_rnstep h1 (fun _ => by rw [h3]; exact h2) hS) ?_
    rintro v H' ⟨rfl, ks2, hS⟩
    simp only [e5, e3, e4, wrap_w64, w1, ↓D0, ↓D1, ↓D2, ↓D3, ↓D4, ↓D5, ↓D6, ↓D7, ↓D8, ↓D9, ↓D10, U0, U1, U2, U3, U4, U5, U6, U7, U8, U9, U10, ↓reduceIte, Nat.reduceAdd, Nat.reduceMul, Nat.reduceSub, Nat.reduceEqDiff, Nat.reduceBEq, Nat.reduceLeDiff, Nat.reduceLT, Int.reduceAdd, Int.reduceMul, Int.reduceSub, Int.reduceLT, Int.reduceLE, Int.reduceToNat, Int.reduceEq, Int.reduceNe, Int.reduceBEq, Int.reduceBNe, ne_eq, eq_self]
    exact ⟨⟨i + 1, ks2, by omega, rfl, by simp [gt, e3], by simp [gt, e4], hS⟩, by simp [gt, iv, e5]; omega⟩
  · have hin : i = 6 := by omega
    subst hin
    have g1 : decide (((6 : Nat) : Int) < 6) = false := by decide
    simp only [e5, e3, e4, g1, ↓D0, ↓D1, ↓D2, ↓D3, ↓D4, ↓D5, ↓D6, ↓D7, ↓D8, ↓D9, ↓D10, U0, U1, U2, U3, U4, U5, U6, U7, U8, U9, U10, ↓reduceIte, Nat.reduceAdd, Nat.reduceMul, Nat.reduceSub, Nat.reduceEqDiff, Nat.reduceBEq, Nat.reduceLeDiff, Nat.reduceLT, Int.reduceAdd, Int.reduceMul, Int.reduceSub, Int.reduceLT, Int.reduceLE, Int.reduceToNat, Int.reduceEq, Int.reduceNe, Int.reduceBEq, Int.reduceBNe, ne_eq, eq_self]
    refine callT_of (c_rnfound hS) ?_
    rintro v H' ⟨rfl, hS⟩
    simp only [e5, e3, e4, z2, z3, ↓D0, ↓D1, ↓D2, ↓D3, ↓D4, ↓D5, ↓D6, ↓D7, ↓D8, ↓D9, ↓D10, U0, U1, U2, U3, U4, U5, U6, U7, U8, U9, U10, ↓reduceIte, Nat.reduceAdd, Nat.reduceMul, Nat.reduceSub, Nat.reduceEqDiff, Nat.reduceBEq, Nat.reduceLeDiff, Nat.reduceLT, Int.reduceAdd, Int.reduceMul, Int.reduceSub, Int.reduceLT, Int.reduceLE, Int.reduceToNat, Int.reduceEq, Int.reduceNe, Int.reduceBEq, Int.reduceBNe, ne_eq, eq_self]
    refine callT_of (c_rndone hS) ?_
    rintro v H' ⟨rfl, hS⟩
    simp only [e5, e3, e4, z1, ↓D0, ↓D1, ↓D2, ↓D3, ↓D4, ↓D5, ↓D6, ↓D7, ↓D8, ↓D9, ↓D10, U0, U1, U2, U3, U4, U5, U6, U7, U8, U9, U10, ↓reduceIte, Nat.reduceAdd, Nat.reduceMul, Nat.reduceSub, Nat.reduceEqDiff, Nat.reduceBEq, Nat.reduceLeDiff, Nat.reduceLT, Int.reduceAdd, Int.reduceMul, Int.reduceSub, Int.reduceLT, Int.reduceLE, Int.reduceToNat, Int.reduceEq, Int.reduceNe, Int.reduceBEq, Int.reduceBNe, ne_eq, eq_self]
    refine callT_of (c_steps hS.tail.tail) ?_
    rintro v H' ⟨rfl, hS⟩
    simp only [e5, e3, e4, z4, ↓D0, ↓D1, ↓D2, ↓D3, ↓D4, ↓D5, ↓D6, ↓D7, ↓D8, ↓D9, ↓D10, U0, U1, U2, U3, U4, U5, U6, U7, U8, U9, U10, ↓reduceIte, Nat.reduceAdd, Nat.reduceMul, Nat.reduceSub, Nat.reduceEqDiff, Nat.reduceBEq, Nat.reduceLeDiff, Nat.reduceLT, Int.reduceAdd, Int.reduceMul, Int.reduceSub, Int.reduceLT, Int.reduceLE, Int.reduceToNat, Int.reduceEq, Int.reduceNe, Int.reduceBEq, Int.reduceBNe, ne_eq, eq_self]
    refine callT_of (c_look 3 (by decide) (by rw [z6]; decide) hS) ?_
    rintro v H' ⟨rfl, hS⟩
    simp only [z5, u_putpg, ↓D0, ↓D1, ↓D2, ↓D3, ↓D4, ↓D5, ↓D6, ↓D7, ↓D8, ↓D9, ↓D10, U0, U1, U2, U3, U4, U5, U6, U7, U8, U9, U10, ↓reduceIte, Nat.reduceAdd, Nat.reduceMul, Nat.reduceSub, Nat.reduceEqDiff, Nat.reduceBEq, Nat.reduceLeDiff, Nat.reduceLT, Int.reduceAdd, Int.reduceMul, Int.reduceSub, Int.reduceLT, Int.reduceLE, Int.reduceToNat, Int.reduceEq, Int.reduceNe, Int.reduceBEq, Int.reduceBNe, ne_eq, eq_self]
    exact hS.tail.tail
end
end Go.Proofs.Ytfopnendmcpglaa
