/-
  Chapter 12's awake: a page is bound. Conditions: none.
-/
import Derived.Test.YtfapipblclikbaaBind
import Derived.Test.YtfapipblclikbaaLawK
import Derived.Test.YtfapipblclikbaaMaIts
set_option linter.unusedVariables false
set_option linter.unusedSimpArgs false
set_option maxRecDepth 8000
namespace Go.Proofs.Ytfapipblclikbaa
open Go Go.Ev Go.Pl Go.Ma

def aw12t : Bi := Bi.new ⟨1, 1, 0⟩ 0 0 3
def aw12w : Wd := rowW 18 fun _ => 0
theorem aw12_end : (its Bi.step 18 aw12t aw12w).1.dn = true ∧ (its Bi.step 18 aw12t aw12w).2.st = 18 ∧ ((its Bi.step 18 aw12t aw12w).2.get 1 == putPg 2 3 0) = true ∧ ((its Bi.step 18 aw12t aw12w).2.get 3 == putSl 1 3) = true := by decide +kernel
theorem aw12_of : aw12w.of ⟨1, 1, 0⟩ := ⟨by decide, fun i => by
  show U (if _ then 0 else _)
  unfold U; split <;> omega⟩

section
variable {W : World} {H : Hp} {l : List Hp}

def aw12I (k b s : Nat) (l : List Hp) (F' : Fr) (H' : Hp) : Prop :=
  ∃ i : Nat, i ≤ 18 ∧ gt F' 4 = .int .i64 (i : Int) ∧ gt F' 2 = .pointer (some ⟨b, 0, none⟩) ∧ gt F' 3 = .pointer (some ⟨k, 0, none⟩) ∧
    Sep (biB k (its Bi.step i aw12t aw12w).1 :: wB b s (its Bi.step i aw12t aw12w).2 :: wR s (its Bi.step i aw12t aw12w).2 :: l) H'
theorem c_awake12 (hS : Sep l H) : CallP Try.prog W 75 #[] H fun v H' => v = .bool true ∧ Sep l H' := by
  refine CallP.of mixed Try.func75 tr75 (by show 0 ≤ _; decide) fun W _ => ?_
  have e1 : words 1 1 0 = 18 := by decide
  simp only [↓D0, ↓D1, ↓D2, ↓D3, ↓D4, ↓D5, ↓D6, ↓D7, ↓D8, ↓D9, U0, U1, U2, U3, U4, U5, U6, U7, U8, U9, U10, ↓reduceIte, Nat.reduceAdd, Nat.reduceMul, Nat.reduceSub, Nat.reduceEqDiff, Nat.reduceBEq, Nat.reduceLeDiff, Nat.reduceLT, Int.reduceAdd, Int.reduceMul, Int.reduceSub, Int.reduceLT, Int.reduceLE, Int.reduceToNat, Int.reduceEq, Int.reduceNe, Int.reduceBEq, Int.reduceBNe, ne_eq, eq_self]
  refine newB_intro fun x hx f1 f2 => ?_
  simp only [u_words, e1, ↓D0, ↓D1, ↓D2, ↓D3, ↓D4, ↓D5, ↓D6, ↓D7, ↓D8, ↓D9, U0, U1, U2, U3, U4, U5, U6, U7, U8, U9, U10, ↓reduceIte, Nat.reduceAdd, Nat.reduceMul, Nat.reduceSub, Nat.reduceEqDiff, Nat.reduceBEq, Nat.reduceLeDiff, Nat.reduceLT, Int.reduceAdd, Int.reduceMul, Int.reduceSub, Int.reduceLT, Int.reduceLE, Int.reduceToNat, Int.reduceEq, Int.reduceNe, Int.reduceBEq, Int.reduceBNe, ne_eq, eq_self]
  have hS1 := hS.new f1 (.cells #[.int .i64 1, .int .i64 1, .int .i64 0] 57 (0, 0))
  refine newB_intro fun y hy f3 f4 => ?_
  have hS2 := hS1.new f3 (.cells (Array.replicate 18 (.int .u64 0)) 26 (0, 0))
  have nxy := hS2.qen 0 1 (by decide) rfl rfl
  have nyx := hS2.neq 0 1 (by decide) rfl rfl
  simp only [nxy, nyx, urow_zero, urow_size, ↓D0, ↓D1, ↓D2, ↓D3, ↓D4, ↓D5, ↓D6, ↓D7, ↓D8, ↓D9, U0, U1, U2, U3, U4, U5, U6, U7, U8, U9, U10, ↓reduceIte, Nat.reduceAdd, Nat.reduceMul, Nat.reduceSub, Nat.reduceEqDiff, Nat.reduceBEq, Nat.reduceLeDiff, Nat.reduceLT, Int.reduceAdd, Int.reduceMul, Int.reduceSub, Int.reduceLT, Int.reduceLE, Int.reduceToNat, Int.reduceEq, Int.reduceNe, Int.reduceBEq, Int.reduceBNe, ne_eq, eq_self]
  refine callT_of (c_fill (n := 18) (by decide) (RowU.own y 18 _ _ _) (hS1.new f3 _)) ?_
  rintro v H' ⟨b, s, rfl, hS⟩
  have hx := hS.lk 3 rfl
  have r2 := fun o n => rdn_of hx o n
  simp only [hx, r2, ↓D0, ↓D1, ↓D2, ↓D3, ↓D4, ↓D5, ↓D6, ↓D7, ↓D8, ↓D9, U0, U1, U2, U3, U4, U5, U6, U7, U8, U9, U10, ↓reduceIte, Nat.reduceAdd, Nat.reduceMul, Nat.reduceSub, Nat.reduceEqDiff, Nat.reduceBEq, Nat.reduceLeDiff, Nat.reduceLT, Int.reduceAdd, Int.reduceMul, Int.reduceSub, Int.reduceLT, Int.reduceLE, Int.reduceToNat, Int.reduceEq, Int.reduceNe, Int.reduceBEq, Int.reduceBNe, ne_eq, eq_self]
  refine callT_of (c_binew (sh := ⟨1, 1, 0⟩) hS) ?_
  rintro v H' ⟨k, rfl, hS⟩
  simp only [↓D0, ↓D1, ↓D2, ↓D3, ↓D4, ↓D5, ↓D6, ↓D7, ↓D8, ↓D9, U0, U1, U2, U3, U4, U5, U6, U7, U8, U9, U10, ↓reduceIte, Nat.reduceAdd, Nat.reduceMul, Nat.reduceSub, Nat.reduceEqDiff, Nat.reduceBEq, Nat.reduceLeDiff, Nat.reduceLT, Int.reduceAdd, Int.reduceMul, Int.reduceSub, Int.reduceLT, Int.reduceLE, Int.reduceToNat, Int.reduceEq, Int.reduceNe, Int.reduceBEq, Int.reduceBNe, ne_eq, eq_self]
  refine loop_intro (aw12I k b s l) (fun F' _ => (18 - iv (gt F' 4)).toNat) ⟨0, by decide, rfl, rfl, rfl, hS.p3.tail.p3.tail⟩ ?_
  rintro F' H' ⟨i, hi, e4, e2, e3, hS⟩
  have hwf : (its Bi.step i aw12t aw12w).1.wf := Bi.its_wf (Bi.new_wf ⟨1, 1, 0⟩ 0 0 3) i
  have hsh : (its Bi.step i aw12t aw12w).1.s = ⟨1, 1, 0⟩ := Bi.its_s (t := aw12t) i
  have hof := Bi.its_of (t := aw12t) aw12_of i
  by_cases hlt : i < 18
  · have g1 : decide ((i : Int) < 18) = true := decide_eq_true (by omega)
    have w1 : w64 ((i : Int) + 1) = ((i + 1 : Nat) : Int) := by rw [w64_eq (by omega) (by omega)]; omega
    simp only [e4, e2, e3, g1, ↓D0, ↓D1, ↓D2, ↓D3, ↓D4, ↓D5, ↓D6, ↓D7, ↓D8, ↓D9, U0, U1, U2, U3, U4, U5, U6, U7, U8, U9, U10, ↓reduceIte, Nat.reduceAdd, Nat.reduceMul, Nat.reduceSub, Nat.reduceEqDiff, Nat.reduceBEq, Nat.reduceLeDiff, Nat.reduceLT, Int.reduceAdd, Int.reduceMul, Int.reduceSub, Int.reduceLT, Int.reduceLE, Int.reduceToNat, Int.reduceEq, Int.reduceNe, Int.reduceBEq, Int.reduceBNe, ne_eq, eq_self]
    refine callT_of (c_bistep hwf (fun _ => by rw [hsh]; exact hof) hS) ?_
    rintro v H' ⟨rfl, hS⟩
    simp only [e4, e2, e3, wrap_w64, w1, ↓D0, ↓D1, ↓D2, ↓D3, ↓D4, ↓D5, ↓D6, ↓D7, ↓D8, ↓D9, U0, U1, U2, U3, U4, U5, U6, U7, U8, U9, U10, ↓reduceIte, Nat.reduceAdd, Nat.reduceMul, Nat.reduceSub, Nat.reduceEqDiff, Nat.reduceBEq, Nat.reduceLeDiff, Nat.reduceLT, Int.reduceAdd, Int.reduceMul, Int.reduceSub, Int.reduceLT, Int.reduceLE, Int.reduceToNat, Int.reduceEq, Int.reduceNe, Int.reduceBEq, Int.reduceBNe, ne_eq, eq_self]
    exact ⟨⟨i + 1, by omega, rfl, by simp [gt, e2], by simp [gt, e3], hS⟩, by simp [gt, iv, e4]; omega⟩
  · have hin : i = 18 := by omega
    subst hin
    obtain ⟨z1, z2, z3, z4⟩ := aw12_end
    have hp : (3 : Int) < (its Bi.step 18 aw12t aw12w).2.n := by decide +kernel
    simp only [e4, e2, e3, ↓D0, ↓D1, ↓D2, ↓D3, ↓D4, ↓D5, ↓D6, ↓D7, ↓D8, ↓D9, U0, U1, U2, U3, U4, U5, U6, U7, U8, U9, U10, ↓reduceIte, Nat.reduceAdd, Nat.reduceMul, Nat.reduceSub, Nat.reduceEqDiff, Nat.reduceBEq, Nat.reduceLeDiff, Nat.reduceLT, Int.reduceAdd, Int.reduceMul, Int.reduceSub, Int.reduceLT, Int.reduceLE, Int.reduceToNat, Int.reduceEq, Int.reduceNe, Int.reduceBEq, Int.reduceBNe, ne_eq, eq_self]
    refine callT_of (c_bidone hS) ?_
    rintro v H' ⟨rfl, hS⟩
    simp only [e4, e2, e3, z1, ↓D0, ↓D1, ↓D2, ↓D3, ↓D4, ↓D5, ↓D6, ↓D7, ↓D8, ↓D9, U0, U1, U2, U3, U4, U5, U6, U7, U8, U9, U10, ↓reduceIte, Nat.reduceAdd, Nat.reduceMul, Nat.reduceSub, Nat.reduceEqDiff, Nat.reduceBEq, Nat.reduceLeDiff, Nat.reduceLT, Int.reduceAdd, Int.reduceMul, Int.reduceSub, Int.reduceLT, Int.reduceLE, Int.reduceToNat, Int.reduceEq, Int.reduceNe, Int.reduceBEq, Int.reduceBNe, ne_eq, eq_self]
    refine callT_of (c_steps hS.tail) ?_
    rintro v H' ⟨rfl, hS⟩
    simp only [e4, e2, e3, z2, ↓D0, ↓D1, ↓D2, ↓D3, ↓D4, ↓D5, ↓D6, ↓D7, ↓D8, ↓D9, U0, U1, U2, U3, U4, U5, U6, U7, U8, U9, U10, ↓reduceIte, Nat.reduceAdd, Nat.reduceMul, Nat.reduceSub, Nat.reduceEqDiff, Nat.reduceBEq, Nat.reduceLeDiff, Nat.reduceLT, Int.reduceAdd, Int.reduceMul, Int.reduceSub, Int.reduceLT, Int.reduceLE, Int.reduceToNat, Int.reduceEq, Int.reduceNe, Int.reduceBEq, Int.reduceBNe, ne_eq, eq_self]
    refine callT_of (c_look 1 (by decide) (by omega) hS) ?_
    rintro v H' ⟨rfl, hS⟩
    simp only [e4, e2, e3, u_putpg, z3, ↓D0, ↓D1, ↓D2, ↓D3, ↓D4, ↓D5, ↓D6, ↓D7, ↓D8, ↓D9, U0, U1, U2, U3, U4, U5, U6, U7, U8, U9, U10, ↓reduceIte, Nat.reduceAdd, Nat.reduceMul, Nat.reduceSub, Nat.reduceEqDiff, Nat.reduceBEq, Nat.reduceLeDiff, Nat.reduceLT, Int.reduceAdd, Int.reduceMul, Int.reduceSub, Int.reduceLT, Int.reduceLE, Int.reduceToNat, Int.reduceEq, Int.reduceNe, Int.reduceBEq, Int.reduceBNe, ne_eq, eq_self]
    refine callT_of (c_look 3 (by decide) hp hS) ?_
    rintro v H' ⟨rfl, hS⟩
    simp only [u_putsl, z4, ↓D0, ↓D1, ↓D2, ↓D3, ↓D4, ↓D5, ↓D6, ↓D7, ↓D8, ↓D9, U0, U1, U2, U3, U4, U5, U6, U7, U8, U9, U10, ↓reduceIte, Nat.reduceAdd, Nat.reduceMul, Nat.reduceSub, Nat.reduceEqDiff, Nat.reduceBEq, Nat.reduceLeDiff, Nat.reduceLT, Int.reduceAdd, Int.reduceMul, Int.reduceSub, Int.reduceLT, Int.reduceLE, Int.reduceToNat, Int.reduceEq, Int.reduceNe, Int.reduceBEq, Int.reduceBNe, ne_eq, eq_self]
    exact hS.tail.tail
end

end Go.Proofs.Ytfapipblclikbaa
