/-
  Chapter 9's awake: the second slot is open. Conditions: none.
-/
import Derived.Test.YtfapipblclikbaaSlotM
import Derived.Test.YtfapipblclikbaaStripK
import Derived.Test.YtfapipblclikbaaRow
set_option linter.unusedVariables false
set_option linter.unusedSimpArgs false
set_option maxRecDepth 8000
namespace Go.Proofs.Ytfapipblclikbaa
open Go Go.Ev Go.Pl Go.Ma

def aw9s : Nat → Int := fun j => if j = 0 then taken 3 else opn 3
def aw9t : Sc := Sc.new ⟨1, 2, 0⟩ 1 3 0
def aw9w : Wd := rowW 19 (oneW 3 2 aw9s)
theorem aw9_end : (its Sc.step 4 aw9t aw9w).1.dn = true ∧ (its Sc.step 4 aw9t aw9w).1.fd = true ∧ (its Sc.step 4 aw9t aw9w).1.pg = 0 ∧ (its Sc.step 4 aw9t aw9w).1.i = 1 ∧ (its Sc.step 4 aw9t aw9w).2.st = 4 ∧ (its Sc.step 4 aw9t aw9w).1.f + (its Sc.step 4 aw9t aw9w).1.many = 0 := by decide +kernel
theorem aw9_of : aw9w.of ⟨1, 2, 0⟩ := ⟨by decide, fun i => U_row _ (fun j => U_oneW _ _ (fun j => by unfold aw9s; split; exact U_taken _; exact U_opn _) j) i⟩
theorem aw9_row (y : Nat) : RowU (sg y (.cells #[.int .u64 (taken 3), .int .u64 (opn 3)] 26 (0, 0))) (some ⟨y, 0, none⟩) 2 aw9s :=
  .inr ⟨y, 0, rfl, fun i hi => by
    rw [rd_of (sg_at _ _)]
    rcases (by omega : i = 0 ∨ i = 1) with h | h <;> subst h <;> rfl⟩

section
variable {W : World} {H : Hp} {l : List Hp}

def aw9I (k b s : Nat) (l : List Hp) (F' : Fr) (H' : Hp) : Prop :=
  ∃ i : Nat, i ≤ 4 ∧ gt F' 5 = .int .i64 (i : Int) ∧ gt F' 3 = .pointer (some ⟨b, 0, none⟩) ∧ gt F' 4 = .pointer (some ⟨k, 0, none⟩) ∧
    Sep (scB k (its Sc.step i aw9t aw9w).1 :: wB b s (its Sc.step i aw9t aw9w).2 :: wR s (its Sc.step i aw9t aw9w).2 :: l) H'
theorem c_awake9 (hS : Sep l H) : CallP Try.prog W 98 #[] H fun v H' => v = .bool true ∧ Sep l H' := by
  refine CallP.of mixed Try.func98 tr98 (by show 0 ≤ _; decide) fun W _ => ?_
  simp only [u_putsl, ↓D0, ↓D1, ↓D2, ↓D3, ↓D4, ↓D5, ↓D6, ↓D7, ↓D8, ↓D9, U0, U1, U2, U3, U4, U5, U6, U7, U8, U9, U10, ↓reduceIte, Nat.reduceAdd, Nat.reduceMul, Nat.reduceSub, Nat.reduceEqDiff, Nat.reduceBEq, Nat.reduceLeDiff, Nat.reduceLT, Int.reduceAdd, Int.reduceMul, Int.reduceSub, Int.reduceLT, Int.reduceLE, Int.reduceToNat, Int.reduceEq, Int.reduceNe, Int.reduceBEq, Int.reduceBNe, ne_eq, eq_self]
  refine newB_intro fun z hz f1 f2 => ?_
  have hS := hS.new f1 (.cells #[.int .u64 (taken 3), .int .u64 (opn 3)] 26 (0, 0))
  simp only [↓D0, ↓D1, ↓D2, ↓D3, ↓D4, ↓D5, ↓D6, ↓D7, ↓D8, ↓D9, U0, U1, U2, U3, U4, U5, U6, U7, U8, U9, U10, ↓reduceIte, Nat.reduceAdd, Nat.reduceMul, Nat.reduceSub, Nat.reduceEqDiff, Nat.reduceBEq, Nat.reduceLeDiff, Nat.reduceLT, Int.reduceAdd, Int.reduceMul, Int.reduceSub, Int.reduceLT, Int.reduceLE, Int.reduceToNat, Int.reduceEq, Int.reduceNe, Int.reduceBEq, Int.reduceBNe, ne_eq, eq_self]
  refine callT_of (c_one 3 (by decide) (aw9_row z) hS) ?_
  rintro v H' ⟨y, rfl, hS⟩
  have hS := hS.p1.tail
  simp only [↓D0, ↓D1, ↓D2, ↓D3, ↓D4, ↓D5, ↓D6, ↓D7, ↓D8, ↓D9, U0, U1, U2, U3, U4, U5, U6, U7, U8, U9, U10, ↓reduceIte, Nat.reduceAdd, Nat.reduceMul, Nat.reduceSub, Nat.reduceEqDiff, Nat.reduceBEq, Nat.reduceLeDiff, Nat.reduceLT, Int.reduceAdd, Int.reduceMul, Int.reduceSub, Int.reduceLT, Int.reduceLE, Int.reduceToNat, Int.reduceEq, Int.reduceNe, Int.reduceBEq, Int.reduceBNe, ne_eq, eq_self]
  refine newB_intro fun x hx f1 f2 => ?_
  have hS := hS.new f1 (.cells #[.int .i64 1, .int .i64 2, .int .i64 0] 57 (0, 0))
  simp only [↓D0, ↓D1, ↓D2, ↓D3, ↓D4, ↓D5, ↓D6, ↓D7, ↓D8, ↓D9, U0, U1, U2, U3, U4, U5, U6, U7, U8, U9, U10, ↓reduceIte, Nat.reduceAdd, Nat.reduceMul, Nat.reduceSub, Nat.reduceEqDiff, Nat.reduceBEq, Nat.reduceLeDiff, Nat.reduceLT, Int.reduceAdd, Int.reduceMul, Int.reduceSub, Int.reduceLT, Int.reduceLE, Int.reduceToNat, Int.reduceEq, Int.reduceNe, Int.reduceBEq, Int.reduceBNe, ne_eq, eq_self]
  have hS := hS.p1
  refine callT_of (c_fill (n := 19) (by decide) (RowU.own y 19 _ _ _) hS) ?_
  rintro v H' ⟨b, s, rfl, hS⟩
  have hx := hS.lk 3 rfl
  have r2 := fun o n => rdn_of hx o n
  simp only [hx, r2, ↓D0, ↓D1, ↓D2, ↓D3, ↓D4, ↓D5, ↓D6, ↓D7, ↓D8, ↓D9, U0, U1, U2, U3, U4, U5, U6, U7, U8, U9, U10, ↓reduceIte, Nat.reduceAdd, Nat.reduceMul, Nat.reduceSub, Nat.reduceEqDiff, Nat.reduceBEq, Nat.reduceLeDiff, Nat.reduceLT, Int.reduceAdd, Int.reduceMul, Int.reduceSub, Int.reduceLT, Int.reduceLE, Int.reduceToNat, Int.reduceEq, Int.reduceNe, Int.reduceBEq, Int.reduceBNe, ne_eq, eq_self]
  refine callT_of (c_scnew (sh := ⟨1, 2, 0⟩) hS) ?_
  rintro v H' ⟨k, rfl, hS⟩
  simp only [↓D0, ↓D1, ↓D2, ↓D3, ↓D4, ↓D5, ↓D6, ↓D7, ↓D8, ↓D9, U0, U1, U2, U3, U4, U5, U6, U7, U8, U9, U10, ↓reduceIte, Nat.reduceAdd, Nat.reduceMul, Nat.reduceSub, Nat.reduceEqDiff, Nat.reduceBEq, Nat.reduceLeDiff, Nat.reduceLT, Int.reduceAdd, Int.reduceMul, Int.reduceSub, Int.reduceLT, Int.reduceLE, Int.reduceToNat, Int.reduceEq, Int.reduceNe, Int.reduceBEq, Int.reduceBNe, ne_eq, eq_self]
  refine loop_intro (aw9I k b s l) (fun F' _ => (4 - iv (gt F' 5)).toNat) ⟨0, by decide, rfl, rfl, rfl, hS.p3.tail.p3.tail⟩ ?_
  rintro F' H' ⟨i, hi, e5, e3, e4, hS⟩
  have hwf : (its Sc.step i aw9t aw9w).1.wf := Sc.its_wf (Sc.new_wf ⟨1, 2, 0⟩ 1 3 0) i
  have hsh : (its Sc.step i aw9t aw9w).1.s = ⟨1, 2, 0⟩ := Sc.its_s (t := aw9t) i
  have hof := Sc.its_of (t := aw9t) aw9_of i
  by_cases hlt : i < 4
  · have g1 : decide ((i : Int) < 4) = true := decide_eq_true (by omega)
    have w1 : w64 ((i : Int) + 1) = ((i + 1 : Nat) : Int) := by rw [w64_eq (by omega) (by omega)]; omega
    simp only [e5, e3, e4, g1, ↓D0, ↓D1, ↓D2, ↓D3, ↓D4, ↓D5, ↓D6, ↓D7, ↓D8, ↓D9, U0, U1, U2, U3, U4, U5, U6, U7, U8, U9, U10, ↓reduceIte, Nat.reduceAdd, Nat.reduceMul, Nat.reduceSub, Nat.reduceEqDiff, Nat.reduceBEq, Nat.reduceLeDiff, Nat.reduceLT, Int.reduceAdd, Int.reduceMul, Int.reduceSub, Int.reduceLT, Int.reduceLE, Int.reduceToNat, Int.reduceEq, Int.reduceNe, Int.reduceBEq, Int.reduceBNe, ne_eq, eq_self]
    refine callT_of (c_scstep hwf (fun _ => by rw [hsh]; exact hof) hS) ?_
    rintro v H' ⟨rfl, hS⟩
    simp only [e5, e3, e4, wrap_w64, w1, ↓D0, ↓D1, ↓D2, ↓D3, ↓D4, ↓D5, ↓D6, ↓D7, ↓D8, ↓D9, U0, U1, U2, U3, U4, U5, U6, U7, U8, U9, U10, ↓reduceIte, Nat.reduceAdd, Nat.reduceMul, Nat.reduceSub, Nat.reduceEqDiff, Nat.reduceBEq, Nat.reduceLeDiff, Nat.reduceLT, Int.reduceAdd, Int.reduceMul, Int.reduceSub, Int.reduceLT, Int.reduceLE, Int.reduceToNat, Int.reduceEq, Int.reduceNe, Int.reduceBEq, Int.reduceBNe, ne_eq, eq_self]
    exact ⟨⟨i + 1, by omega, rfl, by simp [gt, e3], by simp [gt, e4], hS⟩, by simp [gt, iv, e5]; omega⟩
  · have hin : i = 4 := by omega
    subst hin
    obtain ⟨z1, z2, z3, z4, z5, z6⟩ := aw9_end
    simp only [e5, e3, e4, ↓D0, ↓D1, ↓D2, ↓D3, ↓D4, ↓D5, ↓D6, ↓D7, ↓D8, ↓D9, U0, U1, U2, U3, U4, U5, U6, U7, U8, U9, U10, ↓reduceIte, Nat.reduceAdd, Nat.reduceMul, Nat.reduceSub, Nat.reduceEqDiff, Nat.reduceBEq, Nat.reduceLeDiff, Nat.reduceLT, Int.reduceAdd, Int.reduceMul, Int.reduceSub, Int.reduceLT, Int.reduceLE, Int.reduceToNat, Int.reduceEq, Int.reduceNe, Int.reduceBEq, Int.reduceBNe, ne_eq, eq_self]
    refine callT_of (c_scfound (fun _ => ⟨by rw [hsh]; decide, by rw [z6]; decide, by rw [z6]; decide⟩) hS) ?_
    rintro v H' ⟨rfl, hS⟩
    simp only [e5, e3, e4, z2, z3, z4, ↓D0, ↓D1, ↓D2, ↓D3, ↓D4, ↓D5, ↓D6, ↓D7, ↓D8, ↓D9, U0, U1, U2, U3, U4, U5, U6, U7, U8, U9, U10, ↓reduceIte, Nat.reduceAdd, Nat.reduceMul, Nat.reduceSub, Nat.reduceEqDiff, Nat.reduceBEq, Nat.reduceLeDiff, Nat.reduceLT, Int.reduceAdd, Int.reduceMul, Int.reduceSub, Int.reduceLT, Int.reduceLE, Int.reduceToNat, Int.reduceEq, Int.reduceNe, Int.reduceBEq, Int.reduceBNe, ne_eq, eq_self]
    refine callT_of (c_scdone hS) ?_
    rintro v H' ⟨rfl, hS⟩
    simp only [e5, e3, e4, z1, z2, z3, z4, ↓D0, ↓D1, ↓D2, ↓D3, ↓D4, ↓D5, ↓D6, ↓D7, ↓D8, ↓D9, U0, U1, U2, U3, U4, U5, U6, U7, U8, U9, U10, ↓reduceIte, Nat.reduceAdd, Nat.reduceMul, Nat.reduceSub, Nat.reduceEqDiff, Nat.reduceBEq, Nat.reduceLeDiff, Nat.reduceLT, Int.reduceAdd, Int.reduceMul, Int.reduceSub, Int.reduceLT, Int.reduceLE, Int.reduceToNat, Int.reduceEq, Int.reduceNe, Int.reduceBEq, Int.reduceBNe, ne_eq, eq_self]
    refine callT_of (c_steps hS.tail) ?_
    rintro v H' ⟨rfl, hS⟩
    simp only [z5, ↓D0, ↓D1, ↓D2, ↓D3, ↓D4, ↓D5, ↓D6, ↓D7, ↓D8, ↓D9, U0, U1, U2, U3, U4, U5, U6, U7, U8, U9, U10, ↓reduceIte, Nat.reduceAdd, Nat.reduceMul, Nat.reduceSub, Nat.reduceEqDiff, Nat.reduceBEq, Nat.reduceLeDiff, Nat.reduceLT, Int.reduceAdd, Int.reduceMul, Int.reduceSub, Int.reduceLT, Int.reduceLE, Int.reduceToNat, Int.reduceEq, Int.reduceNe, Int.reduceBEq, Int.reduceBNe, ne_eq, eq_self]
    exact hS.tail.tail
end

end Go.Proofs.Ytfapipblclikbaa
