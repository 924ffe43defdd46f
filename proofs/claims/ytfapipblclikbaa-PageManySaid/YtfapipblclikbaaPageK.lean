/-
  Chapter 10's awake: a page is found. Conditions: none.
-/
import Derived.Test.YtfapipblclikbaaPage
import Derived.Test.YtfapipblclikbaaLawK
import Derived.Test.YtfapipblclikbaaMaPage
set_option linter.unusedVariables false
set_option linter.unusedSimpArgs false
set_option maxRecDepth 8000
namespace Go.Proofs.Ytfapipblclikbaa
open Go Go.Ev Go.Pl Go.Ma

def aw10t : Pc := Pc.new ⟨3, 1, 0⟩ 0 0
def aw10w : Wd := rowW 52 fun j => if j = 2 then 5 else if j = 1 then 5 else 0
theorem aw10_end : (its Pc.step 4 aw10t aw10w).1.dn = true ∧ (its Pc.step 4 aw10t aw10w).1.fd = true ∧ (its Pc.step 4 aw10t aw10w).1.pg = 2 ∧ ((its Pc.step 4 aw10t aw10w).2.get 3 == putPg 1 0 0) = true ∧ (its Pc.step 4 aw10t aw10w).1.f + (its Pc.step 4 aw10t aw10w).1.many = 2 := by decide +kernel
theorem aw10_of : aw10w.of ⟨3, 1, 0⟩ := ⟨by decide, fun i => by
  show U (if _ then (if _ then _ else if _ then _ else _) else _)
  unfold U; split <;> (try split) <;> (try split) <;> omega⟩

section
variable {W : World} {H : Hp} {l : List Hp}

def aw10I (k b s : Nat) (l : List Hp) (F' : Fr) (H' : Hp) : Prop :=
  ∃ i : Nat, i ≤ 4 ∧ gt F' 5 = .int .i64 (i : Int) ∧ gt F' 3 = .pointer (some ⟨b, 0, none⟩) ∧ gt F' 4 = .pointer (some ⟨k, 0, none⟩) ∧
    Sep (pcB k (its Pc.step i aw10t aw10w).1 :: wB b s (its Pc.step i aw10t aw10w).2 :: wR s (its Pc.step i aw10t aw10w).2 :: l) H'
theorem c_awake10 (hS : Sep l H) : CallP Try.prog W 53 #[] H fun v H' => v = .bool true ∧ Sep l H' := by
  refine CallP.of mixed Try.func53 tr53 (by show 0 ≤ _; decide) fun W _ => ?_
  have e1 : words 3 1 0 = 52 := by decide
  simp only [↓D0, ↓D1, ↓D2, ↓D3, ↓D4, ↓D5, ↓D6, ↓D7, ↓D8, ↓D9, U0, U1, U2, U3, U4, U5, U6, U7, U8, U9, U10, ↓reduceIte, Nat.reduceAdd, Nat.reduceMul, Nat.reduceSub, Nat.reduceEqDiff, Nat.reduceBEq, Nat.reduceLeDiff, Nat.reduceLT, Int.reduceAdd, Int.reduceMul, Int.reduceSub, Int.reduceLT, Int.reduceLE, Int.reduceToNat, Int.reduceEq, Int.reduceNe, Int.reduceBEq, Int.reduceBNe, ne_eq, eq_self]
  refine newB_intro fun x hx f1 f2 => ?_
  simp only [u_words, e1, ↓D0, ↓D1, ↓D2, ↓D3, ↓D4, ↓D5, ↓D6, ↓D7, ↓D8, ↓D9, U0, U1, U2, U3, U4, U5, U6, U7, U8, U9, U10, ↓reduceIte, Nat.reduceAdd, Nat.reduceMul, Nat.reduceSub, Nat.reduceEqDiff, Nat.reduceBEq, Nat.reduceLeDiff, Nat.reduceLT, Int.reduceAdd, Int.reduceMul, Int.reduceSub, Int.reduceLT, Int.reduceLE, Int.reduceToNat, Int.reduceEq, Int.reduceNe, Int.reduceBEq, Int.reduceBNe, ne_eq, eq_self]
  have hS1 := hS.new f1 (.cells #[.int .i64 3, .int .i64 1, .int .i64 0] 57 (0, 0))
  refine newB_intro fun y hy f3 f4 => ?_
  have hS2 := hS1.new f3 (.cells (Array.replicate 52 (.int .u64 0)) 26 (0, 0))
  have nxy := hS2.qen 0 1 (by decide) rfl rfl
  have nyx := hS2.neq 0 1 (by decide) rfl rfl
  simp only [nxy, nyx, urow_zero, urow_set, urow_size, ↓D0, ↓D1, ↓D2, ↓D3, ↓D4, ↓D5, ↓D6, ↓D7, ↓D8, ↓D9, U0, U1, U2, U3, U4, U5, U6, U7, U8, U9, U10, ↓reduceIte, Nat.reduceAdd, Nat.reduceMul, Nat.reduceSub, Nat.reduceEqDiff, Nat.reduceBEq, Nat.reduceLeDiff, Nat.reduceLT, Int.reduceAdd, Int.reduceMul, Int.reduceSub, Int.reduceLT, Int.reduceLE, Int.reduceToNat, Int.reduceEq, Int.reduceNe, Int.reduceBEq, Int.reduceBNe, ne_eq, eq_self]
  refine callT_of (c_fill (n := 52) (by decide) (RowU.own y 52 _ _ _) (hS1.new f3 _)) ?_
  rintro v H' ⟨b, s, rfl, hS⟩
  have hx := hS.lk 3 rfl
  have r2 := fun o n => rdn_of hx o n
  simp only [hx, r2, ↓D0, ↓D1, ↓D2, ↓D3, ↓D4, ↓D5, ↓D6, ↓D7, ↓D8, ↓D9, U0, U1, U2, U3, U4, U5, U6, U7, U8, U9, U10, ↓reduceIte, Nat.reduceAdd, Nat.reduceMul, Nat.reduceSub, Nat.reduceEqDiff, Nat.reduceBEq, Nat.reduceLeDiff, Nat.reduceLT, Int.reduceAdd, Int.reduceMul, Int.reduceSub, Int.reduceLT, Int.reduceLE, Int.reduceToNat, Int.reduceEq, Int.reduceNe, Int.reduceBEq, Int.reduceBNe, ne_eq, eq_self]
  refine callT_of (c_pcnew (sh := ⟨3, 1, 0⟩) hS) ?_
  rintro v H' ⟨k, rfl, hS⟩
  simp only [↓D0, ↓D1, ↓D2, ↓D3, ↓D4, ↓D5, ↓D6, ↓D7, ↓D8, ↓D9, U0, U1, U2, U3, U4, U5, U6, U7, U8, U9, U10, ↓reduceIte, Nat.reduceAdd, Nat.reduceMul, Nat.reduceSub, Nat.reduceEqDiff, Nat.reduceBEq, Nat.reduceLeDiff, Nat.reduceLT, Int.reduceAdd, Int.reduceMul, Int.reduceSub, Int.reduceLT, Int.reduceLE, Int.reduceToNat, Int.reduceEq, Int.reduceNe, Int.reduceBEq, Int.reduceBNe, ne_eq, eq_self]
  refine loop_intro (aw10I k b s l) (fun F' _ => (4 - iv (gt F' 5)).toNat) ⟨0, by decide, rfl, rfl, rfl, hS.p3.tail.p3.tail⟩ ?_
  rintro F' H' ⟨i, hi, e5, e3, e4, hS⟩
  have hwf : (its Pc.step i aw10t aw10w).1.wf := Pc.its_wf (Pc.new_wf ⟨3, 1, 0⟩ 0 0) i
  have hsh : (its Pc.step i aw10t aw10w).1.s = ⟨3, 1, 0⟩ := Pc.its_s (t := aw10t) i
  have hof := Pc.its_of (t := aw10t) aw10_of i
  by_cases hlt : i < 4
  · have g1 : decide ((i : Int) < 4) = true := decide_eq_true (by omega)
    have w1 : w64 ((i : Int) + 1) = ((i + 1 : Nat) : Int) := by rw [w64_eq (by omega) (by omega)]; omega
    simp only [e5, e3, e4, g1, ↓D0, ↓D1, ↓D2, ↓D3, ↓D4, ↓D5, ↓D6, ↓D7, ↓D8, ↓D9, U0, U1, U2, U3, U4, U5, U6, U7, U8, U9, U10, ↓reduceIte, Nat.reduceAdd, Nat.reduceMul, Nat.reduceSub, Nat.reduceEqDiff, Nat.reduceBEq, Nat.reduceLeDiff, Nat.reduceLT, Int.reduceAdd, Int.reduceMul, Int.reduceSub, Int.reduceLT, Int.reduceLE, Int.reduceToNat, Int.reduceEq, Int.reduceNe, Int.reduceBEq, Int.reduceBNe, ne_eq, eq_self]
    refine callT_of (c_pcstep hwf (fun _ => by rw [hsh]; exact hof) hS) ?_
    rintro v H' ⟨rfl, hS⟩
    simp only [e5, e3, e4, wrap_w64, w1, ↓D0, ↓D1, ↓D2, ↓D3, ↓D4, ↓D5, ↓D6, ↓D7, ↓D8, ↓D9, U0, U1, U2, U3, U4, U5, U6, U7, U8, U9, U10, ↓reduceIte, Nat.reduceAdd, Nat.reduceMul, Nat.reduceSub, Nat.reduceEqDiff, Nat.reduceBEq, Nat.reduceLeDiff, Nat.reduceLT, Int.reduceAdd, Int.reduceMul, Int.reduceSub, Int.reduceLT, Int.reduceLE, Int.reduceToNat, Int.reduceEq, Int.reduceNe, Int.reduceBEq, Int.reduceBNe, ne_eq, eq_self]
    exact ⟨⟨i + 1, by omega, rfl, by simp [gt, e3], by simp [gt, e4], hS⟩, by simp [gt, iv, e5]; omega⟩
  · have hin : i = 4 := by omega
    subst hin
    obtain ⟨z1, z2, z3, z4, z5⟩ := aw10_end
    have hp : (3 : Int) < (its Pc.step 4 aw10t aw10w).2.n := by decide +kernel
    simp only [e5, e3, e4, ↓D0, ↓D1, ↓D2, ↓D3, ↓D4, ↓D5, ↓D6, ↓D7, ↓D8, ↓D9, U0, U1, U2, U3, U4, U5, U6, U7, U8, U9, U10, ↓reduceIte, Nat.reduceAdd, Nat.reduceMul, Nat.reduceSub, Nat.reduceEqDiff, Nat.reduceBEq, Nat.reduceLeDiff, Nat.reduceLT, Int.reduceAdd, Int.reduceMul, Int.reduceSub, Int.reduceLT, Int.reduceLE, Int.reduceToNat, Int.reduceEq, Int.reduceNe, Int.reduceBEq, Int.reduceBNe, ne_eq, eq_self]
    refine callT_of (c_pcfound (fun _ => ⟨by rw [hsh]; decide, by rw [z5]; decide, by rw [z5]; decide⟩) hS) ?_
    rintro v H' ⟨rfl, hS⟩
    simp only [e5, e3, e4, z2, z3, ↓D0, ↓D1, ↓D2, ↓D3, ↓D4, ↓D5, ↓D6, ↓D7, ↓D8, ↓D9, U0, U1, U2, U3, U4, U5, U6, U7, U8, U9, U10, ↓reduceIte, Nat.reduceAdd, Nat.reduceMul, Nat.reduceSub, Nat.reduceEqDiff, Nat.reduceBEq, Nat.reduceLeDiff, Nat.reduceLT, Int.reduceAdd, Int.reduceMul, Int.reduceSub, Int.reduceLT, Int.reduceLE, Int.reduceToNat, Int.reduceEq, Int.reduceNe, Int.reduceBEq, Int.reduceBNe, ne_eq, eq_self]
    refine callT_of (c_pcdone hS) ?_
    rintro v H' ⟨rfl, hS⟩
    simp only [e5, e3, e4, z1, z2, z3, ↓D0, ↓D1, ↓D2, ↓D3, ↓D4, ↓D5, ↓D6, ↓D7, ↓D8, ↓D9, U0, U1, U2, U3, U4, U5, U6, U7, U8, U9, U10, ↓reduceIte, Nat.reduceAdd, Nat.reduceMul, Nat.reduceSub, Nat.reduceEqDiff, Nat.reduceBEq, Nat.reduceLeDiff, Nat.reduceLT, Int.reduceAdd, Int.reduceMul, Int.reduceSub, Int.reduceLT, Int.reduceLE, Int.reduceToNat, Int.reduceEq, Int.reduceNe, Int.reduceBEq, Int.reduceBNe, ne_eq, eq_self]
    refine callT_of (c_look 3 (by decide) hp hS.tail) ?_
    rintro v H' ⟨rfl, hS⟩
    simp only [u_putpg, z4, ↓D0, ↓D1, ↓D2, ↓D3, ↓D4, ↓D5, ↓D6, ↓D7, ↓D8, ↓D9, U0, U1, U2, U3, U4, U5, U6, U7, U8, U9, U10, ↓reduceIte, Nat.reduceAdd, Nat.reduceMul, Nat.reduceSub, Nat.reduceEqDiff, Nat.reduceBEq, Nat.reduceLeDiff, Nat.reduceLT, Int.reduceAdd, Int.reduceMul, Int.reduceSub, Int.reduceLT, Int.reduceLE, Int.reduceToNat, Int.reduceEq, Int.reduceNe, Int.reduceBEq, Int.reduceBNe, ne_eq, eq_self]
    exact hS.tail.tail
end

end Go.Proofs.Ytfapipblclikbaa
