/-
  Chapter 8's awake: an entry is taken. Conditions: none.
-/
import Derived.Test.YtfapipblclikbaaMag
import Derived.Test.YtfapipblclikbaaRow
set_option linter.unusedVariables false
set_option linter.unusedSimpArgs false
set_option maxRecDepth 8000
namespace Go.Proofs.Ytfapipblclikbaa
open Go Go.Ev Go.Pl Go.Ma

def aw8t : Tk := Tk.new ⟨1, 1, 1⟩ 0 0
def aw8w : Wd := rowW 19 fun j => if j = 18 then putEn 0 2 0 else 0
theorem aw8_end : (its Tk.step 2 aw8t aw8w).1.dn = true ∧ (its Tk.step 2 aw8t aw8w).1.fd = true ∧ (its Tk.step 2 aw8t aw8w).1.ep = 0 ∧ (its Tk.step 2 aw8t aw8w).1.es = 2 ∧ ((its Tk.step 2 aw8t aw8w).2.get 18 == 0) = true := by decide +kernel
theorem aw8_of : aw8w.of ⟨1, 1, 1⟩ := ⟨by decide, fun i => by
  show U (if _ then (if _ then _ else _) else _)
  split
  · split
    · exact U_putEn ..
    · exact U_0
  · exact U_0⟩

section
variable {W : World} {H : Hp} {l : List Hp}

theorem c_awake8 (hS : Sep l H) : CallP Try.prog W 81 #[] H fun v H' => v = .bool true ∧ Sep l H' := by
  refine CallP.of mixed Try.func81 tr81 (by show 0 ≤ _; decide) fun W _ => ?_
  have e1 : words 1 1 1 = 19 := by decide
  have e2 : w64 18 = 18 := by decide
  simp only [↓D0, ↓D1, ↓D2, ↓D3, ↓D4, ↓D5, ↓D6, ↓D7, ↓D8, ↓D9, U0, U1, U2, U3, U4, U5, U6, U7, U8, U9, U10, ↓reduceIte, Nat.reduceAdd, Nat.reduceMul, Nat.reduceSub, Nat.reduceEqDiff, Nat.reduceBEq, Nat.reduceLeDiff, Nat.reduceLT, Int.reduceAdd, Int.reduceMul, Int.reduceSub, Int.reduceLT, Int.reduceLE, Int.reduceToNat, Int.reduceEq, Int.reduceNe, Int.reduceBEq, Int.reduceBNe, ne_eq, eq_self]
  refine newB_intro fun x hx f1 f2 => ?_
  simp only [u_words, e1, ↓D0, ↓D1, ↓D2, ↓D3, ↓D4, ↓D5, ↓D6, ↓D7, ↓D8, ↓D9, U0, U1, U2, U3, U4, U5, U6, U7, U8, U9, U10, ↓reduceIte, Nat.reduceAdd, Nat.reduceMul, Nat.reduceSub, Nat.reduceEqDiff, Nat.reduceBEq, Nat.reduceLeDiff, Nat.reduceLT, Int.reduceAdd, Int.reduceMul, Int.reduceSub, Int.reduceLT, Int.reduceLE, Int.reduceToNat, Int.reduceEq, Int.reduceNe, Int.reduceBEq, Int.reduceBNe, ne_eq, eq_self]
  have hS1 := hS.new f1 (.cells #[.int .i64 1, .int .i64 1, .int .i64 1] 57 (0, 0))
  refine newB_intro fun y hy f3 f4 => ?_
  have hS2 := hS1.new f3 (.cells (Array.replicate 19 (.int .u64 0)) 26 (0, 0))
  have nxy := hS2.qen 0 1 (by decide) rfl rfl
  have nyx := hS2.neq 0 1 (by decide) rfl rfl
  simp only [nxy, nyx, urow_zero, urow_set, urow_size, u_puten, wrap_w64, e2, ↓D0, ↓D1, ↓D2, ↓D3, ↓D4, ↓D5, ↓D6, ↓D7, ↓D8, ↓D9, U0, U1, U2, U3, U4, U5, U6, U7, U8, U9, U10, ↓reduceIte, Nat.reduceAdd, Nat.reduceMul, Nat.reduceSub, Nat.reduceEqDiff, Nat.reduceBEq, Nat.reduceLeDiff, Nat.reduceLT, Int.reduceAdd, Int.reduceMul, Int.reduceSub, Int.reduceLT, Int.reduceLE, Int.reduceToNat, Int.reduceEq, Int.reduceNe, Int.reduceBEq, Int.reduceBNe, ne_eq, eq_self]
  refine callT_of (c_fill (n := 19) (by decide) (RowU.own y 19 _ _ _) (hS1.new f3 _)) ?_
  rintro v H' ⟨b, s, rfl, hS⟩
  have hx := hS.lk 3 rfl
  have r2 := fun o n => rdn_of hx o n
  simp only [hx, r2, ↓D0, ↓D1, ↓D2, ↓D3, ↓D4, ↓D5, ↓D6, ↓D7, ↓D8, ↓D9, U0, U1, U2, U3, U4, U5, U6, U7, U8, U9, U10, ↓reduceIte, Nat.reduceAdd, Nat.reduceMul, Nat.reduceSub, Nat.reduceEqDiff, Nat.reduceBEq, Nat.reduceLeDiff, Nat.reduceLT, Int.reduceAdd, Int.reduceMul, Int.reduceSub, Int.reduceLT, Int.reduceLE, Int.reduceToNat, Int.reduceEq, Int.reduceNe, Int.reduceBEq, Int.reduceBNe, ne_eq, eq_self]
  refine callT_of (c_tknew (sh := ⟨1, 1, 1⟩) hS) ?_
  rintro v H' ⟨k, rfl, hS⟩
  simp only [↓D0, ↓D1, ↓D2, ↓D3, ↓D4, ↓D5, ↓D6, ↓D7, ↓D8, ↓D9, U0, U1, U2, U3, U4, U5, U6, U7, U8, U9, U10, ↓reduceIte, Nat.reduceAdd, Nat.reduceMul, Nat.reduceSub, Nat.reduceEqDiff, Nat.reduceBEq, Nat.reduceLeDiff, Nat.reduceLT, Int.reduceAdd, Int.reduceMul, Int.reduceSub, Int.reduceLT, Int.reduceLE, Int.reduceToNat, Int.reduceEq, Int.reduceNe, Int.reduceBEq, Int.reduceBNe, ne_eq, eq_self]
  have hwf : ∀ i, (its Tk.step i aw8t aw8w).1.wf := fun i => Tk.its_wf (Tk.new_wf ⟨1, 1, 1⟩ 0 0) i
  have hsh : ∀ i, (its Tk.step i aw8t aw8w).1.s = ⟨1, 1, 1⟩ := fun i => Tk.its_s (t := aw8t) i
  have hof : ∀ i, (its Tk.step i aw8t aw8w).2.of ⟨1, 1, 1⟩ := fun i => Tk.its_of (t := aw8t) aw8_of i
  refine callT_of (c_tkstep (t := (its Tk.step 0 aw8t aw8w).1) (w := (its Tk.step 0 aw8t aw8w).2) (hwf 0) (fun _ => hof 0) (hS.p3.tail.p3.tail)) ?_
  rintro v H' ⟨rfl, hS⟩
  simp only [↓D0, ↓D1, ↓D2, ↓D3, ↓D4, ↓D5, ↓D6, ↓D7, ↓D8, ↓D9, U0, U1, U2, U3, U4, U5, U6, U7, U8, U9, U10, ↓reduceIte, Nat.reduceAdd, Nat.reduceMul, Nat.reduceSub, Nat.reduceEqDiff, Nat.reduceBEq, Nat.reduceLeDiff, Nat.reduceLT, Int.reduceAdd, Int.reduceMul, Int.reduceSub, Int.reduceLT, Int.reduceLE, Int.reduceToNat, Int.reduceEq, Int.reduceNe, Int.reduceBEq, Int.reduceBNe, ne_eq, eq_self]
  refine callT_of (c_tkstep (t := (its Tk.step 1 aw8t aw8w).1) (w := (its Tk.step 1 aw8t aw8w).2) (hwf 1) (fun _ => by rw [hsh]; exact hof 1) hS) ?_
  rintro v H' ⟨rfl, hS⟩
  have hS : Sep (tkB k (its Tk.step 2 aw8t aw8w).1 :: wB b s (its Tk.step 2 aw8t aw8w).2 :: wR s (its Tk.step 2 aw8t aw8w).2 :: l) H' := hS
  obtain ⟨z1, z2, z3, z4, z5⟩ := aw8_end
  have hp : (18 : Int) < (its Tk.step 2 aw8t aw8w).2.n := by decide +kernel
  simp only [↓D0, ↓D1, ↓D2, ↓D3, ↓D4, ↓D5, ↓D6, ↓D7, ↓D8, ↓D9, U0, U1, U2, U3, U4, U5, U6, U7, U8, U9, U10, ↓reduceIte, Nat.reduceAdd, Nat.reduceMul, Nat.reduceSub, Nat.reduceEqDiff, Nat.reduceBEq, Nat.reduceLeDiff, Nat.reduceLT, Int.reduceAdd, Int.reduceMul, Int.reduceSub, Int.reduceLT, Int.reduceLE, Int.reduceToNat, Int.reduceEq, Int.reduceNe, Int.reduceBEq, Int.reduceBNe, ne_eq, eq_self]
  refine callT_of (c_tkfound hS) ?_
  rintro v H' ⟨rfl, hS⟩
  simp only [z2, z3, z4, ↓D0, ↓D1, ↓D2, ↓D3, ↓D4, ↓D5, ↓D6, ↓D7, ↓D8, ↓D9, U0, U1, U2, U3, U4, U5, U6, U7, U8, U9, U10, ↓reduceIte, Nat.reduceAdd, Nat.reduceMul, Nat.reduceSub, Nat.reduceEqDiff, Nat.reduceBEq, Nat.reduceLeDiff, Nat.reduceLT, Int.reduceAdd, Int.reduceMul, Int.reduceSub, Int.reduceLT, Int.reduceLE, Int.reduceToNat, Int.reduceEq, Int.reduceNe, Int.reduceBEq, Int.reduceBNe, ne_eq, eq_self]
  refine callT_of (c_tkdone hS) ?_
  rintro v H' ⟨rfl, hS⟩
  simp only [z1, z2, z3, z4, wrap_w64, e2, ↓D0, ↓D1, ↓D2, ↓D3, ↓D4, ↓D5, ↓D6, ↓D7, ↓D8, ↓D9, U0, U1, U2, U3, U4, U5, U6, U7, U8, U9, U10, ↓reduceIte, Nat.reduceAdd, Nat.reduceMul, Nat.reduceSub, Nat.reduceEqDiff, Nat.reduceBEq, Nat.reduceLeDiff, Nat.reduceLT, Int.reduceAdd, Int.reduceMul, Int.reduceSub, Int.reduceLT, Int.reduceLE, Int.reduceToNat, Int.reduceEq, Int.reduceNe, Int.reduceBEq, Int.reduceBNe, ne_eq, eq_self]
  refine callT_of (c_look 18 (by decide) hp hS.tail) ?_
  rintro v H' ⟨rfl, hS⟩
  simp only [z5, ↓D0, ↓D1, ↓D2, ↓D3, ↓D4, ↓D5, ↓D6, ↓D7, ↓D8, ↓D9, U0, U1, U2, U3, U4, U5, U6, U7, U8, U9, U10, ↓reduceIte, Nat.reduceAdd, Nat.reduceMul, Nat.reduceSub, Nat.reduceEqDiff, Nat.reduceBEq, Nat.reduceLeDiff, Nat.reduceLT, Int.reduceAdd, Int.reduceMul, Int.reduceSub, Int.reduceLT, Int.reduceLE, Int.reduceToNat, Int.reduceEq, Int.reduceNe, Int.reduceBEq, Int.reduceBNe, ne_eq, eq_self]
  exact hS.tail.tail
end

end Go.Proofs.Ytfapipblclikbaa
