/-
  MagKnown, walked: chapter 8's example. Conditions: none.
-/
import Derived.Test.YtfapipblclikbaaMagK
import Derived.Test.YtfapipblclikbaaFrame
set_option linter.unusedVariables false
set_option linter.unusedSimpArgs false
set_option maxRecDepth 8000
namespace Go.Proofs.Ytfapipblclikbaa
open Go Go.Ev Go.Pl Go.Ma

def mkT : Tk := Tk.new ⟨1, 1, 3⟩ 0 0
def mkP : Pu := Pu.new ⟨1, 1, 3⟩ 0 0 1 0
def mkQ : Tk := Tk.new ⟨1, 1, 0⟩ 0 0
def mkW : Wd := rowW 21 fun j => if j = 20 then putEn 0 5 0 else if j = 19 then putEn 0 0 1 else 0
def mkW4 : Wd := (its Tk.step 4 mkT mkW).2
theorem mk_end : (its Tk.step 4 mkT mkW).1.dn = true ∧ (its Pu.step 1 mkP mkW4).1.dn = false ∧ (its Pu.step 2 mkP mkW4).1.dn = true ∧ (its Pu.step 2 mkP mkW4).1.put = true ∧ (its Pu.step 2 mkP mkW4).2.st = 6 ∧ mkQ.dn = true ∧ (Pu.new ⟨1, 1, 3⟩ 0 1 0 0).dn = true ∧ (Tk.new ⟨1, 1, 3⟩ 1 0).dn = true := by decide +kernel
theorem mk_of : mkW.of ⟨1, 1, 3⟩ := ⟨by decide, fun i => by
  show U (if _ then (if _ then _ else if _ then _ else _) else _)
  split
  · split
    · exact U_putEn ..
    · split
      · exact U_putEn ..
      · exact U_0
  · exact U_0⟩

section
variable {W : World} {H : Hp} {l : List Hp}

def mkI (x kt kp kq b s : Nat) (l : List Hp) (F' : Fr) (H' : Hp) : Prop :=
  ∃ i : Nat, i ≤ 4 ∧ gt F' 8 = .int .i64 (i : Int) ∧ gt F' 1 = .pointer (some ⟨x, 0, none⟩) ∧ gt F' 4 = .pointer (some ⟨b, 0, none⟩) ∧ gt F' 5 = .pointer (some ⟨kt, 0, none⟩) ∧ gt F' 6 = .pointer (some ⟨kp, 0, none⟩) ∧ gt F' 7 = .pointer (some ⟨kq, 0, none⟩) ∧
    Sep (tkB kt (its Tk.step i mkT mkW).1 :: wB b s (its Tk.step i mkT mkW).2 :: wR s (its Tk.step i mkT mkW).2 :: puB kp mkP :: tkB kq mkQ :: sg x (.cells #[.int .i64 1, .int .i64 1, .int .i64 3] 57 (0, 0)) :: l) H'
theorem c_magknown (hS : Sep l H) : CallP Try.prog W 19 #[] H fun v H' => v = .bool true ∧ Sep l H' := by
  refine CallP.of mixed Try.func19 tr19 (by show 0 ≤ _; decide) fun W _ => ?_
  have e1 : words 1 1 3 = 21 := by decide
  have e2 : w64 19 = 19 := by decide
  have e3 : w64 20 = 20 := by decide
  simp only [↓D0, ↓D1, ↓D2, ↓D3, ↓D4, ↓D5, ↓D6, ↓D7, ↓D8, ↓D9, U0, U1, U2, U3, U4, U5, U6, U7, U8, U9, U10, ↓reduceIte, Nat.reduceAdd, Nat.reduceMul, Nat.reduceSub, Nat.reduceEqDiff, Nat.reduceBEq, Nat.reduceLeDiff, Nat.reduceLT, Int.reduceAdd, Int.reduceMul, Int.reduceSub, Int.reduceLT, Int.reduceLE, Int.reduceToNat, Int.reduceEq, Int.reduceNe, Int.reduceBEq, Int.reduceBNe, ne_eq, eq_self]
  refine callT_of (c_awake8 hS) ?_
  rintro v H' ⟨rfl, hS⟩
  simp only [↓D0, ↓D1, ↓D2, ↓D3, ↓D4, ↓D5, ↓D6, ↓D7, ↓D8, ↓D9, U0, U1, U2, U3, U4, U5, U6, U7, U8, U9, U10, ↓reduceIte, Nat.reduceAdd, Nat.reduceMul, Nat.reduceSub, Nat.reduceEqDiff, Nat.reduceBEq, Nat.reduceLeDiff, Nat.reduceLT, Int.reduceAdd, Int.reduceMul, Int.reduceSub, Int.reduceLT, Int.reduceLE, Int.reduceToNat, Int.reduceEq, Int.reduceNe, Int.reduceBEq, Int.reduceBNe, ne_eq, eq_self]
  refine newB_intro fun x hx f1 f2 => ?_
  simp only [u_words, e1, ↓D0, ↓D1, ↓D2, ↓D3, ↓D4, ↓D5, ↓D6, ↓D7, ↓D8, ↓D9, U0, U1, U2, U3, U4, U5, U6, U7, U8, U9, U10, ↓reduceIte, Nat.reduceAdd, Nat.reduceMul, Nat.reduceSub, Nat.reduceEqDiff, Nat.reduceBEq, Nat.reduceLeDiff, Nat.reduceLT, Int.reduceAdd, Int.reduceMul, Int.reduceSub, Int.reduceLT, Int.reduceLE, Int.reduceToNat, Int.reduceEq, Int.reduceNe, Int.reduceBEq, Int.reduceBNe, ne_eq, eq_self]
  have hS1 := hS.new f1 (.cells #[.int .i64 1, .int .i64 1, .int .i64 3] 57 (0, 0))
  refine newB_intro fun y hy f3 f4 => ?_
  have hS2 := hS1.new f3 (.cells (Array.replicate 21 (.int .u64 0)) 26 (0, 0))
  have nxy := hS2.qen 0 1 (by decide) rfl rfl
  have nyx := hS2.neq 0 1 (by decide) rfl rfl
  simp only [nxy, nyx, urow_zero, urow_set, urow_size, u_puten, wrap_w64, e2, e3, ↓D0, ↓D1, ↓D2, ↓D3, ↓D4, ↓D5, ↓D6, ↓D7, ↓D8, ↓D9, U0, U1, U2, U3, U4, U5, U6, U7, U8, U9, U10, ↓reduceIte, Nat.reduceAdd, Nat.reduceMul, Nat.reduceSub, Nat.reduceEqDiff, Nat.reduceBEq, Nat.reduceLeDiff, Nat.reduceLT, Int.reduceAdd, Int.reduceMul, Int.reduceSub, Int.reduceLT, Int.reduceLE, Int.reduceToNat, Int.reduceEq, Int.reduceNe, Int.reduceBEq, Int.reduceBNe, ne_eq, eq_self]
  refine callT_of (c_fill (n := 21) (by decide) (RowU.own y 21 _ _ _) (hS1.new f3 _)) ?_
  rintro v H' ⟨b, s, rfl, hS⟩
  have hx := hS.lk 3 rfl
  have r2 := fun o n => rdn_of hx o n
  simp only [hx, r2, ↓D0, ↓D1, ↓D2, ↓D3, ↓D4, ↓D5, ↓D6, ↓D7, ↓D8, ↓D9, U0, U1, U2, U3, U4, U5, U6, U7, U8, U9, U10, ↓reduceIte, Nat.reduceAdd, Nat.reduceMul, Nat.reduceSub, Nat.reduceEqDiff, Nat.reduceBEq, Nat.reduceLeDiff, Nat.reduceLT, Int.reduceAdd, Int.reduceMul, Int.reduceSub, Int.reduceLT, Int.reduceLE, Int.reduceToNat, Int.reduceEq, Int.reduceNe, Int.reduceBEq, Int.reduceBNe, ne_eq, eq_self]
  refine draw_intro [(x, #[.int .i64 1, .int .i64 1, .int .i64 3], [])] (by simp only [hx, ↓D0, ↓D1, ↓D2, ↓D3, ↓D4, ↓D5, ↓D6, ↓D7, ↓D8, ↓D9, U0, U1, U2, U3, U4, U5, U6, U7, U8, U9, U10, ↓reduceIte, Nat.reduceAdd, Nat.reduceMul, Nat.reduceSub, Nat.reduceEqDiff, Nat.reduceBEq, Nat.reduceLeDiff, Nat.reduceLT, Int.reduceAdd, Int.reduceMul, Int.reduceSub, Int.reduceLT, Int.reduceLE, Int.reduceToNat, Int.reduceEq, Int.reduceNe, Int.reduceBEq, Int.reduceBNe, ne_eq, eq_self]) ?_
  simp only [hx, r2, ↓D0, ↓D1, ↓D2, ↓D3, ↓D4, ↓D5, ↓D6, ↓D7, ↓D8, ↓D9, U0, U1, U2, U3, U4, U5, U6, U7, U8, U9, U10, ↓reduceIte, Nat.reduceAdd, Nat.reduceMul, Nat.reduceSub, Nat.reduceEqDiff, Nat.reduceBEq, Nat.reduceLeDiff, Nat.reduceLT, Int.reduceAdd, Int.reduceMul, Int.reduceSub, Int.reduceLT, Int.reduceLE, Int.reduceToNat, Int.reduceEq, Int.reduceNe, Int.reduceBEq, Int.reduceBNe, ne_eq, eq_self]
  refine callT_of (c_tknew (sh := ⟨1, 1, 3⟩) hS) ?_
  rintro v H' ⟨kt, rfl, hS⟩
  have hx := hS.lk 4 rfl
  simp only [hx, ↓D0, ↓D1, ↓D2, ↓D3, ↓D4, ↓D5, ↓D6, ↓D7, ↓D8, ↓D9, U0, U1, U2, U3, U4, U5, U6, U7, U8, U9, U10, ↓reduceIte, Nat.reduceAdd, Nat.reduceMul, Nat.reduceSub, Nat.reduceEqDiff, Nat.reduceBEq, Nat.reduceLeDiff, Nat.reduceLT, Int.reduceAdd, Int.reduceMul, Int.reduceSub, Int.reduceLT, Int.reduceLE, Int.reduceToNat, Int.reduceEq, Int.reduceNe, Int.reduceBEq, Int.reduceBNe, ne_eq, eq_self]
  refine callT_of (c_punew (sh := ⟨1, 1, 3⟩) hS) ?_
  rintro v H' ⟨kp, rfl, hS⟩
  have hx := hS.lk 5 rfl
  simp only [hx, ↓D0, ↓D1, ↓D2, ↓D3, ↓D4, ↓D5, ↓D6, ↓D7, ↓D8, ↓D9, U0, U1, U2, U3, U4, U5, U6, U7, U8, U9, U10, ↓reduceIte, Nat.reduceAdd, Nat.reduceMul, Nat.reduceSub, Nat.reduceEqDiff, Nat.reduceBEq, Nat.reduceLeDiff, Nat.reduceLT, Int.reduceAdd, Int.reduceMul, Int.reduceSub, Int.reduceLT, Int.reduceLE, Int.reduceToNat, Int.reduceEq, Int.reduceNe, Int.reduceBEq, Int.reduceBNe, ne_eq, eq_self]
  refine callT_of (c_tknew (sh := ⟨1, 1, 0⟩) hS) ?_
  rintro v H' ⟨kq, rfl, hS⟩
  have hx := hS.lk 6 rfl
  simp only [hx, ↓D0, ↓D1, ↓D2, ↓D3, ↓D4, ↓D5, ↓D6, ↓D7, ↓D8, ↓D9, U0, U1, U2, U3, U4, U5, U6, U7, U8, U9, U10, ↓reduceIte, Nat.reduceAdd, Nat.reduceMul, Nat.reduceSub, Nat.reduceEqDiff, Nat.reduceBEq, Nat.reduceLeDiff, Nat.reduceLT, Int.reduceAdd, Int.reduceMul, Int.reduceSub, Int.reduceLT, Int.reduceLE, Int.reduceToNat, Int.reduceEq, Int.reduceNe, Int.reduceBEq, Int.reduceBNe, ne_eq, eq_self]
  have hS := hS.p5.tail.r1.p4.p4.p4
  refine loop_intro (mkI x kt kp kq b s l) (fun F' _ => (4 - iv (gt F' 8)).toNat) ⟨0, by decide, rfl, rfl, rfl, rfl, rfl, rfl, hS⟩ ?_
  rintro F' H' ⟨i, hi, g8, g1, g4, g5, g6, g7, hS⟩
  have hwf : (its Tk.step i mkT mkW).1.wf := Tk.its_wf (Tk.new_wf ⟨1, 1, 3⟩ 0 0) i
  have hsh : (its Tk.step i mkT mkW).1.s = ⟨1, 1, 3⟩ := Tk.its_s (t := mkT) i
  have hof := Tk.its_of (t := mkT) mk_of i
  by_cases hlt : i < 4
  · have d1 : decide ((i : Int) < 4) = true := decide_eq_true (by omega)
    have w1 : w64 ((i : Int) + 1) = ((i + 1 : Nat) : Int) := by rw [w64_eq (by omega) (by omega)]; omega
    simp only [g8, g1, g4, g5, g6, g7, d1, ↓D0, ↓D1, ↓D2, ↓D3, ↓D4, ↓D5, ↓D6, ↓D7, ↓D8, ↓D9, U0, U1, U2, U3, U4, U5, U6, U7, U8, U9, U10, ↓reduceIte, Nat.reduceAdd, Nat.reduceMul, Nat.reduceSub, Nat.reduceEqDiff, Nat.reduceBEq, Nat.reduceLeDiff, Nat.reduceLT, Int.reduceAdd, Int.reduceMul, Int.reduceSub, Int.reduceLT, Int.reduceLE, Int.reduceToNat, Int.reduceEq, Int.reduceNe, Int.reduceBEq, Int.reduceBNe, ne_eq, eq_self]
    refine callT_of (c_tkstep hwf (fun _ => by rw [hsh]; exact hof) hS) ?_
    rintro v H' ⟨rfl, hS⟩
    simp only [g8, g1, g4, g5, g6, g7, wrap_w64, w1, ↓D0, ↓D1, ↓D2, ↓D3, ↓D4, ↓D5, ↓D6, ↓D7, ↓D8, ↓D9, U0, U1, U2, U3, U4, U5, U6, U7, U8, U9, U10, ↓reduceIte, Nat.reduceAdd, Nat.reduceMul, Nat.reduceSub, Nat.reduceEqDiff, Nat.reduceBEq, Nat.reduceLeDiff, Nat.reduceLT, Int.reduceAdd, Int.reduceMul, Int.reduceSub, Int.reduceLT, Int.reduceLE, Int.reduceToNat, Int.reduceEq, Int.reduceNe, Int.reduceBEq, Int.reduceBNe, ne_eq, eq_self]
    exact ⟨⟨i + 1, by omega, rfl, by simp [gt, g1], by simp [gt, g4], by simp [gt, g5], by simp [gt, g6], by simp [gt, g7], hS⟩, by simp [gt, iv, g8]; omega⟩
  · have hin : i = 4 := by omega
    subst hin
    obtain ⟨z1, z2, z3, z4, z5, z6, z7, z8⟩ := mk_end
    have pwf : mkP.wf := Pu.new_wf ⟨1, 1, 3⟩ 0 0 1 0
    have wof : mkW4.of ⟨1, 1, 3⟩ := hof
    have p1wf := Pu.its_wf (w := mkW4) pwf 1
    have p1s : (its Pu.step 1 mkP mkW4).1.s = ⟨1, 1, 3⟩ := Pu.its_s (t := mkP) 1
    have p1of := Pu.its_of (t := mkP) wof 1
    simp only [g8, g1, g4, g5, g6, g7, ↓D0, ↓D1, ↓D2, ↓D3, ↓D4, ↓D5, ↓D6, ↓D7, ↓D8, ↓D9, U0, U1, U2, U3, U4, U5, U6, U7, U8, U9, U10, ↓reduceIte, Nat.reduceAdd, Nat.reduceMul, Nat.reduceSub, Nat.reduceEqDiff, Nat.reduceBEq, Nat.reduceLeDiff, Nat.reduceLT, Int.reduceAdd, Int.reduceMul, Int.reduceSub, Int.reduceLT, Int.reduceLE, Int.reduceToNat, Int.reduceEq, Int.reduceNe, Int.reduceBEq, Int.reduceBNe, ne_eq, eq_self]
    refine callT_of (c_pustep (u := mkP) (w := mkW4) pwf (fun _ => wof) hS.r3.p2) ?_
    rintro v H' ⟨rfl, hS⟩
    have hS : Sep (puB kp (its Pu.step 1 mkP mkW4).1 :: wB b s (its Pu.step 1 mkP mkW4).2 :: wR s (its Pu.step 1 mkP mkW4).2 :: _) H' := hS
    simp only [g8, g1, g4, g5, g6, g7, ↓D0, ↓D1, ↓D2, ↓D3, ↓D4, ↓D5, ↓D6, ↓D7, ↓D8, ↓D9, U0, U1, U2, U3, U4, U5, U6, U7, U8, U9, U10, ↓reduceIte, Nat.reduceAdd, Nat.reduceMul, Nat.reduceSub, Nat.reduceEqDiff, Nat.reduceBEq, Nat.reduceLeDiff, Nat.reduceLT, Int.reduceAdd, Int.reduceMul, Int.reduceSub, Int.reduceLT, Int.reduceLE, Int.reduceToNat, Int.reduceEq, Int.reduceNe, Int.reduceBEq, Int.reduceBNe, ne_eq, eq_self]
    refine callT_of (c_pudone hS) ?_
    rintro v H' ⟨rfl, hS⟩
    simp only [g8, g1, g4, g5, g6, g7, z2, ↓D0, ↓D1, ↓D2, ↓D3, ↓D4, ↓D5, ↓D6, ↓D7, ↓D8, ↓D9, U0, U1, U2, U3, U4, U5, U6, U7, U8, U9, U10, ↓reduceIte, Nat.reduceAdd, Nat.reduceMul, Nat.reduceSub, Nat.reduceEqDiff, Nat.reduceBEq, Nat.reduceLeDiff, Nat.reduceLT, Int.reduceAdd, Int.reduceMul, Int.reduceSub, Int.reduceLT, Int.reduceLE, Int.reduceToNat, Int.reduceEq, Int.reduceNe, Int.reduceBEq, Int.reduceBNe, ne_eq, eq_self]
    refine callT_of (c_pustep p1wf (fun _ => by rw [p1s]; exact p1of) hS) ?_
    rintro v H' ⟨rfl, hS⟩
    have hS : Sep (puB kp (its Pu.step 2 mkP mkW4).1 :: wB b s (its Pu.step 2 mkP mkW4).2 :: wR s (its Pu.step 2 mkP mkW4).2 :: _) H' := hS
    simp only [g8, g1, g4, g5, g6, g7, ↓D0, ↓D1, ↓D2, ↓D3, ↓D4, ↓D5, ↓D6, ↓D7, ↓D8, ↓D9, U0, U1, U2, U3, U4, U5, U6, U7, U8, U9, U10, ↓reduceIte, Nat.reduceAdd, Nat.reduceMul, Nat.reduceSub, Nat.reduceEqDiff, Nat.reduceBEq, Nat.reduceLeDiff, Nat.reduceLT, Int.reduceAdd, Int.reduceMul, Int.reduceSub, Int.reduceLT, Int.reduceLE, Int.reduceToNat, Int.reduceEq, Int.reduceNe, Int.reduceBEq, Int.reduceBNe, ne_eq, eq_self]
    refine callT_of (c_tkdone hS.p3) ?_
    rintro v H' ⟨rfl, hS⟩
    simp only [g8, g1, g4, g5, g6, g7, z1, ↓D0, ↓D1, ↓D2, ↓D3, ↓D4, ↓D5, ↓D6, ↓D7, ↓D8, ↓D9, U0, U1, U2, U3, U4, U5, U6, U7, U8, U9, U10, ↓reduceIte, Nat.reduceAdd, Nat.reduceMul, Nat.reduceSub, Nat.reduceEqDiff, Nat.reduceBEq, Nat.reduceLeDiff, Nat.reduceLT, Int.reduceAdd, Int.reduceMul, Int.reduceSub, Int.reduceLT, Int.reduceLE, Int.reduceToNat, Int.reduceEq, Int.reduceNe, Int.reduceBEq, Int.reduceBNe, ne_eq, eq_self]
    refine callT_of (c_steps hS.p2) ?_
    rintro v H' ⟨rfl, hS⟩
    simp only [g8, g1, g4, g5, g6, g7, z5, ↓D0, ↓D1, ↓D2, ↓D3, ↓D4, ↓D5, ↓D6, ↓D7, ↓D8, ↓D9, U0, U1, U2, U3, U4, U5, U6, U7, U8, U9, U10, ↓reduceIte, Nat.reduceAdd, Nat.reduceMul, Nat.reduceSub, Nat.reduceEqDiff, Nat.reduceBEq, Nat.reduceLeDiff, Nat.reduceLT, Int.reduceAdd, Int.reduceMul, Int.reduceSub, Int.reduceLT, Int.reduceLE, Int.reduceToNat, Int.reduceEq, Int.reduceNe, Int.reduceBEq, Int.reduceBNe, ne_eq, eq_self]
    refine callT_of (c_puput hS.p2) ?_
    rintro v H' ⟨rfl, hS⟩
    simp only [g8, g1, g4, g5, g6, g7, z4, ↓D0, ↓D1, ↓D2, ↓D3, ↓D4, ↓D5, ↓D6, ↓D7, ↓D8, ↓D9, U0, U1, U2, U3, U4, U5, U6, U7, U8, U9, U10, ↓reduceIte, Nat.reduceAdd, Nat.reduceMul, Nat.reduceSub, Nat.reduceEqDiff, Nat.reduceBEq, Nat.reduceLeDiff, Nat.reduceLT, Int.reduceAdd, Int.reduceMul, Int.reduceSub, Int.reduceLT, Int.reduceLE, Int.reduceToNat, Int.reduceEq, Int.reduceNe, Int.reduceBEq, Int.reduceBNe, ne_eq, eq_self]
    refine callT_of (c_pudone hS) ?_
    rintro v H' ⟨rfl, hS⟩
    simp only [g8, g1, g4, g5, g6, g7, z3, ↓D0, ↓D1, ↓D2, ↓D3, ↓D4, ↓D5, ↓D6, ↓D7, ↓D8, ↓D9, U0, U1, U2, U3, U4, U5, U6, U7, U8, U9, U10, ↓reduceIte, Nat.reduceAdd, Nat.reduceMul, Nat.reduceSub, Nat.reduceEqDiff, Nat.reduceBEq, Nat.reduceLeDiff, Nat.reduceLT, Int.reduceAdd, Int.reduceMul, Int.reduceSub, Int.reduceLT, Int.reduceLE, Int.reduceToNat, Int.reduceEq, Int.reduceNe, Int.reduceBEq, Int.reduceBNe, ne_eq, eq_self]
    refine callT_of (c_tkdone hS.p4) ?_
    rintro v H' ⟨rfl, hS⟩
    have hx := hS.lk 5 rfl
    have r2 := fun o n => rdn_of hx o n
    simp only [g8, g1, g4, g5, g6, g7, z6, hx, r2, ↓D0, ↓D1, ↓D2, ↓D3, ↓D4, ↓D5, ↓D6, ↓D7, ↓D8, ↓D9, U0, U1, U2, U3, U4, U5, U6, U7, U8, U9, U10, ↓reduceIte, Nat.reduceAdd, Nat.reduceMul, Nat.reduceSub, Nat.reduceEqDiff, Nat.reduceBEq, Nat.reduceLeDiff, Nat.reduceLT, Int.reduceAdd, Int.reduceMul, Int.reduceSub, Int.reduceLT, Int.reduceLE, Int.reduceToNat, Int.reduceEq, Int.reduceNe, Int.reduceBEq, Int.reduceBNe, ne_eq, eq_self]
    refine callT_of (c_punew (sh := ⟨1, 1, 3⟩) hS) ?_
    rintro v H' ⟨kz, rfl, hS⟩
    simp only [g8, g1, g4, g5, g6, g7, ↓D0, ↓D1, ↓D2, ↓D3, ↓D4, ↓D5, ↓D6, ↓D7, ↓D8, ↓D9, U0, U1, U2, U3, U4, U5, U6, U7, U8, U9, U10, ↓reduceIte, Nat.reduceAdd, Nat.reduceMul, Nat.reduceSub, Nat.reduceEqDiff, Nat.reduceBEq, Nat.reduceLeDiff, Nat.reduceLT, Int.reduceAdd, Int.reduceMul, Int.reduceSub, Int.reduceLT, Int.reduceLE, Int.reduceToNat, Int.reduceEq, Int.reduceNe, Int.reduceBEq, Int.reduceBNe, ne_eq, eq_self]
    refine callT_of (c_pudone hS) ?_
    rintro v H' ⟨rfl, hS⟩
    have hx := hS.lk 6 rfl
    have r2 := fun o n => rdn_of hx o n
    simp only [g8, g1, g4, g5, g6, g7, z7, hx, r2, ↓D0, ↓D1, ↓D2, ↓D3, ↓D4, ↓D5, ↓D6, ↓D7, ↓D8, ↓D9, U0, U1, U2, U3, U4, U5, U6, U7, U8, U9, U10, ↓reduceIte, Nat.reduceAdd, Nat.reduceMul, Nat.reduceSub, Nat.reduceEqDiff, Nat.reduceBEq, Nat.reduceLeDiff, Nat.reduceLT, Int.reduceAdd, Int.reduceMul, Int.reduceSub, Int.reduceLT, Int.reduceLE, Int.reduceToNat, Int.reduceEq, Int.reduceNe, Int.reduceBEq, Int.reduceBNe, ne_eq, eq_self]
    refine callT_of (c_tknew (sh := ⟨1, 1, 3⟩) hS) ?_
    rintro v H' ⟨kz2, rfl, hS⟩
    simp only [↓D0, ↓D1, ↓D2, ↓D3, ↓D4, ↓D5, ↓D6, ↓D7, ↓D8, ↓D9, U0, U1, U2, U3, U4, U5, U6, U7, U8, U9, U10, ↓reduceIte, Nat.reduceAdd, Nat.reduceMul, Nat.reduceSub, Nat.reduceEqDiff, Nat.reduceBEq, Nat.reduceLeDiff, Nat.reduceLT, Int.reduceAdd, Int.reduceMul, Int.reduceSub, Int.reduceLT, Int.reduceLE, Int.reduceToNat, Int.reduceEq, Int.reduceNe, Int.reduceBEq, Int.reduceBNe, ne_eq, eq_self]
    refine callT_of (c_tkdone hS) ?_
    rintro v H' ⟨rfl, hS⟩
    simp only [z8, ↓D0, ↓D1, ↓D2, ↓D3, ↓D4, ↓D5, ↓D6, ↓D7, ↓D8, ↓D9, U0, U1, U2, U3, U4, U5, U6, U7, U8, U9, U10, ↓reduceIte, Nat.reduceAdd, Nat.reduceMul, Nat.reduceSub, Nat.reduceEqDiff, Nat.reduceBEq, Nat.reduceLeDiff, Nat.reduceLT, Int.reduceAdd, Int.reduceMul, Int.reduceSub, Int.reduceLT, Int.reduceLE, Int.reduceToNat, Int.reduceEq, Int.reduceNe, Int.reduceBEq, Int.reduceBNe, ne_eq, eq_self]
    exact hS.tail.tail.tail.tail.tail.tail.tail.tail
end

theorem l_magknown {W : World} : CallP Try.prog W 19 #[] (memOf W) fun v H' => v = .bool true ∧ Sub (memOf W) H' :=
  (c_magknown (Sep.one _)).mono fun v H' ⟨h1, h2⟩ => ⟨h1, h2.head⟩

end Go.Proofs.Ytfapipblclikbaa
