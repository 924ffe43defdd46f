/-
  Chapter 16's awake: a row of two pages is given. Conditions: none.
-/
import Derived.Test.YtofcocbgamdghaaGreatCodeAllotmentlaw16
import Derived.Test.YtofcocbgamdghaaGreatGive
import Derived.Test.YtofcocbgamdghaaGreatMaGiveA
import Derived.Test.YtofcocbgamdghaaGreatRow
open Nat renaming reduceAdd → xA, reduceMul → xB, reduceSub → xC, reduceEqDiff → xD, reduceBEq → xE, reduceLeDiff → xF, reduceLT → xG
open Int renaming reduceAdd → xH, reduceMul → xI, reduceSub → xJ, reduceLT → xK, reduceLE → xL, reduceToNat → xM, reduceEq → xN, reduceNe → xO, reduceBEq → xP, reduceBNe → xQ
set_option linter.unusedVariables false
set_option linter.unusedSimpArgs false
set_option maxRecDepth 8000
namespace Go.Proofs.YtofcocbgamdghaaGreat
open Go Go.Ev Go.Pl Go.Ma

def gkT : Gv := Gv.new ⟨2, 1, 0⟩ 0 0
def gkR : Nat → Int := fun j => if j = 2 then putPg 4 0 0 else if j = 1 then putPg 3 2 0 else 0
def gkW : Wd := rowW 35 gkR
theorem gk_of : gkW.of ⟨2, 1, 0⟩ := ⟨by decide, fun i => by
  show U (if _ then (if _ then _ else if _ then _ else _) else _)
  split
  · split
    · exact U_putPg ..
    · split
      · exact U_putPg ..
      · exact U_0
  · exact U_0⟩
theorem gk_end : (its Gv.step 1 gkT gkW).1.gv = false ∧ (its Gv.step 2 gkT gkW).1.gv = true ∧ (its Gv.step 4 gkT gkW).1.dn = true ∧ (its Gv.step 4 gkT gkW).2.st = 4 ∧ (its Gv.step 4 gkT gkW).2.get 1 = 0 ∧ (its Gv.step 4 gkT gkW).2.get 2 = 0 ∧ (its Gv.step 4 gkT gkW).2.n = 35 := by decide +kernel

section
variable {W : World} {H : Hp} {l : List Hp}
/-- One step more of a run. -/
theorem c_gvits {t : Gv} {w : Wd} {k kp b s : Nat} (ht : t.wf) (ho : w.of t.s) (i : Nat) (hS : Sep (gvB k kp (its Gv.step i t w).1 :: puO kp (its Gv.step i t w).1.put :: wB b s (its Gv.step i t w).2 :: wR s (its Gv.step i t w).2 :: l) H) :
    CallP Tryz.prog W 12 #[.pointer (some ⟨k, 0, none⟩), .pointer (some ⟨b, 0, none⟩)] H fun v H' => v = .tuple #[] ∧ ∃ kp', Sep (gvB k kp' (its Gv.step (i + 1) t w).1 :: puO kp' (its Gv.step (i + 1) t w).1.put :: wB b s (its Gv.step (i + 1) t w).2 :: wR s (its Gv.step (i + 1) t w).2 :: l) H' := by
  obtain ⟨h1, h2, h3, -⟩ := Gv.its_all ht ho i
  exact c_gvstep h1 (fun _ => by rw [h3]; exact h2) hS
theorem c_awake16 (hS : Sep l H) : CallP Tryz.prog W 4 #[] H fun v H' => v = .bool true ∧ Sep l H' := by
  refine CallP.of mixed Tryz.func4 tr4 (by show 0 ≤ _; decide) fun W _ => ?_
  have e1 : words 2 1 0 = 35 := by decide
  simp only [↓DD, UU, ↓reduceIte, xA, xB, xC, xD, xE, xF, xG, xH, xI, xJ, xK, xL, xM, xN, xO, xP, xQ, ne_eq, eq_self]
  refine newB_intro fun x hx f1 f2 => ?_
  simp only [u_words, e1, ↓DD, UU, ↓reduceIte, xA, xB, xC, xD, xE, xF, xG, xH, xI, xJ, xK, xL, xM, xN, xO, xP, xQ, ne_eq, eq_self]
  have hS1 := hS.new f1 (.cells #[.int .i64 2, .int .i64 1, .int .i64 0] 26 (0, 0))
  refine newB_intro fun y hy f3 f4 => ?_
  have hS2 := hS1.new f3 (.cells (Array.replicate 35 (.int .u64 0)) 29 (0, 0))
  have nxy := hS2.qen 0 1 (by decide) rfl rfl
  have nyx := hS2.neq 0 1 (by decide) rfl rfl
  simp only [nxy, nyx, urow_zero, urow_set, urow_size, u_putpg, ↓DD, UU, ↓reduceIte, xA, xB, xC, xD, xE, xF, xG, xH, xI, xJ, xK, xL, xM, xN, xO, xP, xQ, ne_eq, eq_self]
  refine callT_of (c_fill (n := 35) (by decide) (RowU.own y 35 _ _ _) (hS1.new f3 _)) ?_
  rintro v H' ⟨b, s, rfl, hS⟩
  have hx := hS.lk 3 rfl
  have r2 := fun o n => rdn_of hx o n
  simp only [hx, r2, ↓DD, UU, ↓reduceIte, xA, xB, xC, xD, xE, xF, xG, xH, xI, xJ, xK, xL, xM, xN, xO, xP, xQ, ne_eq, eq_self]
  refine callT_of (c_gvnew (sh := ⟨2, 1, 0⟩) hS) ?_
  rintro v H' ⟨k, rfl, hS⟩
  have hS : Sep (gvB k 0 gkT :: puO 0 gkT.put :: wB b s gkW :: wR s gkW :: l) H' := by
    have := hS.p3.tail.p3.tail.nothing.p1
    exact this
  have hwf : gkT.wf := Gv.new_wf ⟨2, 1, 0⟩ 0 0
  obtain ⟨z1, z2, z3, z4, z5, z6, z7⟩ := gk_end
  simp only [↓DD, UU, ↓reduceIte, xA, xB, xC, xD, xE, xF, xG, xH, xI, xJ, xK, xL, xM, xN, xO, xP, xQ, ne_eq, eq_self]
  refine callT_of (c_gvits hwf gk_of 0 hS) ?_
  rintro v H' ⟨rfl, kp0, hS⟩
  simp only [↓DD, UU, ↓reduceIte, xA, xB, xC, xD, xE, xF, xG, xH, xI, xJ, xK, xL, xM, xN, xO, xP, xQ, ne_eq, eq_self]
  refine callT_of (c_gvgave hS) ?_
  rintro v H' ⟨rfl, hS⟩
  simp only [z1, ↓DD, UU, ↓reduceIte, xA, xB, xC, xD, xE, xF, xG, xH, xI, xJ, xK, xL, xM, xN, xO, xP, xQ, ne_eq, eq_self]
  refine callT_of (c_gvits hwf gk_of 1 hS) ?_
  rintro v H' ⟨rfl, kp1, hS⟩
  simp only [↓DD, UU, ↓reduceIte, xA, xB, xC, xD, xE, xF, xG, xH, xI, xJ, xK, xL, xM, xN, xO, xP, xQ, ne_eq, eq_self]
  refine callT_of (c_gvgave hS) ?_
  rintro v H' ⟨rfl, hS⟩
  simp only [z2, ↓DD, UU, ↓reduceIte, xA, xB, xC, xD, xE, xF, xG, xH, xI, xJ, xK, xL, xM, xN, xO, xP, xQ, ne_eq, eq_self]
  refine callT_of (c_gvits hwf gk_of 2 hS) ?_
  rintro v H' ⟨rfl, kp2, hS⟩
  simp only [↓DD, UU, ↓reduceIte, xA, xB, xC, xD, xE, xF, xG, xH, xI, xJ, xK, xL, xM, xN, xO, xP, xQ, ne_eq, eq_self]
  refine callT_of (c_gvits hwf gk_of 3 hS) ?_
  rintro v H' ⟨rfl, kp3, hS⟩
  simp only [↓DD, UU, ↓reduceIte, xA, xB, xC, xD, xE, xF, xG, xH, xI, xJ, xK, xL, xM, xN, xO, xP, xQ, ne_eq, eq_self]
  refine callT_of (c_gvdone hS) ?_
  rintro v H' ⟨rfl, hS⟩
  simp only [z3, ↓DD, UU, ↓reduceIte, xA, xB, xC, xD, xE, xF, xG, xH, xI, xJ, xK, xL, xM, xN, xO, xP, xQ, ne_eq, eq_self]
  refine callT_of (c_steps hS.tail.tail) ?_
  rintro v H' ⟨rfl, hS⟩
  simp only [z4, ↓DD, UU, ↓reduceIte, xA, xB, xC, xD, xE, xF, xG, xH, xI, xJ, xK, xL, xM, xN, xO, xP, xQ, ne_eq, eq_self]
  refine callT_of (c_look 1 (by decide) (by rw [z7]; decide) hS) ?_
  rintro v H' ⟨rfl, hS⟩
  simp only [z5, ↓DD, UU, ↓reduceIte, xA, xB, xC, xD, xE, xF, xG, xH, xI, xJ, xK, xL, xM, xN, xO, xP, xQ, ne_eq, eq_self]
  refine callT_of (c_look 2 (by decide) (by rw [z7]; decide) hS) ?_
  rintro v H' ⟨rfl, hS⟩
  simp only [z6, ↓DD, UU, ↓reduceIte, xA, xB, xC, xD, xE, xF, xG, xH, xI, xJ, xK, xL, xM, xN, xO, xP, xQ, ne_eq, eq_self]
  exact hS.tail.tail
end
end Go.Proofs.YtofcocbgamdghaaGreat
