/-
  Chapter 15's awake: a block is reserved and committed. Conditions: none.
-/
import Derived.Test.YtfdhilnaagpecaaGreatCodeAllotmentlaw15
import Derived.Test.YtfdhilnaagpecaaGreatTake
import Derived.Test.YtfdhilnaagpecaaGreatLawK
import Derived.Test.YtfdhilnaagpecaaGreatRowA
import Derived.Test.YtfdhilnaagpecaaGreatMaMI
open Nat renaming reduceAdd → xA, reduceMul → xB, reduceSub → xC, reduceEqDiff → xD, reduceBEq → xE, reduceLeDiff → xF, reduceLT → xG
open Int renaming reduceAdd → xH, reduceMul → xI, reduceSub → xJ, reduceLT → xK, reduceLE → xL, reduceToNat → xM, reduceEq → xN, reduceNe → xO, reduceBEq → xP, reduceBNe → xQ
set_option linter.unusedVariables false
set_option linter.unusedSectionVars false
set_option linter.unusedSimpArgs false
set_option maxRecDepth 8000
namespace Go.Proofs.YtfdhilnaagpecaaGreat
open Go Go.Ev Go.Pl Go.Ma

def t5V : Rv := Rv.new ⟨1, 1, 0⟩ 0 64 0
def t5W : Wd := rowW 18 fun _ => 0
def t5V1 : Rv × Wd := t5V.step t5W
def t5V2 : Rv × Wd := t5V1.1.step t5V1.2
def t5C : Cm := Cm.new ⟨1, 1, 0⟩ 0 t5V2.1.bk
theorem t5W_of : t5W.of ⟨1, 1, 0⟩ := ⟨by decide, fun i => by
  show U (if _ then _ else _)
  split <;> exact U_0⟩
theorem t5_end : (t5V2.1.dn = true ∧ t5V2.1.fd = true ∧ t5V2.1.bk.lg = true ∧ t5V2.1.bk.p = 0 ∧ t5V2.1.bk.i = 0) ∧ t5V2.1.bk.n = 1 ∧ t5V2.1.bk.len = 64 ∧ t5V2.1.bk.ad = 0 ∧ (t5C.step t5V2.2).1.dn = true ∧ (t5C.step t5V2.2).2.get 1 = putPg 3 1 0 ∧ (t5C.step t5V2.2).2.n = 18 := by decide +kernel
theorem rv_shape {v : Rv} {w : Wd} {s : Sh} {c : Int} (h : v.of s c) (hw : w.of s) (hd : v.dn = false) : w.of v.shp := by
  cases v with
  | sk t => show w.of t.s; rw [h.1]; exact hw
  | rn t => show w.of t.s; rw [h.1]; exact hw
  | no => cases hd
section
variable {W : World} {H : Hp} {l : List Hp}
theorem c_awake15 (hS : Sep l H) : CallP Tryz.prog W 4 #[] H fun v H' => v = .bool true ∧ Sep l H' := by
  refine CallP.of mixed Tryz.func4 tr4 (by show 0 ≤ _; decide) fun W _ => ?_
  have e1 : words 1 1 0 = 18 := by decide
  simp only [↓DD, UU, ↓reduceIte, xA, xB, xC, xD, xE, xF, xG, xH, xI, xJ, xK, xL, xM, xN, xO, xP, xQ, ne_eq, eq_self]
  refine newB_intro fun x hx f1 f2 => ?_
  simp only [u_words, e1, ↓DD, UU, ↓reduceIte, xA, xB, xC, xD, xE, xF, xG, xH, xI, xJ, xK, xL, xM, xN, xO, xP, xQ, ne_eq, eq_self]
  have hS1 := hS.new f1 (.cells #[.int .i64 1, .int .i64 1, .int .i64 0] 26 (0, 0))
  refine newB_intro fun y hy f3 f4 => ?_
  simp only [urow_zero, ↓DD, UU, ↓reduceIte, xA, xB, xC, xD, xE, xF, xG, xH, xI, xJ, xK, xL, xM, xN, xO, xP, xQ, ne_eq, eq_self]
  refine callT_of (c_fill (n := 18) (by decide) (RowU.own y 18 _ _ _) (hS1.new f3 _)) ?_
  rintro v H' ⟨b, s, rfl, hS⟩
  have hx := hS.lk 3 rfl
  have r2 := fun o n => rdn_of hx o n
  simp only [hx, r2, ↓DD, UU, ↓reduceIte, xA, xB, xC, xD, xE, xF, xG, xH, xI, xJ, xK, xL, xM, xN, xO, xP, xQ, ne_eq, eq_self]
  refine callT_of (c_rvnew (sh := ⟨1, 1, 0⟩) hS) ?_
  rintro v H' ⟨k, k2, kn, rfl, hS⟩
  obtain ⟨⟨z1, z2, z3, z4, z4i⟩, z5, z6, z7, z8, z9, z10⟩ := t5_end
  have wf0 : t5V.wf := Rv.new_wf ..
  have of0 : t5V.of ⟨1, 1, 0⟩ 0 := Rv.new_of ..
  have wf1 : t5V1.1.wf := Rv.step_wf wf0
  have of1 : t5V1.1.of ⟨1, 1, 0⟩ 0 := Rv.step_ofs wf0 of0
  have w1 : t5V1.2.of ⟨1, 1, 0⟩ := Rv.step_of wf0 t5W_of
  have w2 : t5V2.2.of ⟨1, 1, 0⟩ := Rv.step_of wf1 w1
  simp only [↓DD, UU, ↓reduceIte, xA, xB, xC, xD, xE, xF, xG, xH, xI, xJ, xK, xL, xM, xN, xO, xP, xQ, ne_eq, eq_self]
  refine callT_of (c_rvstep (t := t5V) (w := t5W) wf0 (rv_shape of0 t5W_of) hS) ?_
  rintro v H' ⟨rfl, kn, hS⟩
  simp only [↓DD, UU, ↓reduceIte, xA, xB, xC, xD, xE, xF, xG, xH, xI, xJ, xK, xL, xM, xN, xO, xP, xQ, ne_eq, eq_self]
  refine callT_of (c_rvstep (t := t5V1.1) (w := t5V1.2) wf1 (rv_shape of1 w1) hS) ?_
  rintro v H' ⟨rfl, kn, hS⟩
  simp only [↓DD, UU, ↓reduceIte, xA, xB, xC, xD, xE, xF, xG, xH, xI, xJ, xK, xL, xM, xN, xO, xP, xQ, ne_eq, eq_self]
  refine callT_of (c_rvfound (t := t5V2.1) hS) ?_
  rintro v H' ⟨rfl, hS⟩
  have hx := hS.lk 6 rfl
  have r2 := fun o n => rdn_of hx o n
  simp only [bkV, hx, r2, ↓DD, UU, ↓reduceIte, xA, xB, xC, xD, xE, xF, xG, xH, xI, xJ, xK, xL, xM, xN, xO, xP, xQ, ne_eq, eq_self]
  refine newB_intro fun z hz f5 f6 => ?_
  have hS := hS.new f5 (.cells #[.bool t5V2.1.bk.lg, .int .i64 t5V2.1.bk.p, .int .i64 t5V2.1.bk.i, .int .i64 t5V2.1.bk.k, .int .i64 t5V2.1.bk.n] 37 (0, 0))
  have hx := hS.lk 7 rfl
  have hz1 := hS.look
  have r2 := fun o n => rdn_of hx o n
  have rz := fun o n => rdn_of hz1 o n
  have nxz := hS.qen 0 7 (by decide) rfl rfl
  simp only [hx, r2, hz1, rz, nxz, z2, Ev.upd_upd, ↓DD, UU, ↓reduceIte, xA, xB, xC, xD, xE, xF, xG, xH, xI, xJ, xK, xL, xM, xN, xO, xP, xQ, ne_eq, eq_self]
  refine callT_of (c_cmnew (sh := ⟨1, 1, 0⟩) (c := 0) (B := t5V2.1.bk) hS) ?_
  rintro v H' ⟨kc, rfl, hS⟩
  simp only [↓DD, UU, ↓reduceIte, xA, xB, xC, xD, xE, xF, xG, xH, xI, xJ, xK, xL, xM, xN, xO, xP, xQ, ne_eq, eq_self]
  have wfC : t5C.wf := Cm.new_wf _ _ _
  refine callT_of (c_cmstep (t := t5C) (w := t5V2.2) wfC (fun _ => w2) hS.p6.p6.p2) ?_
  rintro v H' ⟨rfl, hS⟩
  simp only [↓DD, UU, ↓reduceIte, xA, xB, xC, xD, xE, xF, xG, xH, xI, xJ, xK, xL, xM, xN, xO, xP, xQ, ne_eq, eq_self]
  refine callT_of (c_rvdone (t := t5V2.1) hS.p6.p6.p6) ?_
  rintro v H' ⟨rfl, hS⟩
  have hz1 := hS.lk 6 rfl
  have rz := fun o n => rdn_of hz1 o n
  have rz1 := fun o => rd_of hz1 o
  simp only [hz1, rz, rz1, z1, z2, z3, ↓DD, UU, ↓reduceIte, xA, xB, xC, xD, xE, xF, xG, xH, xI, xJ, xK, xL, xM, xN, xO, xP, xQ, ne_eq, eq_self]
  refine callT_of (c_bklen (B := t5V2.1.bk) (by rw [z5]; decide) hS) ?_
  rintro v H' ⟨rfl, hS⟩
  have hz1 := hS.lk 6 rfl
  have rz := fun o n => rdn_of hz1 o n
  simp only [hz1, rz, z6, ↓DD, UU, ↓reduceIte, xA, xB, xC, xD, xE, xF, xG, xH, xI, xJ, xK, xL, xM, xN, xO, xP, xQ, ne_eq, eq_self]
  refine callT_of (c_bkat (B := t5V2.1.bk) (by rw [z4]; decide) (by rw [z4i]; decide) hS) ?_
  rintro v H' ⟨rfl, hS⟩
  simp only [z7, ↓DD, UU, ↓reduceIte, xA, xB, xC, xD, xE, xF, xG, xH, xI, xJ, xK, xL, xM, xN, xO, xP, xQ, ne_eq, eq_self]
  refine callT_of (c_cmdone (t := (t5C.step t5V2.2).1) hS.p3) ?_
  rintro v H' ⟨rfl, hS⟩
  simp only [z8, ↓DD, UU, ↓reduceIte, xA, xB, xC, xD, xE, xF, xG, xH, xI, xJ, xK, xL, xM, xN, xO, xP, xQ, ne_eq, eq_self]
  refine callT_of (c_look 1 (by decide) (by rw [z10]; decide) hS.p5.p5) ?_
  rintro v H' ⟨rfl, hS⟩
  simp only [z9, u_putpg, ↓DD, UU, ↓reduceIte, xA, xB, xC, xD, xE, xF, xG, xH, xI, xJ, xK, xL, xM, xN, xO, xP, xQ, ne_eq, eq_self]
  exact hS.tail.tail.tail.tail.tail.tail.tail.tail.tail
end
end Go.Proofs.YtfdhilnaagpecaaGreat
