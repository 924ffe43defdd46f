/-
  TakeSteps, walked: whatever the words are, a reservation ends within the bound. Conditions: none.
-/
import Derived.Test.YtpdmeneigpipiaaCodeAllotmentlaw15
import Derived.Test.YtpdmeneigpipiaaTakeK
import Derived.Test.YtpdmeneigpipiaaRowV
import Derived.Test.YtpdmeneigpipiaaCap
set_option linter.unusedVariables false
set_option linter.unusedSectionVars false
set_option linter.unusedSimpArgs false
set_option maxRecDepth 8000
namespace Go.Proofs.Ytpdmeneigpipiaa
open Go Go.Ev Go.Pl Go.Ma

section
variable {W : World} {H h : Hp} {l : List Hp} {n cap : Nat} {a : Option Addr} {ws : Nat → Int}
def tsI (sh : Sh) (B : Int) (b s k k2 j j2 : Nat) (L : List Hp) (F' : Fr) (H' : Hp) : Prop :=
  ∃ (i x y : Int) (kn jn : Nat) (t u : Rv) (w : Wd), 0 ≤ i ∧ i ≤ 2 * B + 10 ∧ gt F' 13 = .int .i64 i ∧ gt F' 11 = .int .i64 x ∧ gt F' 12 = .int .i64 y ∧ gt F' 10 = .int .i64 B ∧ gt F' 7 = .pointer (some ⟨b, 0, none⟩) ∧ gt F' 8 = .pointer (some ⟨k, 0, none⟩) ∧ gt F' 9 = .pointer (some ⟨j, 0, none⟩) ∧
    t.wf ∧ t.of sh 0 ∧ u.wf ∧ u.of sh 1 ∧ w.of sh ∧ 0 ≤ x ∧ 0 ≤ y ∧ t.left + x ≤ B ∧ u.left + y ≤ B ∧ w.st = x + y ∧ t.left ≤ max 0 (B - i) ∧ u.left ≤ max 0 (B - (i - (i + 1) / 3)) ∧
    Sep (rvB k k2 t :: rvA k2 kn t :: rvN kn t :: rvB j j2 u :: rvA j2 jn u :: rvN jn u :: wB b s w :: wR s w :: L) H'
set_option maxHeartbeats 2000000 in
theorem c_takesteps (sh : Sh) (n0 n1 n2 n3 : Int) (hr : RowU h a n ws) (hU : ∀ i, i < n → U (ws i)) (hS : Sep (h :: l) H) :
    CallP Try.prog W 5 #[.agg #[.int .i64 sh.p, .int .i64 sh.c, .int .i64 sh.m], .slice a n cap, .agg #[.int .i64 n0, .int .i64 n1, .int .i64 n2, .int .i64 n3]] H fun v H' => v = .bool true ∧ Sep (h :: l) H' := by
  refine CallP.of mixed Try.func5 tr5 (by show 3 ≤ _; decide) fun W _ => ?_
  simp only [↓D0, ↓D1, ↓D2, ↓D3, ↓D4, ↓D5, ↓D6, ↓D7, ↓D8, ↓D9, ↓D10, U0, U1, U2, U3, U4, U5, U6, U7, U8, U9, U10, ↓reduceIte, Nat.reduceAdd, Nat.reduceMul, Nat.reduceSub, Nat.reduceEqDiff, Nat.reduceBEq, Nat.reduceLeDiff, Nat.reduceLT, Int.reduceAdd, Int.reduceMul, Int.reduceSub, Int.reduceLT, Int.reduceLE, Int.reduceToNat, Int.reduceEq, Int.reduceNe, Int.reduceBEq, Int.reduceBNe, ne_eq, eq_self]
  refine newB_intro fun x hx f1 f2 => ?_
  simp only [↓D0, ↓D1, ↓D2, ↓D3, ↓D4, ↓D5, ↓D6, ↓D7, ↓D8, ↓D9, ↓D10, U0, U1, U2, U3, U4, U5, U6, U7, U8, U9, U10, ↓reduceIte, Nat.reduceAdd, Nat.reduceMul, Nat.reduceSub, Nat.reduceEqDiff, Nat.reduceBEq, Nat.reduceLeDiff, Nat.reduceLT, Int.reduceAdd, Int.reduceMul, Int.reduceSub, Int.reduceLT, Int.reduceLE, Int.reduceToNat, Int.reduceEq, Int.reduceNe, Int.reduceBEq, Int.reduceBNe, ne_eq, eq_self]
  refine newB_intro fun z hz f3 f4 => ?_
  simp only [↓D0, ↓D1, ↓D2, ↓D3, ↓D4, ↓D5, ↓D6, ↓D7, ↓D8, ↓D9, ↓D10, U0, U1, U2, U3, U4, U5, U6, U7, U8, U9, U10, ↓reduceIte, Nat.reduceAdd, Nat.reduceMul, Nat.reduceSub, Nat.reduceEqDiff, Nat.reduceBEq, Nat.reduceLeDiff, Nat.reduceLT, Int.reduceAdd, Int.reduceMul, Int.reduceSub, Int.reduceLT, Int.reduceLE, Int.reduceToNat, Int.reduceEq, Int.reduceNe, Int.reduceBEq, Int.reduceBNe, ne_eq, eq_self]
  have hS := (hS.new f1 (.cells #[.int .i64 sh.p, .int .i64 sh.c, .int .i64 sh.m] 25 (0, 0))).new f3 (.cells #[.int .i64 n0, .int .i64 n1, .int .i64 n2, .int .i64 n3] 55 (0, 0))
  have nzx := hS.neq 0 1 (by decide) rfl rfl
  have nxz := hS.qen 0 1 (by decide) rfl rfl
  refine callT_of (c_awake15 hS) ?_
  rintro v H' ⟨rfl, hS⟩
  have hx1 := hS.lk 1 rfl
  have r0 := fun o => rd_of hx1 o
  have r1 := fun o n => rdn_of hx1 o n
  simp only [hx1, r1, ↓D0, ↓D1, ↓D2, ↓D3, ↓D4, ↓D5, ↓D6, ↓D7, ↓D8, ↓D9, ↓D10, U0, U1, U2, U3, U4, U5, U6, U7, U8, U9, U10, ↓reduceIte, Nat.reduceAdd, Nat.reduceMul, Nat.reduceSub, Nat.reduceEqDiff, Nat.reduceBEq, Nat.reduceLeDiff, Nat.reduceLT, Int.reduceAdd, Int.reduceMul, Int.reduceSub, Int.reduceLT, Int.reduceLE, Int.reduceToNat, Int.reduceEq, Int.reduceNe, Int.reduceBEq, Int.reduceBNe, ne_eq, eq_self]
  refine callT_of (c_fair (sh := sh) hS) ?_
  rintro v H' ⟨rfl, hS⟩
  cases hf : (may sh.p sh.c sh.m && ((n : Int) == words sh.p sh.c sh.m))
  · simp only [hf, ↓D0, ↓D1, ↓D2, ↓D3, ↓D4, ↓D5, ↓D6, ↓D7, ↓D8, ↓D9, ↓D10, U0, U1, U2, U3, U4, U5, U6, U7, U8, U9, U10, ↓reduceIte, Nat.reduceAdd, Nat.reduceMul, Nat.reduceSub, Nat.reduceEqDiff, Nat.reduceBEq, Nat.reduceLeDiff, Nat.reduceLT, Int.reduceAdd, Int.reduceMul, Int.reduceSub, Int.reduceLT, Int.reduceLE, Int.reduceToNat, Int.reduceEq, Int.reduceNe, Int.reduceBEq, Int.reduceBNe, ne_eq, eq_self]
    exact hS.tail.tail
  have hx1 := hS.lk 1 rfl
  have r0 := fun o => rd_of hx1 o
  have r1 := fun o n => rdn_of hx1 o n
  by_cases hc2 : sh.c < 2
  · have g2 : decide (sh.c < 2) = true := decide_eq_true hc2
    simp only [hf, hx1, r0, g2, ↓D0, ↓D1, ↓D2, ↓D3, ↓D4, ↓D5, ↓D6, ↓D7, ↓D8, ↓D9, ↓D10, U0, U1, U2, U3, U4, U5, U6, U7, U8, U9, U10, ↓reduceIte, Nat.reduceAdd, Nat.reduceMul, Nat.reduceSub, Nat.reduceEqDiff, Nat.reduceBEq, Nat.reduceLeDiff, Nat.reduceLT, Int.reduceAdd, Int.reduceMul, Int.reduceSub, Int.reduceLT, Int.reduceLE, Int.reduceToNat, Int.reduceEq, Int.reduceNe, Int.reduceBEq, Int.reduceBNe, ne_eq, eq_self]
    exact hS.tail.tail
  have g2 : decide (sh.c < 2) = false := decide_eq_false hc2
  have hf2 := hf
  simp only [Bool.and_eq_true, beq_iff_eq] at hf2
  obtain ⟨hm, hn⟩ := hf2
  have hb := (may_iff _ _ _).1 hm
  have hn2 : n ≤ 2000 := by
    have := mul_bd sh.c sh.m (by omega) (by omega) (by omega) (by omega)
    unfold words at hn; rw [if_pos hm] at hn; omega
  simp only [hf, hx1, r0, g2, ↓D0, ↓D1, ↓D2, ↓D3, ↓D4, ↓D5, ↓D6, ↓D7, ↓D8, ↓D9, ↓D10, U0, U1, U2, U3, U4, U5, U6, U7, U8, U9, U10, ↓reduceIte, Nat.reduceAdd, Nat.reduceMul, Nat.reduceSub, Nat.reduceEqDiff, Nat.reduceBEq, Nat.reduceLeDiff, Nat.reduceLT, Int.reduceAdd, Int.reduceMul, Int.reduceSub, Int.reduceLT, Int.reduceLE, Int.reduceToNat, Int.reduceEq, Int.reduceNe, Int.reduceBEq, Int.reduceBNe, ne_eq, eq_self]
  refine callT_of (c_fill hn2 hr hS.p2) ?_
  rintro v H' ⟨b, s, rfl, hS⟩
  have hof : (rowW n ws).of sh := rowW_of hn hU
  have hx1 := hS.lk 4 rfl
  have hz1 := hS.lk 3 rfl
  have r1 := fun o n => rdn_of hx1 o n
  have rz := fun o => rd_of hz1 o
  simp only [hx1, hz1, ↓D0, ↓D1, ↓D2, ↓D3, ↓D4, ↓D5, ↓D6, ↓D7, ↓D8, ↓D9, ↓D10, U0, U1, U2, U3, U4, U5, U6, U7, U8, U9, U10, ↓reduceIte, Nat.reduceAdd, Nat.reduceMul, Nat.reduceSub, Nat.reduceEqDiff, Nat.reduceBEq, Nat.reduceLeDiff, Nat.reduceLT, Int.reduceAdd, Int.reduceMul, Int.reduceSub, Int.reduceLT, Int.reduceLE, Int.reduceToNat, Int.reduceEq, Int.reduceNe, Int.reduceBEq, Int.reduceBNe, ne_eq, eq_self]
  refine draw_intro [(x, #[.int .i64 sh.p, .int .i64 sh.c, .int .i64 sh.m], []), (z, #[.int .i64 n0, .int .i64 n1, .int .i64 n2, .int .i64 n3], [])] (by simp only [hx1, hz1, ↓D0, ↓D1, ↓D2, ↓D3, ↓D4, ↓D5, ↓D6, ↓D7, ↓D8, ↓D9, ↓D10, U0, U1, U2, U3, U4, U5, U6, U7, U8, U9, U10, ↓reduceIte, Nat.reduceAdd, Nat.reduceMul, Nat.reduceSub, Nat.reduceEqDiff, Nat.reduceBEq, Nat.reduceLeDiff, Nat.reduceLT, Int.reduceAdd, Int.reduceMul, Int.reduceSub, Int.reduceLT, Int.reduceLE, Int.reduceToNat, Int.reduceEq, Int.reduceNe, Int.reduceBEq, Int.reduceBNe, ne_eq, eq_self]) ?_
  have i0 : (0 : Int) < ((4 : Nat) : Int) := by decide
  have i1 : (1 : Int) < ((4 : Nat) : Int) := by decide
  have i2 : (2 : Int) < ((4 : Nat) : Int) := by decide
  have i3 : (3 : Int) < ((4 : Nat) : Int) := by decide
  have j1 : (0 : Int) ≤ 1 := by decide
  have j2 : (0 : Int) ≤ 2 := by decide
  have j3 : (0 : Int) ≤ 3 := by decide
  simp only [hx1, r1, hz1, rz, nzx, nxz, i0, i1, i2, i3, ↓D0, ↓D1, ↓D2, ↓D3, ↓D4, ↓D5, ↓D6, ↓D7, ↓D8, ↓D9, ↓D10, U0, U1, U2, U3, U4, U5, U6, U7, U8, U9, U10, ↓reduceIte, Nat.reduceAdd, Nat.reduceMul, Nat.reduceSub, Nat.reduceEqDiff, Nat.reduceBEq, Nat.reduceLeDiff, Nat.reduceLT, Int.reduceAdd, Int.reduceMul, Int.reduceSub, Int.reduceLT, Int.reduceLE, Int.reduceToNat, Int.reduceEq, Int.reduceNe, Int.reduceBEq, Int.reduceBNe, ne_eq, eq_self]
  refine callT_of (c_rvnew (sh := sh) (c := 0) (n := n0) (f := n1) hS) ?_
  rintro v H' ⟨k, k2, kn, rfl, hS⟩
  have hx1 := hS.lk 7 rfl
  have hz1 := hS.lk 6 rfl
  have r1 := fun o n => rdn_of hx1 o n
  have rz := fun o => rd_of hz1 o
  simp only [hx1, r1, hz1, rz, nzx, nxz, i0, i1, i2, i3, ↓D0, ↓D1, ↓D2, ↓D3, ↓D4, ↓D5, ↓D6, ↓D7, ↓D8, ↓D9, ↓D10, U0, U1, U2, U3, U4, U5, U6, U7, U8, U9, U10, ↓reduceIte, Nat.reduceAdd, Nat.reduceMul, Nat.reduceSub, Nat.reduceEqDiff, Nat.reduceBEq, Nat.reduceLeDiff, Nat.reduceLT, Int.reduceAdd, Int.reduceMul, Int.reduceSub, Int.reduceLT, Int.reduceLE, Int.reduceToNat, Int.reduceEq, Int.reduceNe, Int.reduceBEq, Int.reduceBNe, ne_eq, eq_self]
  refine callT_of (c_rvnew (sh := sh) (c := 1) (n := n2) (f := n3) hS) ?_
  rintro v H' ⟨j, j2, jn, rfl, hS⟩
  have hx1 := hS.lk 10 rfl
  have hz1 := hS.lk 9 rfl
  have r1 := fun o n => rdn_of hx1 o n
  obtain ⟨B, hB⟩ : ∃ B, steps sh.p sh.c sh.m = B := ⟨_, rfl⟩
  have hB2 : B = 110 * sh.p + 4 * sh.m + 60 := by rw [← hB]; unfold steps; rw [if_pos hm]
  have hl1 := Rv.new_left sh 0 n0 n1 hm
  have hl2 := Rv.new_left sh 1 n2 n3 hm
  have w1 : w64 (2 * B) = 2 * B := w64_eq (by omega) (by omega)
  have w2 : w64 (2 * B + 10) = 2 * B + 10 := w64_eq (by omega) (by omega)
  simp only [hx1, r1, hz1, u_steps, hB, ↓D0, ↓D1, ↓D2, ↓D3, ↓D4, ↓D5, ↓D6, ↓D7, ↓D8, ↓D9, ↓D10, U0, U1, U2, U3, U4, U5, U6, U7, U8, U9, U10, ↓reduceIte, Nat.reduceAdd, Nat.reduceMul, Nat.reduceSub, Nat.reduceEqDiff, Nat.reduceBEq, Nat.reduceLeDiff, Nat.reduceLT, Int.reduceAdd, Int.reduceMul, Int.reduceSub, Int.reduceLT, Int.reduceLE, Int.reduceToNat, Int.reduceEq, Int.reduceNe, Int.reduceBEq, Int.reduceBNe, ne_eq, eq_self]
  refine loop_intro (tsI sh B b s k k2 j j2 (h :: sg z (.cells #[.int .i64 n0, .int .i64 n1, .int .i64 n2, .int .i64 n3] 55 (0, 0)) :: sg x (.cells #[.int .i64 sh.p, .int .i64 sh.c, .int .i64 sh.m] 25 (0, 0)) :: l)) (fun F' _ => (2 * B + 10 - iv (gt F' 13)).toNat)
    ⟨0, 0, 0, kn, jn, _, _, _, by omega, by omega, by simp [gt], by simp [gt], by simp [gt], by simp [gt, hB], by simp [gt], by simp [gt], by simp [gt], Rv.new_wf .., Rv.new_of .., Rv.new_wf .., Rv.new_of .., hof, by omega, by omega, by omega, by omega, rfl, by omega, by omega, hS.p5.p5.p5⟩ ?_
  clear hS hx1 hz1 r1 rz hl1 hl2
  rintro F' H' ⟨i, x', y', kn, jn, t, u, w, hi0, hi, e13, e11, e12, e10, e7, e8, e9, tw, to, uw, uo, wo, hx0, hy0, hlx, hly, hst, hlt, hlu, hS⟩
  have htn := Rv.left_nn tw
  have hun := Rv.left_nn uw
  by_cases hlt2 : i < 2 * B + 10
  · have d1 : decide (i < 2 * B + 10) = true := decide_eq_true hlt2
    have wi : w64 (i + 1) = i + 1 := w64_eq (by omega) (by omega)
    have tm : i.tmod 3 = i % 3 := Int.tmod_eq_emod_of_nonneg hi0
    have wx : w64 (x' + 1) = x' + 1 := w64_eq (by omega) (by omega)
    have wy : w64 (y' + 1) = y' + 1 := w64_eq (by omega) (by omega)
    simp only [e13, e11, e12, e10, e7, e8, e9, wrap_w64, w1, w2, d1, ↓D0, ↓D1, ↓D2, ↓D3, ↓D4, ↓D5, ↓D6, ↓D7, ↓D8, ↓D9, ↓D10, U0, U1, U2, U3, U4, U5, U6, U7, U8, U9, U10, ↓reduceIte, Nat.reduceAdd, Nat.reduceMul, Nat.reduceSub, Nat.reduceEqDiff, Nat.reduceBEq, Nat.reduceLeDiff, Nat.reduceLT, Int.reduceAdd, Int.reduceMul, Int.reduceSub, Int.reduceLT, Int.reduceLE, Int.reduceToNat, Int.reduceEq, Int.reduceNe, Int.reduceBEq, Int.reduceBNe, ne_eq, eq_self]
    refine callT_of (c_rvdone hS) ?_
    rintro v H' ⟨rfl, hS⟩
    cases hd : t.dn
    · have hll := Rv.step_left (w := w) tw hd
      have hls := Rv.left_step (w := w) tw hlt
      have hsx := Rv.step_stx (w := w) tw hd
      have wst : w64 (w.st + 1) = w.st + 1 := w64_eq (by omega) (by omega)
      have tw2 := Rv.step_wf (w := w) tw
      have to2 := Rv.step_ofs (w := w) tw to
      have wo2 := Rv.step_of tw wo
      simp only [e13, e11, e12, e10, e7, e8, e9, hd, ↓D0, ↓D1, ↓D2, ↓D3, ↓D4, ↓D5, ↓D6, ↓D7, ↓D8, ↓D9, ↓D10, U0, U1, U2, U3, U4, U5, U6, U7, U8, U9, U10, ↓reduceIte, Nat.reduceAdd, Nat.reduceMul, Nat.reduceSub, Nat.reduceEqDiff, Nat.reduceBEq, Nat.reduceLeDiff, Nat.reduceLT, Int.reduceAdd, Int.reduceMul, Int.reduceSub, Int.reduceLT, Int.reduceLE, Int.reduceToNat, Int.reduceEq, Int.reduceNe, Int.reduceBEq, Int.reduceBNe, ne_eq, eq_self]
      refine callT_of (c_rvstep tw (rv_shape to wo) hS.p7.p7.p4.p4.p4) ?_
      rintro v H' ⟨rfl, kn, hS⟩
      simp only [e13, e11, e12, e10, e7, e8, e9, wrap_w64, wx, ↓D0, ↓D1, ↓D2, ↓D3, ↓D4, ↓D5, ↓D6, ↓D7, ↓D8, ↓D9, ↓D10, U0, U1, U2, U3, U4, U5, U6, U7, U8, U9, U10, ↓reduceIte, Nat.reduceAdd, Nat.reduceMul, Nat.reduceSub, Nat.reduceEqDiff, Nat.reduceBEq, Nat.reduceLeDiff, Nat.reduceLT, Int.reduceAdd, Int.reduceMul, Int.reduceSub, Int.reduceLT, Int.reduceLE, Int.reduceToNat, Int.reduceEq, Int.reduceNe, Int.reduceBEq, Int.reduceBNe, ne_eq, eq_self]
      obtain ⟨x2, hx2⟩ : ∃ x2, x' + 1 = x2 := ⟨_, rfl⟩
      have hst2 : (t.step w).2.st = x2 + y' := by omega
      have hlx2 : (t.step w).1.left + x2 ≤ B := by omega
      have hx02 : 0 ≤ x2 := by omega
      rw [hx2]
      generalize (t.step w).1 = t2 at hS hll hls tw2 to2 hlx2
      generalize (t.step w).2 = w2 at hS wo2 hst2
      clear hsx hll
      refine callT_of (c_rvdone hS.p7.p7.p7) ?_
      rintro v H' ⟨rfl, hS⟩
      cases hdu : u.dn
      rotate_left
      · have hul := Rv.left_0 hdu
        simp only [e13, e11, e12, e10, e7, e8, e9, hdu, wrap_w64, wi, ↓D0, ↓D1, ↓D2, ↓D3, ↓D4, ↓D5, ↓D6, ↓D7, ↓D8, ↓D9, ↓D10, U0, U1, U2, U3, U4, U5, U6, U7, U8, U9, U10, ↓reduceIte, Nat.reduceAdd, Nat.reduceMul, Nat.reduceSub, Nat.reduceEqDiff, Nat.reduceBEq, Nat.reduceLeDiff, Nat.reduceLT, Int.reduceAdd, Int.reduceMul, Int.reduceSub, Int.reduceLT, Int.reduceLE, Int.reduceToNat, Int.reduceEq, Int.reduceNe, Int.reduceBEq, Int.reduceBNe, ne_eq, eq_self]
        exact ⟨⟨i + 1, x2, y', kn, jn, t2, u, w2, by omega, by omega, by simp [gt], by simp [gt], by simp [gt, e12], by simp [gt, e10], by simp [gt, e7], by simp [gt, e8], by simp [gt, e9], tw2, to2, uw, uo, wo2, by omega, by omega, by omega, by omega, by omega, by omega, by omega, hS.p5.p5.p5⟩, by simp [gt, iv, e13]; omega⟩
      by_cases h3 : i % 3 = 1
      · have g3 : (i % 3 != 1) = false := by simp [bne, h3]
        simp only [e13, e11, e12, e10, e7, e8, e9, hdu, tm, g3, wrap_w64, wi, ↓D0, ↓D1, ↓D2, ↓D3, ↓D4, ↓D5, ↓D6, ↓D7, ↓D8, ↓D9, ↓D10, U0, U1, U2, U3, U4, U5, U6, U7, U8, U9, U10, ↓reduceIte, Nat.reduceAdd, Nat.reduceMul, Nat.reduceSub, Nat.reduceEqDiff, Nat.reduceBEq, Nat.reduceLeDiff, Nat.reduceLT, Int.reduceAdd, Int.reduceMul, Int.reduceSub, Int.reduceLT, Int.reduceLE, Int.reduceToNat, Int.reduceEq, Int.reduceNe, Int.reduceBEq, Int.reduceBNe, ne_eq, eq_self]
        exact ⟨⟨i + 1, x2, y', kn, jn, t2, u, w2, by omega, by omega, by simp [gt], by simp [gt], by simp [gt, e12], by simp [gt, e10], by simp [gt, e7], by simp [gt, e8], by simp [gt, e9], tw2, to2, uw, uo, wo2, by omega, by omega, by omega, by omega, by omega, by omega, by omega, hS.p5.p5.p5⟩, by simp [gt, iv, e13]; omega⟩
      · have g3 : (i % 3 != 1) = true := by simp [bne, h3]
        have hll2 := Rv.step_left (w := w2) uw hdu
        have hls2 := Rv.left_step (w := w2) uw hlu
        have hsx2 := Rv.step_stx (w := w2) uw hdu
        have wst2 : w64 (w2.st + 1) = w2.st + 1 := w64_eq (by omega) (by omega)
        simp only [e13, e11, e12, e10, e7, e8, e9, hdu, tm, g3, ↓D0, ↓D1, ↓D2, ↓D3, ↓D4, ↓D5, ↓D6, ↓D7, ↓D8, ↓D9, ↓D10, U0, U1, U2, U3, U4, U5, U6, U7, U8, U9, U10, ↓reduceIte, Nat.reduceAdd, Nat.reduceMul, Nat.reduceSub, Nat.reduceEqDiff, Nat.reduceBEq, Nat.reduceLeDiff, Nat.reduceLT, Int.reduceAdd, Int.reduceMul, Int.reduceSub, Int.reduceLT, Int.reduceLE, Int.reduceToNat, Int.reduceEq, Int.reduceNe, Int.reduceBEq, Int.reduceBNe, ne_eq, eq_self]
        refine callT_of (c_rvstep uw (rv_shape uo wo2) hS.p7.p7.p4.p4.p4) ?_
        rintro v H' ⟨rfl, jn, hS⟩
        simp only [e13, e11, e12, e10, e7, e8, e9, wrap_w64, wi, wy, ↓D0, ↓D1, ↓D2, ↓D3, ↓D4, ↓D5, ↓D6, ↓D7, ↓D8, ↓D9, ↓D10, U0, U1, U2, U3, U4, U5, U6, U7, U8, U9, U10, ↓reduceIte, Nat.reduceAdd, Nat.reduceMul, Nat.reduceSub, Nat.reduceEqDiff, Nat.reduceBEq, Nat.reduceLeDiff, Nat.reduceLT, Int.reduceAdd, Int.reduceMul, Int.reduceSub, Int.reduceLT, Int.reduceLE, Int.reduceToNat, Int.reduceEq, Int.reduceNe, Int.reduceBEq, Int.reduceBNe, ne_eq, eq_self]
        exact ⟨⟨i + 1, x2, y' + 1, kn, jn, t2, _, _, by omega, by omega, by simp [gt], by simp [gt], by simp [gt], by simp [gt, e10], by simp [gt, e7], by simp [gt, e8], by simp [gt, e9], tw2, to2, Rv.step_wf uw, Rv.step_ofs uw uo, Rv.step_of uw wo2, by omega, by omega, by omega, by omega, by omega, by omega, by omega, hS.p7.p7.p7⟩, by simp [gt, iv, e13]; omega⟩
    · have htl := Rv.left_0 hd
      simp only [e13, e11, e12, e10, e7, e8, e9, hd, ↓D0, ↓D1, ↓D2, ↓D3, ↓D4, ↓D5, ↓D6, ↓D7, ↓D8, ↓D9, ↓D10, U0, U1, U2, U3, U4, U5, U6, U7, U8, U9, U10, ↓reduceIte, Nat.reduceAdd, Nat.reduceMul, Nat.reduceSub, Nat.reduceEqDiff, Nat.reduceBEq, Nat.reduceLeDiff, Nat.reduceLT, Int.reduceAdd, Int.reduceMul, Int.reduceSub, Int.reduceLT, Int.reduceLE, Int.reduceToNat, Int.reduceEq, Int.reduceNe, Int.reduceBEq, Int.reduceBNe, ne_eq, eq_self]
      refine callT_of (c_rvdone hS.p5.p5.p5) ?_
      rintro v H' ⟨rfl, hS⟩
      cases hdu : u.dn
      rotate_left
      · have hul := Rv.left_0 hdu
        simp only [e13, e11, e12, e10, e7, e8, e9, hdu, wrap_w64, wi, ↓D0, ↓D1, ↓D2, ↓D3, ↓D4, ↓D5, ↓D6, ↓D7, ↓D8, ↓D9, ↓D10, U0, U1, U2, U3, U4, U5, U6, U7, U8, U9, U10, ↓reduceIte, Nat.reduceAdd, Nat.reduceMul, Nat.reduceSub, Nat.reduceEqDiff, Nat.reduceBEq, Nat.reduceLeDiff, Nat.reduceLT, Int.reduceAdd, Int.reduceMul, Int.reduceSub, Int.reduceLT, Int.reduceLE, Int.reduceToNat, Int.reduceEq, Int.reduceNe, Int.reduceBEq, Int.reduceBNe, ne_eq, eq_self]
        exact ⟨⟨i + 1, x', y', kn, jn, t, u, w, by omega, by omega, by simp [gt], by simp [gt, e11], by simp [gt, e12], by simp [gt, e10], by simp [gt, e7], by simp [gt, e8], by simp [gt, e9], tw, to, uw, uo, wo, by omega, by omega, by omega, by omega, by omega, by omega, by omega, hS.p5.p5.p5⟩, by simp [gt, iv, e13]; omega⟩
      by_cases h3 : i % 3 = 1
      · have g3 : (i % 3 != 1) = false := by simp [bne, h3]
        simp only [e13, e11, e12, e10, e7, e8, e9, hdu, tm, g3, wrap_w64, wi, ↓D0, ↓D1, ↓D2, ↓D3, ↓D4, ↓D5, ↓D6, ↓D7, ↓D8, ↓D9, ↓D10, U0, U1, U2, U3, U4, U5, U6, U7, U8, U9, U10, ↓reduceIte, Nat.reduceAdd, Nat.reduceMul, Nat.reduceSub, Nat.reduceEqDiff, Nat.reduceBEq, Nat.reduceLeDiff, Nat.reduceLT, Int.reduceAdd, Int.reduceMul, Int.reduceSub, Int.reduceLT, Int.reduceLE, Int.reduceToNat, Int.reduceEq, Int.reduceNe, Int.reduceBEq, Int.reduceBNe, ne_eq, eq_self]
        exact ⟨⟨i + 1, x', y', kn, jn, t, u, w, by omega, by omega, by simp [gt], by simp [gt, e11], by simp [gt, e12], by simp [gt, e10], by simp [gt, e7], by simp [gt, e8], by simp [gt, e9], tw, to, uw, uo, wo, by omega, by omega, by omega, by omega, by omega, by omega, by omega, hS.p5.p5.p5⟩, by simp [gt, iv, e13]; omega⟩
      · have g3 : (i % 3 != 1) = true := by simp [bne, h3]
        have hll2 := Rv.step_left (w := w) uw hdu
        have hls2 := Rv.left_step (w := w) uw hlu
        have hsx2 := Rv.step_stx (w := w) uw hdu
        have wst2 : w64 (w.st + 1) = w.st + 1 := w64_eq (by omega) (by omega)
        simp only [e13, e11, e12, e10, e7, e8, e9, hdu, tm, g3, ↓D0, ↓D1, ↓D2, ↓D3, ↓D4, ↓D5, ↓D6, ↓D7, ↓D8, ↓D9, ↓D10, U0, U1, U2, U3, U4, U5, U6, U7, U8, U9, U10, ↓reduceIte, Nat.reduceAdd, Nat.reduceMul, Nat.reduceSub, Nat.reduceEqDiff, Nat.reduceBEq, Nat.reduceLeDiff, Nat.reduceLT, Int.reduceAdd, Int.reduceMul, Int.reduceSub, Int.reduceLT, Int.reduceLE, Int.reduceToNat, Int.reduceEq, Int.reduceNe, Int.reduceBEq, Int.reduceBNe, ne_eq, eq_self]
        refine callT_of (c_rvstep uw (rv_shape uo wo) hS.p7.p7.p4.p4.p4) ?_
        rintro v H' ⟨rfl, jn, hS⟩
        simp only [e13, e11, e12, e10, e7, e8, e9, wrap_w64, wi, wy, ↓D0, ↓D1, ↓D2, ↓D3, ↓D4, ↓D5, ↓D6, ↓D7, ↓D8, ↓D9, ↓D10, U0, U1, U2, U3, U4, U5, U6, U7, U8, U9, U10, ↓reduceIte, Nat.reduceAdd, Nat.reduceMul, Nat.reduceSub, Nat.reduceEqDiff, Nat.reduceBEq, Nat.reduceLeDiff, Nat.reduceLT, Int.reduceAdd, Int.reduceMul, Int.reduceSub, Int.reduceLT, Int.reduceLE, Int.reduceToNat, Int.reduceEq, Int.reduceNe, Int.reduceBEq, Int.reduceBNe, ne_eq, eq_self]
        exact ⟨⟨i + 1, x', y' + 1, kn, jn, t, _, _, by omega, by omega, by simp [gt], by simp [gt, e11], by simp [gt], by simp [gt, e10], by simp [gt, e7], by simp [gt, e8], by simp [gt, e9], tw, to, Rv.step_wf uw, Rv.step_ofs uw uo, Rv.step_of uw wo, by omega, by omega, by omega, by omega, by omega, by omega, by omega, hS.p7.p7.p7⟩, by simp [gt, iv, e13]; omega⟩
  · have d1 : decide (i < 2 * B + 10) = false := decide_eq_false hlt2
    have td : t.dn = true := Rv.left_dn tw (by omega)
    have ud : u.dn = true := Rv.left_dn uw (by omega)
    have wxy : w64 (x' + y') = x' + y' := w64_eq (by omega) (by omega)
    have g1 : decide (x' ≤ B) = true := decide_eq_true (by omega)
    have g2 : decide (y' ≤ B) = true := decide_eq_true (by omega)
    simp only [e13, e11, e12, e10, e7, e8, e9, wrap_w64, w1, w2, d1, ↓D0, ↓D1, ↓D2, ↓D3, ↓D4, ↓D5, ↓D6, ↓D7, ↓D8, ↓D9, ↓D10, U0, U1, U2, U3, U4, U5, U6, U7, U8, U9, U10, ↓reduceIte, Nat.reduceAdd, Nat.reduceMul, Nat.reduceSub, Nat.reduceEqDiff, Nat.reduceBEq, Nat.reduceLeDiff, Nat.reduceLT, Int.reduceAdd, Int.reduceMul, Int.reduceSub, Int.reduceLT, Int.reduceLE, Int.reduceToNat, Int.reduceEq, Int.reduceNe, Int.reduceBEq, Int.reduceBNe, ne_eq, eq_self]
    refine callT_of (c_rvdone hS) ?_
    rintro v H' ⟨rfl, hS⟩
    simp only [e13, e11, e12, e10, e7, e8, e9, td, ↓D0, ↓D1, ↓D2, ↓D3, ↓D4, ↓D5, ↓D6, ↓D7, ↓D8, ↓D9, ↓D10, U0, U1, U2, U3, U4, U5, U6, U7, U8, U9, U10, ↓reduceIte, Nat.reduceAdd, Nat.reduceMul, Nat.reduceSub, Nat.reduceEqDiff, Nat.reduceBEq, Nat.reduceLeDiff, Nat.reduceLT, Int.reduceAdd, Int.reduceMul, Int.reduceSub, Int.reduceLT, Int.reduceLE, Int.reduceToNat, Int.reduceEq, Int.reduceNe, Int.reduceBEq, Int.reduceBNe, ne_eq, eq_self]
    refine callT_of (c_rvdone hS.p5.p5.p5) ?_
    rintro v H' ⟨rfl, hS⟩
    simp only [e13, e11, e12, e10, e7, e8, e9, ud, g1, g2, ↓D0, ↓D1, ↓D2, ↓D3, ↓D4, ↓D5, ↓D6, ↓D7, ↓D8, ↓D9, ↓D10, U0, U1, U2, U3, U4, U5, U6, U7, U8, U9, U10, ↓reduceIte, Nat.reduceAdd, Nat.reduceMul, Nat.reduceSub, Nat.reduceEqDiff, Nat.reduceBEq, Nat.reduceLeDiff, Nat.reduceLT, Int.reduceAdd, Int.reduceMul, Int.reduceSub, Int.reduceLT, Int.reduceLE, Int.reduceToNat, Int.reduceEq, Int.reduceNe, Int.reduceBEq, Int.reduceBNe, ne_eq, eq_self]
    refine callT_of (c_steps hS.p6) ?_
    rintro v H' ⟨rfl, hS⟩
    simp only [e13, e11, e12, e10, e7, e8, e9, hst, wrap_w64, wxy, ↓D0, ↓D1, ↓D2, ↓D3, ↓D4, ↓D5, ↓D6, ↓D7, ↓D8, ↓D9, ↓D10, U0, U1, U2, U3, U4, U5, U6, U7, U8, U9, U10, ↓reduceIte, Nat.reduceAdd, Nat.reduceMul, Nat.reduceSub, Nat.reduceEqDiff, Nat.reduceBEq, Nat.reduceLeDiff, Nat.reduceLT, Int.reduceAdd, Int.reduceMul, Int.reduceSub, Int.reduceLT, Int.reduceLE, Int.reduceToNat, Int.reduceEq, Int.reduceNe, Int.reduceBEq, Int.reduceBNe, ne_eq, eq_self]
    exact hS.tail.tail.tail.tail.tail.tail.tail.tail.p1.tail.p1.tail
end
theorem l_takesteps {W : World} {a : Option Addr} {n cap : Nat} {ws : Nat → Int} (p q m : Int) (hp : -9223372036854775808 ≤ p ∧ p ≤ 9223372036854775807) (hq : -9223372036854775808 ≤ q ∧ q ≤ 9223372036854775807) (hm : -9223372036854775808 ≤ m ∧ m ≤ 9223372036854775807)
    (hn : n ≤ 9223372036854775807) (hr : RowU (memOf W) a n ws) (hU : ∀ i, i < n → IntKind.u64.has (ws i)) (n0 n1 n2 n3 : Int) (h0 : -9223372036854775808 ≤ n0 ∧ n0 ≤ 9223372036854775807) (h1 : -9223372036854775808 ≤ n1 ∧ n1 ≤ 9223372036854775807) (h2 : -9223372036854775808 ≤ n2 ∧ n2 ≤ 9223372036854775807) (h3 : -9223372036854775808 ≤ n3 ∧ n3 ≤ 9223372036854775807) :
    CallP Try.prog W 5 #[.agg #[.int .i64 p, .int .i64 q, .int .i64 m], .slice a n cap, .agg #[.int .i64 n0, .int .i64 n1, .int .i64 n2, .int .i64 n3]] (memOf W) fun v H' => v = .bool true ∧ Sub (memOf W) H' :=
  (c_takesteps ⟨p, q, m⟩ n0 n1 n2 n3 hr (fun i hi => u64_bd (hU i hi)) (Sep.one _)).mono fun v H' ⟨h1, h2⟩ => ⟨h1, h2.head⟩
end Go.Proofs.Ytpdmeneigpipiaa
