/-
  RunSeek, walked: one that looks for a row of pages and one that looks for a slot, in turns. Conditions: none.
-/
import Derived.Test.YtfopnendmcpglaaCodeAllotmentlaw14
import Derived.Test.YtfopnendmcpglaaRunK
import Derived.Test.YtfopnendmcpglaaSeek
import Derived.Test.YtfopnendmcpglaaSoundV
import Derived.Test.YtfopnendmcpglaaRowV
import Derived.Test.YtfopnendmcpglaaMaSeekMore
set_option linter.unusedVariables false
set_option linter.unusedSectionVars false
set_option linter.unusedSimpArgs false
set_option maxRecDepth 8000
namespace Go.Proofs.Ytfopnendmcpglaa
open Go Go.Ev Go.Pl Go.Ma

theorem rk_rep (N : Nat) : Array.replicate N (Value.int .u64 0) = urow N fun _ => 0 := by
  apply Array.ext
  · simp [urow]
  · intro i h1 h2; simp [urow]
theorem rk_shr (v : Int) : Int.fdiv v (2 ^ min 2 IntKind.u8.bits) = v / 4 := by
  rw [show min 2 IntKind.u8.bits = 2 from rfl, Int.fdiv_eq_ediv_of_nonneg v (by decide)]; rfl
theorem rk_left2 {t : Sk} {w : Wd} {m : Int} (h : Sk.wf t) (hl : t.left ≤ max 0 m) : (t.step w).1.left ≤ max 0 (m - 1) := by
  cases hd : t.dn
  · have := Sk.step_left (w := w) h hd; omega
  · rw [Sk.step_dn hd]
    have := (show t.left = 0 by unfold Sk.left; rw [if_pos hd])
    show t.left ≤ _; omega
theorem rk_left {t : Rn} {w : Wd} {m : Int} (h : t.wf) (hl : t.left ≤ max 0 m) : (t.step w).1.left ≤ max 0 (m - 1) := by
  cases hd : t.dn
  · have := Rn.step_left (w := w) h hd; omega
  · rw [Rn.step_dn hd]
    show t.left ≤ _
    have : t.left = 0 := Rn.left_0 hd
    omega
section
variable {W : World} {H h : Hp} {l : List Hp} {m cap : Nat} {a : Option Addr} {B : Nat → Bool}
def rkG (M : Int) (x b k k2 m cap : Nat) (a : Option Addr) (F' : Fr) : Prop := gt F' 2 = .slice a m cap ∧ gt F' 7 = .pointer (some ⟨x, 0, none⟩) ∧ gt F' 8 = .pointer (some ⟨b, 0, none⟩) ∧ gt F' 9 = .int .i64 M ∧ gt F' 11 = .pointer (some ⟨k, 0, none⟩) ∧ gt F' 12 = .pointer (some ⟨k2, 0, none⟩)
def rkA (P M K f0 : Int) (x b s k k2 m cap : Nat) (a : Option Addr) (L : List Hp) (F' : Fr) (H' : Hp) : Prop :=
  ∃ (i kn ks : Nat) (t : Rn) (u : Sk) (w : Wd) (bp : Int), i ≤ m ∧ gt F' 13 = .int .i64 (i : Int) ∧ rkG M x b k k2 m cap a F' ∧ Rk.Inv P M K f0 t u w bp ∧ t.left ≤ max 0 (80 * P + 80) ∧ u.left ≤ max 0 (80 * P + 80) ∧ Sep (skB k2 kn u :: nwB kn u.nw :: wB b s w :: wR s w :: rnB k ks t :: stO ks t.st :: L) H'
def rkB (P M K f0 : Int) (x b s k k2 m cap : Nat) (a : Option Addr) (L : List Hp) (F' : Fr) (H' : Hp) : Prop :=
  ∃ (i : Int) (kn ks : Nat) (t : Rn) (u : Sk) (w : Wd) (bp : Int), 0 ≤ i ∧ i ≤ 80 * P + 80 ∧ gt F' 14 = .int .i64 i ∧ rkG M x b k k2 m cap a F' ∧ Rk.Inv P M K f0 t u w bp ∧ t.left ≤ max 0 (80 * P + 80 - i) ∧ u.left ≤ max 0 (80 * P + 80 - i) ∧ Sep (skB k2 kn u :: nwB kn u.nw :: wB b s w :: wR s w :: rnB k ks t :: stO ks t.st :: L) H'
set_option maxHeartbeats 8000000 in
theorem c_runseek {pg x0 x1 : Int} (hpg : 0 ≤ pg ∧ pg ≤ 255) (hx0 : 0 ≤ x0 ∧ x0 ≤ 255) (hx1' : 0 ≤ x1 ∧ x1 ≤ 255) (hm : m ≤ 9223372036854775807) (hr : RowV h a m (fun i => .bool (B i))) (hS : Sep (h :: l) H) :
    CallP Try.prog W 11 #[.int .u8 pg, .agg #[.int .u8 x0, .int .u8 x1], .slice a m cap] H fun v H' => v = .bool true ∧ Sep (h :: l) H' := by
  refine CallP.of mixed Try.func11 tr11 (by show 3 ≤ _; decide) fun W _ => ?_
  simp only [↓D0, ↓D1, ↓D2, ↓D3, ↓D4, ↓D5, ↓D6, ↓D7, ↓D8, ↓D9, ↓D10, U0, U1, U2, U3, U4, U5, U6, U7, U8, U9, U10, ↓reduceIte, Nat.reduceAdd, Nat.reduceMul, Nat.reduceSub, Nat.reduceEqDiff, Nat.reduceBEq, Nat.reduceLeDiff, Nat.reduceLT, Int.reduceAdd, Int.reduceMul, Int.reduceSub, Int.reduceLT, Int.reduceLE, Int.reduceToNat, Int.reduceEq, Int.reduceNe, Int.reduceBEq, Int.reduceBNe, ne_eq, eq_self]
  refine newB_intro fun z hz f1 f2 => ?_
  have hS := hS.new f1 (.cells #[.int .u8 x0, .int .u8 x1] 68 (0, 0))
  simp only [↓D0, ↓D1, ↓D2, ↓D3, ↓D4, ↓D5, ↓D6, ↓D7, ↓D8, ↓D9, ↓D10, U0, U1, U2, U3, U4, U5, U6, U7, U8, U9, U10, ↓reduceIte, Nat.reduceAdd, Nat.reduceMul, Nat.reduceSub, Nat.reduceEqDiff, Nat.reduceBEq, Nat.reduceLeDiff, Nat.reduceLT, Int.reduceAdd, Int.reduceMul, Int.reduceSub, Int.reduceLT, Int.reduceLE, Int.reduceToNat, Int.reduceEq, Int.reduceNe, Int.reduceBEq, Int.reduceBNe, ne_eq, eq_self]
  refine callT_of (c_awake14 hS) ?_
  rintro v H' ⟨rfl, hS⟩
  have hz1 := hS.look
  have r2 := fun o => rd_of hz1 o
  have wp : w64 pg = pg := w64_eq (by omega) (by omega)
  have t9 : pg.tmod 9 = pg % 9 := Int.tmod_eq_emod_of_nonneg hpg.1
  obtain ⟨P, hP⟩ : ∃ P, 1 + pg % 9 = P := ⟨_, rfl⟩
  have hPb : 1 ≤ P ∧ P ≤ 9 := by omega
  have wP : w64 P = P := w64_eq (by omega) (by omega)
  have hmay := Rk.may_ok hPb
  obtain ⟨N, hN⟩ : ∃ N : Nat, (N : Int) = 2 + P + P * 16 := ⟨(2 + P + P * 16).toNat, by omega⟩
  have hmay2 : may P 2 0 = true := hmay
  have hNw : words P 2 0 = (N : Int) := by unfold words; rw [if_pos hmay2]; omega
  simp only [wrap_w64, wp, t9, hP, wP, ↓D0, ↓D1, ↓D2, ↓D3, ↓D4, ↓D5, ↓D6, ↓D7, ↓D8, ↓D9, ↓D10, U0, U1, U2, U3, U4, U5, U6, U7, U8, U9, U10, ↓reduceIte, Nat.reduceAdd, Nat.reduceMul, Nat.reduceSub, Nat.reduceEqDiff, Nat.reduceBEq, Nat.reduceLeDiff, Nat.reduceLT, Int.reduceAdd, Int.reduceMul, Int.reduceSub, Int.reduceLT, Int.reduceLE, Int.reduceToNat, Int.reduceEq, Int.reduceNe, Int.reduceBEq, Int.reduceBNe, ne_eq, eq_self]
  refine newB_intro fun x hx f3 f4 => ?_
  have nzx : (z = x) = False := f3 z (by rw [hz1]; rfl)
  have nxz : (x = z) = False := f4 z (by rw [hz1]; rfl)
  have hS := hS.new f3 (.cells #[.int .i64 0, .int .i64 0, .int .i64 0] 23 (0, 0))
  have hS := hS.set (.cells #[.int .i64 P, .int .i64 2, .int .i64 0] 23 (0, 0))
  rw [Ev.upd_upd] at hS
  have hx1 := hS.look
  have r1 := fun o n => rdn_of hx1 o n
  have hN0 : (0 : Int) ≤ (N : Int) := by omega
  simp only [wrap_w64, wp, t9, hP, wP, Ev.upd_upd, hx1, r1, u_words, hNw, hN0, Int.toNat_natCast, ↓D0, ↓D1, ↓D2, ↓D3, ↓D4, ↓D5, ↓D6, ↓D7, ↓D8, ↓D9, ↓D10, U0, U1, U2, U3, U4, U5, U6, U7, U8, U9, U10, ↓reduceIte, Nat.reduceAdd, Nat.reduceMul, Nat.reduceSub, Nat.reduceEqDiff, Nat.reduceBEq, Nat.reduceLeDiff, Nat.reduceLT, Int.reduceAdd, Int.reduceMul, Int.reduceSub, Int.reduceLT, Int.reduceLE, Int.reduceToNat, Int.reduceEq, Int.reduceNe, Int.reduceBEq, Int.reduceBNe, ne_eq, eq_self]
  refine ⟨Int.le_refl _, by omega, by omega, ?_⟩
  refine newB_intro fun y hy f5 f6 => ?_
  have hS := hS.new f5 (.cells (Array.replicate N (.int .u64 0)) 46 (0, 0))
  rw [rk_rep] at hS ⊢
  rw [Ev.upd_upd H' x]
  refine callT_of (c_fill (n := N) (by omega) (RowU.own y N _ _ _) hS) ?_
  rintro v H' ⟨b, s, rfl, hS⟩
  have hx1 := hS.lk 3 rfl
  have r1 := fun o n => rdn_of hx1 o n
  have r0 := fun o => rd_of hx1 o
  have hz1 := hS.lk 4 rfl
  have r2 := fun o => rd_of hz1 o
  have i0 : (0 : Int) < ((2 : Nat) : Int) := by decide
  have i1 : (1 : Int) < ((2 : Nat) : Int) := by decide
  have w0 : w64 x0 = x0 := w64_eq (by omega) (by omega)
  have w1 : w64 x1 = x1 := w64_eq (by omega) (by omega)
  have w4 : w64 (x1 / 4) = x1 / 4 := w64_eq (by omega) (by omega)
  have t8 : x0.tmod 8 = x0 % 8 := Int.tmod_eq_emod_of_nonneg hx0.1
  have t4 : x1.tmod 4 = x1 % 4 := Int.tmod_eq_emod_of_nonneg hx1'.1
  have tP : (x1 / 4).tmod P = x1 / 4 % P := Int.tmod_eq_emod_of_nonneg (by omega)
  obtain ⟨M, hM⟩ : ∃ M, 1 + x0 % 8 = M := ⟨_, rfl⟩
  obtain ⟨K, hK⟩ : ∃ K, x1 % 4 = K := ⟨_, rfl⟩
  obtain ⟨f0, hf0⟩ : ∃ f0, x1 / 4 % P = f0 := ⟨_, rfl⟩
  have hMb : 1 ≤ M ∧ M ≤ 8 := by omega
  have hKb : 0 ≤ K ∧ K ≤ 3 := by omega
  have hfb : 0 ≤ f0 ∧ f0 < P := by rw [← hf0]; exact ⟨Int.emod_nonneg _ (by omega), Int.emod_lt_of_pos _ (by omega)⟩
  have wM : w64 M = M := w64_eq (by omega) (by omega)
  have hPne : P ≠ 0 := by omega
  simp only [hx1, r1, r0, hz1, r2, i0, i1, wrap_w64, w0, w1, t8, t4, hM, hK, wM, ↓D0, ↓D1, ↓D2, ↓D3, ↓D4, ↓D5, ↓D6, ↓D7, ↓D8, ↓D9, ↓D10, U0, U1, U2, U3, U4, U5, U6, U7, U8, U9, U10, ↓reduceIte, Nat.reduceAdd, Nat.reduceMul, Nat.reduceSub, Nat.reduceEqDiff, Nat.reduceBEq, Nat.reduceLeDiff, Nat.reduceLT, Int.reduceAdd, Int.reduceMul, Int.reduceSub, Int.reduceLT, Int.reduceLE, Int.reduceToNat, Int.reduceEq, Int.reduceNe, Int.reduceBEq, Int.reduceBNe, ne_eq, eq_self]
  refine draw_intro [(x, #[.int .i64 P, .int .i64 2, .int .i64 0], []), (z, #[.int .u8 x0, .int .u8 x1], [])] (by simp only [hx1, hz1, ↓D0, ↓D1, ↓D2, ↓D3, ↓D4, ↓D5, ↓D6, ↓D7, ↓D8, ↓D9, ↓D10, U0, U1, U2, U3, U4, U5, U6, U7, U8, U9, U10, ↓reduceIte, Nat.reduceAdd, Nat.reduceMul, Nat.reduceSub, Nat.reduceEqDiff, Nat.reduceBEq, Nat.reduceLeDiff, Nat.reduceLT, Int.reduceAdd, Int.reduceMul, Int.reduceSub, Int.reduceLT, Int.reduceLE, Int.reduceToNat, Int.reduceEq, Int.reduceNe, Int.reduceBEq, Int.reduceBNe, ne_eq, eq_self]) ?_
  simp only [hx1, r1, r0, hz1, r2, i0, i1, nzx, nxz, rk_shr, wrap_w64, w0, w1, w4, t8, t4, tP, hPne, hM, hK, hf0, wM, ↓D0, ↓D1, ↓D2, ↓D3, ↓D4, ↓D5, ↓D6, ↓D7, ↓D8, ↓D9, ↓D10, U0, U1, U2, U3, U4, U5, U6, U7, U8, U9, U10, ↓reduceIte, Nat.reduceAdd, Nat.reduceMul, Nat.reduceSub, Nat.reduceEqDiff, Nat.reduceBEq, Nat.reduceLeDiff, Nat.reduceLT, Int.reduceAdd, Int.reduceMul, Int.reduceSub, Int.reduceLT, Int.reduceLE, Int.reduceToNat, Int.reduceEq, Int.reduceNe, Int.reduceBEq, Int.reduceBNe, ne_eq, eq_self]
  refine callT_of (c_rnnew (sh := Rk.sh P) (c := 0) (n := M) hS) ?_
  rintro v H' ⟨k, rfl, hS⟩
  have hx1 := hS.lk 4 rfl
  have hz1 := hS.lk 5 rfl
  have r2 := fun o => rd_of hz1 o
  have r1 := fun o n => rdn_of hx1 o n
  simp only [hx1, r1, hz1, r2, rk_shr, wrap_w64, w4, tP, hf0, ↓D0, ↓D1, ↓D2, ↓D3, ↓D4, ↓D5, ↓D6, ↓D7, ↓D8, ↓D9, ↓D10, U0, U1, U2, U3, U4, U5, U6, U7, U8, U9, U10, ↓reduceIte, Nat.reduceAdd, Nat.reduceMul, Nat.reduceSub, Nat.reduceEqDiff, Nat.reduceBEq, Nat.reduceLeDiff, Nat.reduceLT, Int.reduceAdd, Int.reduceMul, Int.reduceSub, Int.reduceLT, Int.reduceLE, Int.reduceToNat, Int.reduceEq, Int.reduceNe, Int.reduceBEq, Int.reduceBNe, ne_eq, eq_self]
  refine callT_of (c_sknew (sh := Rk.sh P) (c := 1) (kk := K) (f := f0) hS) ?_
  rintro v H' ⟨k2, kn, rfl, hS⟩
  have hInv := Rk.Inv.init (w := rowW N fun _ => 0) (n := M) (K := K) (f := f0) hPb hMb hKb hfb (rowW_of hNw.symm fun _ _ => U_0) (fun j => by show (if j < N then (0 : Int) else 0) = 0; split <;> rfl)
  have hx1 := hS.lk 6 rfl
  have hz1 := hS.lk 7 rfl
  have r2 := fun o => rd_of hz1 o
  have r1 := fun o n => rdn_of hx1 o n
  have hl1 : (Rn.new (Rk.sh P) 0 M).left ≤ 60 * P + 8 := Rn.new_left (Rk.sh P) 0 M (by show 0 ≤ P; omega)
  have hl2 : (Sk.new (Rk.sh P) 1 K f0).left ≤ 0 + 70 * P + 36 := Sk.new_left (Rk.sh P) 1 K f0 hmay
  by_cases h2000 : (2000 : Int) < (m : Int)
  · have g2 : decide ((2000 : Int) < (m : Int)) = true := decide_eq_true h2000
    simp only [g2, hx1, hz1, ↓D0, ↓D1, ↓D2, ↓D3, ↓D4, ↓D5, ↓D6, ↓D7, ↓D8, ↓D9, ↓D10, U0, U1, U2, U3, U4, U5, U6, U7, U8, U9, U10, ↓reduceIte, Nat.reduceAdd, Nat.reduceMul, Nat.reduceSub, Nat.reduceEqDiff, Nat.reduceBEq, Nat.reduceLeDiff, Nat.reduceLT, Int.reduceAdd, Int.reduceMul, Int.reduceSub, Int.reduceLT, Int.reduceLE, Int.reduceToNat, Int.reduceEq, Int.reduceNe, Int.reduceBEq, Int.reduceBNe, ne_eq, eq_self]
    exact hS.tail.tail.tail.tail.tail.tail.tail.tail
  have g2 : decide ((2000 : Int) < (m : Int)) = false := decide_eq_false h2000
  simp only [g2, hx1, hz1, ↓D0, ↓D1, ↓D2, ↓D3, ↓D4, ↓D5, ↓D6, ↓D7, ↓D8, ↓D9, ↓D10, U0, U1, U2, U3, U4, U5, U6, U7, U8, U9, U10, ↓reduceIte, Nat.reduceAdd, Nat.reduceMul, Nat.reduceSub, Nat.reduceEqDiff, Nat.reduceBEq, Nat.reduceLeDiff, Nat.reduceLT, Int.reduceAdd, Int.reduceMul, Int.reduceSub, Int.reduceLT, Int.reduceLE, Int.reduceToNat, Int.reduceEq, Int.reduceNe, Int.reduceBEq, Int.reduceBNe, ne_eq, eq_self]
  refine loop_intro (rkA P M K f0 x b s k k2 m cap a (sg y (.cells (urow N fun _ => 0) 46 (0, 0)) :: sg x (.cells #[.int .i64 P, .int .i64 2, .int .i64 0] 23 (0, 0)) :: sg z (.cells #[.int .u8 x0, .int .u8 x1] 68 (0, 0)) :: h :: l)) (fun F' _ => (m - iv (gt F' 13)).toNat)
    ⟨0, kn, 0, _, _, _, -1, Nat.zero_le _, by simp [gt], ⟨by simp [gt], by simp [gt], by simp [gt], by simp [gt, w0, t8, hM, wM], by simp [gt], by simp [gt]⟩, hInv, by omega, by omega, hS.nothing.p3.p5.p5.p5.p5⟩ ?_
  clear hS hx1 hz1 r1 r2 r0 hInv hl1 hl2
  rintro F' H' ⟨i, kn, ks, t, u, w, bp, hi, e13, ⟨e2, e7, e8, e9, e11, e12⟩, hInv, hl1, hl2, hS⟩
  by_cases hlt : i < m
  · have d1 : decide ((i : Int) < (m : Int)) = true := decide_eq_true (by omega)
    have p0 : (0 : Int) ≤ (i : Int) := by omega
    have p1 : (i : Int) < (m : Int) := by omega
    have wi : w64 ((i : Int) + 1) = ((i + 1 : Nat) : Int) := by rw [w64_eq (by omega) (by omega)]; omega
    obtain ⟨b1, o1, rfl, hrd⟩ := (hr.sub (hS.sb h (by simp))).at' hlt
    have hrd : rd H' b1 (o1 + i) = some (.bool (B i)) := hrd
    cases hB : B i
    · rw [hB] at hrd
      simp only [e13, e2, e7, e8, e9, e11, e12, d1, p0, p1, Int.toNat_natCast, hrd, ↓D0, ↓D1, ↓D2, ↓D3, ↓D4, ↓D5, ↓D6, ↓D7, ↓D8, ↓D9, ↓D10, U0, U1, U2, U3, U4, U5, U6, U7, U8, U9, U10, ↓reduceIte, Nat.reduceAdd, Nat.reduceMul, Nat.reduceSub, Nat.reduceEqDiff, Nat.reduceBEq, Nat.reduceLeDiff, Nat.reduceLT, Int.reduceAdd, Int.reduceMul, Int.reduceSub, Int.reduceLT, Int.reduceLE, Int.reduceToNat, Int.reduceEq, Int.reduceNe, Int.reduceBEq, Int.reduceBNe, ne_eq, eq_self]
      refine callT_of (c_rnstep hInv.ts.1 (fun _ => by rw [hInv.ts.2.1]; exact hInv.of) hS.p5.p5.p5.p5.p3.p3) ?_
      rintro v H' ⟨rfl, ks2, hS⟩
      have hla := rk_left (w := w) hInv.ts.1 hl1
      simp only [e13, e2, e7, e8, e9, e11, e12, wrap_w64, wi, ↓D0, ↓D1, ↓D2, ↓D3, ↓D4, ↓D5, ↓D6, ↓D7, ↓D8, ↓D9, ↓D10, U0, U1, U2, U3, U4, U5, U6, U7, U8, U9, U10, ↓reduceIte, Nat.reduceAdd, Nat.reduceMul, Nat.reduceSub, Nat.reduceEqDiff, Nat.reduceBEq, Nat.reduceLeDiff, Nat.reduceLT, Int.reduceAdd, Int.reduceMul, Int.reduceSub, Int.reduceLT, Int.reduceLE, Int.reduceToNat, Int.reduceEq, Int.reduceNe, Int.reduceBEq, Int.reduceBNe, ne_eq, eq_self]
      exact ⟨⟨i + 1, kn, ks2, _, _, _, bp, hlt, by simp [gt], ⟨by simp [gt, e2], by simp [gt, e7], by simp [gt, e8], by simp [gt, e9], by simp [gt, e11], by simp [gt, e12]⟩, hInv.astep, by omega, hl2, hS.p3.p3.p5.p5⟩, by simp [gt, iv, e13]; omega⟩
    · rw [hB] at hrd
      simp only [e13, e2, e7, e8, e9, e11, e12, d1, p0, p1, Int.toNat_natCast, hrd, ↓D0, ↓D1, ↓D2, ↓D3, ↓D4, ↓D5, ↓D6, ↓D7, ↓D8, ↓D9, ↓D10, U0, U1, U2, U3, U4, U5, U6, U7, U8, U9, U10, ↓reduceIte, Nat.reduceAdd, Nat.reduceMul, Nat.reduceSub, Nat.reduceEqDiff, Nat.reduceBEq, Nat.reduceLeDiff, Nat.reduceLT, Int.reduceAdd, Int.reduceMul, Int.reduceSub, Int.reduceLT, Int.reduceLE, Int.reduceToNat, Int.reduceEq, Int.reduceNe, Int.reduceBEq, Int.reduceBNe, ne_eq, eq_self]
      refine callT_of (c_skstep hInv.us.1 (fun _ => by rw [hInv.us.2.1]; exact hInv.of) hS) ?_
      rintro v H' ⟨rfl, kn2, hS⟩
      have hla := rk_left2 (w := w) hInv.us.1 hl2
      obtain ⟨bp2, hInv2⟩ := hInv.bstep
      simp only [e13, e2, e7, e8, e9, e11, e12, wrap_w64, wi, ↓D0, ↓D1, ↓D2, ↓D3, ↓D4, ↓D5, ↓D6, ↓D7, ↓D8, ↓D9, ↓D10, U0, U1, U2, U3, U4, U5, U6, U7, U8, U9, U10, ↓reduceIte, Nat.reduceAdd, Nat.reduceMul, Nat.reduceSub, Nat.reduceEqDiff, Nat.reduceBEq, Nat.reduceLeDiff, Nat.reduceLT, Int.reduceAdd, Int.reduceMul, Int.reduceSub, Int.reduceLT, Int.reduceLE, Int.reduceToNat, Int.reduceEq, Int.reduceNe, Int.reduceBEq, Int.reduceBNe, ne_eq, eq_self]
      exact ⟨⟨i + 1, kn2, ks, _, _, _, bp2, hlt, by simp [gt], ⟨by simp [gt, e2], by simp [gt, e7], by simp [gt, e8], by simp [gt, e9], by simp [gt, e11], by simp [gt, e12]⟩, hInv2, hl1, by omega, hS⟩, by simp [gt, iv, e13]; omega⟩
  have d1 : decide ((i : Int) < (m : Int)) = false := decide_eq_false (by omega)
  have wm1 : w64 (80 * P) = 80 * P := w64_eq (by omega) (by omega)
  have wm2 : w64 (80 * P + 80) = 80 * P + 80 := w64_eq (by omega) (by omega)
  simp only [e13, e2, e7, e8, e9, e11, e12, d1, ↓D0, ↓D1, ↓D2, ↓D3, ↓D4, ↓D5, ↓D6, ↓D7, ↓D8, ↓D9, ↓D10, U0, U1, U2, U3, U4, U5, U6, U7, U8, U9, U10, ↓reduceIte, Nat.reduceAdd, Nat.reduceMul, Nat.reduceSub, Nat.reduceEqDiff, Nat.reduceBEq, Nat.reduceLeDiff, Nat.reduceLT, Int.reduceAdd, Int.reduceMul, Int.reduceSub, Int.reduceLT, Int.reduceLE, Int.reduceToNat, Int.reduceEq, Int.reduceNe, Int.reduceBEq, Int.reduceBNe, ne_eq, eq_self]
  refine loop_intro (rkB P M K f0 x b s k k2 m cap a (sg y (.cells (urow N fun _ => 0) 46 (0, 0)) :: sg x (.cells #[.int .i64 P, .int .i64 2, .int .i64 0] 23 (0, 0)) :: sg z (.cells #[.int .u8 x0, .int .u8 x1] 68 (0, 0)) :: h :: l)) (fun F' _ => (80 * P + 80 - iv (gt F' 14)).toNat)
    ⟨0, kn, ks, _, _, _, bp, by omega, by omega, by simp [gt], ⟨by simp [gt, e2], by simp [gt, e7], by simp [gt, e8], by simp [gt, e9], by simp [gt, e11], by simp [gt, e12]⟩, hInv, by omega, by omega, hS⟩ ?_
  clear hS e13 e2 e7 e8 e9 e11 e12 hInv hl1 hl2
  rintro F' H' ⟨i, kn, ks, t, u, w, bp, hi0, hi, e14, ⟨e2, e7, e8, e9, e11, e12⟩, hInv, hl1, hl2, hS⟩
  have hx1 := hS.lk 7 rfl
  have r0 := fun o => rd_of hx1 o
  by_cases hlt2 : i < 80 * P + 80
  · have d2 : decide (i < 80 * P + 80) = true := decide_eq_true hlt2
    have wi : w64 (i + 1) = i + 1 := w64_eq (by omega) (by omega)
    simp only [e14, e2, e7, e8, e9, e11, e12, hx1, r0, wrap_w64, wm1, wm2, d2, ↓D0, ↓D1, ↓D2, ↓D3, ↓D4, ↓D5, ↓D6, ↓D7, ↓D8, ↓D9, ↓D10, U0, U1, U2, U3, U4, U5, U6, U7, U8, U9, U10, ↓reduceIte, Nat.reduceAdd, Nat.reduceMul, Nat.reduceSub, Nat.reduceEqDiff, Nat.reduceBEq, Nat.reduceLeDiff, Nat.reduceLT, Int.reduceAdd, Int.reduceMul, Int.reduceSub, Int.reduceLT, Int.reduceLE, Int.reduceToNat, Int.reduceEq, Int.reduceNe, Int.reduceBEq, Int.reduceBNe, ne_eq, eq_self]
    refine callT_of (c_rnstep hInv.ts.1 (fun _ => by rw [hInv.ts.2.1]; exact hInv.of) hS.p5.p5.p5.p5.p3.p3) ?_
    rintro v H' ⟨rfl, ks2, hS⟩
    have hla := rk_left (w := w) hInv.ts.1 hl1
    have hInv1 := hInv.astep
    simp only [e14, e2, e7, e8, e9, e11, e12, ↓D0, ↓D1, ↓D2, ↓D3, ↓D4, ↓D5, ↓D6, ↓D7, ↓D8, ↓D9, ↓D10, U0, U1, U2, U3, U4, U5, U6, U7, U8, U9, U10, ↓reduceIte, Nat.reduceAdd, Nat.reduceMul, Nat.reduceSub, Nat.reduceEqDiff, Nat.reduceBEq, Nat.reduceLeDiff, Nat.reduceLT, Int.reduceAdd, Int.reduceMul, Int.reduceSub, Int.reduceLT, Int.reduceLE, Int.reduceToNat, Int.reduceEq, Int.reduceNe, Int.reduceBEq, Int.reduceBNe, ne_eq, eq_self]
    refine callT_of (c_skstep hInv1.us.1 (fun _ => by rw [hInv1.us.2.1]; exact hInv1.of) hS.p3.p3.p5.p5) ?_
    rintro v H' ⟨rfl, kn2, hS⟩
    have hlb := rk_left2 (w := (t.step w).2) hInv1.us.1 hl2
    obtain ⟨bp2, hInv2⟩ := hInv1.bstep
    simp only [e14, e2, e7, e8, e9, e11, e12, wrap_w64, wi, ↓D0, ↓D1, ↓D2, ↓D3, ↓D4, ↓D5, ↓D6, ↓D7, ↓D8, ↓D9, ↓D10, U0, U1, U2, U3, U4, U5, U6, U7, U8, U9, U10, ↓reduceIte, Nat.reduceAdd, Nat.reduceMul, Nat.reduceSub, Nat.reduceEqDiff, Nat.reduceBEq, Nat.reduceLeDiff, Nat.reduceLT, Int.reduceAdd, Int.reduceMul, Int.reduceSub, Int.reduceLT, Int.reduceLE, Int.reduceToNat, Int.reduceEq, Int.reduceNe, Int.reduceBEq, Int.reduceBNe, ne_eq, eq_self]
    exact ⟨⟨i + 1, kn2, ks2, _, _, _, bp2, by omega, by omega, by simp [gt], ⟨by simp [gt, e2], by simp [gt, e7], by simp [gt, e8], by simp [gt, e9], by simp [gt, e11], by simp [gt, e12]⟩, hInv2, by omega, by omega, hS⟩, by simp [gt, iv, e14]; omega⟩
  have d2 : decide (i < 80 * P + 80) = false := decide_eq_false hlt2
  have hd1 : t.dn = true := Rn.left_dn hInv.ts.1 (by omega)
  have hd2 : u.dn = true := Sk.left_dn hInv.us.1 (by omega)
  obtain ⟨hor, hap, hsnd⟩ := hInv.fin hd1 hd2
  have hhb := hInv.hb
  have wh : w64 (t.hd + M) = t.hd + M := w64_eq (by omega) (by omega)
  have hwn : (w.n : Int) = (N : Int) := by
    have := hInv.of.n
    rw [← hNw]; exact this
  simp only [e14, e2, e7, e8, e9, e11, e12, hx1, r0, wrap_w64, wm1, wm2, d2, ↓D0, ↓D1, ↓D2, ↓D3, ↓D4, ↓D5, ↓D6, ↓D7, ↓D8, ↓D9, ↓D10, U0, U1, U2, U3, U4, U5, U6, U7, U8, U9, U10, ↓reduceIte, Nat.reduceAdd, Nat.reduceMul, Nat.reduceSub, Nat.reduceEqDiff, Nat.reduceBEq, Nat.reduceLeDiff, Nat.reduceLT, Int.reduceAdd, Int.reduceMul, Int.reduceSub, Int.reduceLT, Int.reduceLE, Int.reduceToNat, Int.reduceEq, Int.reduceNe, Int.reduceBEq, Int.reduceBNe, ne_eq, eq_self]
  refine callT_of (c_rnfound hS.p4) ?_
  rintro v H' ⟨rfl, hS⟩
  simp only [e14, e2, e7, e8, e9, e11, e12, ↓D0, ↓D1, ↓D2, ↓D3, ↓D4, ↓D5, ↓D6, ↓D7, ↓D8, ↓D9, ↓D10, U0, U1, U2, U3, U4, U5, U6, U7, U8, U9, U10, ↓reduceIte, Nat.reduceAdd, Nat.reduceMul, Nat.reduceSub, Nat.reduceEqDiff, Nat.reduceBEq, Nat.reduceLeDiff, Nat.reduceLT, Int.reduceAdd, Int.reduceMul, Int.reduceSub, Int.reduceLT, Int.reduceLE, Int.reduceToNat, Int.reduceEq, Int.reduceNe, Int.reduceBEq, Int.reduceBNe, ne_eq, eq_self]
  refine callT_of (c_skfound hS.p1) ?_
  rintro v H' ⟨rfl, hS⟩
  have hx1 := hS.lk 7 rfl
  have r1 := fun o n => rdn_of hx1 o n
  simp only [e14, e2, e7, e8, e9, e11, e12, ↓D0, ↓D1, ↓D2, ↓D3, ↓D4, ↓D5, ↓D6, ↓D7, ↓D8, ↓D9, ↓D10, U0, U1, U2, U3, U4, U5, U6, U7, U8, U9, U10, ↓reduceIte, Nat.reduceAdd, Nat.reduceMul, Nat.reduceSub, Nat.reduceEqDiff, Nat.reduceBEq, Nat.reduceLeDiff, Nat.reduceLT, Int.reduceAdd, Int.reduceMul, Int.reduceSub, Int.reduceLT, Int.reduceLE, Int.reduceToNat, Int.reduceEq, Int.reduceNe, Int.reduceBEq, Int.reduceBNe, ne_eq, eq_self]
  refine draw_intro [(x, #[.int .i64 P, .int .i64 2, .int .i64 0], [])] (by simp only [hx1, ↓D0, ↓D1, ↓D2, ↓D3, ↓D4, ↓D5, ↓D6, ↓D7, ↓D8, ↓D9, ↓D10, U0, U1, U2, U3, U4, U5, U6, U7, U8, U9, U10, ↓reduceIte, Nat.reduceAdd, Nat.reduceMul, Nat.reduceSub, Nat.reduceEqDiff, Nat.reduceBEq, Nat.reduceLeDiff, Nat.reduceLT, Int.reduceAdd, Int.reduceMul, Int.reduceSub, Int.reduceLT, Int.reduceLE, Int.reduceToNat, Int.reduceEq, Int.reduceNe, Int.reduceBEq, Int.reduceBNe, ne_eq, eq_self]) ?_
  simp only [e14, e2, e7, e8, e9, e11, e12, ↓D0, ↓D1, ↓D2, ↓D3, ↓D4, ↓D5, ↓D6, ↓D7, ↓D8, ↓D9, ↓D10, U0, U1, U2, U3, U4, U5, U6, U7, U8, U9, U10, ↓reduceIte, Nat.reduceAdd, Nat.reduceMul, Nat.reduceSub, Nat.reduceEqDiff, Nat.reduceBEq, Nat.reduceLeDiff, Nat.reduceLT, Int.reduceAdd, Int.reduceMul, Int.reduceSub, Int.reduceLT, Int.reduceLE, Int.reduceToNat, Int.reduceEq, Int.reduceNe, Int.reduceBEq, Int.reduceBNe, ne_eq, eq_self]
  refine callT_of (c_rndone hS.p1) ?_
  rintro v H' ⟨rfl, hS⟩
  have hx1 := hS.lk 7 rfl
  simp only [e14, e2, e7, e8, e9, e11, e12, hd1, hx1, ↓D0, ↓D1, ↓D2, ↓D3, ↓D4, ↓D5, ↓D6, ↓D7, ↓D8, ↓D9, ↓D10, U0, U1, U2, U3, U4, U5, U6, U7, U8, U9, U10, ↓reduceIte, Nat.reduceAdd, Nat.reduceMul, Nat.reduceSub, Nat.reduceEqDiff, Nat.reduceBEq, Nat.reduceLeDiff, Nat.reduceLT, Int.reduceAdd, Int.reduceMul, Int.reduceSub, Int.reduceLT, Int.reduceLE, Int.reduceToNat, Int.reduceEq, Int.reduceNe, Int.reduceBEq, Int.reduceBNe, ne_eq, eq_self]
  refine callT_of (c_skdone hS.p1) ?_
  rintro v H' ⟨rfl, hS⟩
  have hx1 := hS.lk 7 rfl
  have r1 := fun o n => rdn_of hx1 o n
  simp only [e14, e2, e7, e8, e9, e11, e12, hd1, hd2, hx1, r1, ↓D0, ↓D1, ↓D2, ↓D3, ↓D4, ↓D5, ↓D6, ↓D7, ↓D8, ↓D9, ↓D10, U0, U1, U2, U3, U4, U5, U6, U7, U8, U9, U10, ↓reduceIte, Nat.reduceAdd, Nat.reduceMul, Nat.reduceSub, Nat.reduceEqDiff, Nat.reduceBEq, Nat.reduceLeDiff, Nat.reduceLT, Int.reduceAdd, Int.reduceMul, Int.reduceSub, Int.reduceLT, Int.reduceLE, Int.reduceToNat, Int.reduceEq, Int.reduceNe, Int.reduceBEq, Int.reduceBNe, ne_eq, eq_self]
  refine callT_of (c_all (w := w) (by omega) hS.p4.p4) ?_
  rintro v H' ⟨a3, cap3, h3, rfl, hr3, hS⟩
  have hx1 := hS.lk 8 rfl
  have r1 := fun o n => rdn_of hx1 o n
  have hU2 : ∀ i, i < w.n → U (w.ws i) := fun i hi => hInv.of.u i
  simp only [e14, e2, e7, e8, e9, e11, e12, hd1, hd2, hx1, r1, ↓D0, ↓D1, ↓D2, ↓D3, ↓D4, ↓D5, ↓D6, ↓D7, ↓D8, ↓D9, ↓D10, U0, U1, U2, U3, U4, U5, U6, U7, U8, U9, U10, ↓reduceIte, Nat.reduceAdd, Nat.reduceMul, Nat.reduceSub, Nat.reduceEqDiff, Nat.reduceBEq, Nat.reduceLeDiff, Nat.reduceLT, Int.reduceAdd, Int.reduceMul, Int.reduceSub, Int.reduceLT, Int.reduceLE, Int.reduceToNat, Int.reduceEq, Int.reduceNe, Int.reduceBEq, Int.reduceBNe, ne_eq, eq_self]
  refine callT_of (c_soundV (sh := Rk.sh P) hmay (hwn.trans hNw.symm) hr3 hU2 hS) ?_
  rintro v H' ⟨sb, rfl, hsb, hS⟩
  have hsb := hsb.2 hsnd
  subst hsb
  have hx1 := hS.lk 8 rfl
  have fin := hS.tail.tail.tail.tail.tail.tail.tail.tail.tail.tail
  cases hf1 : t.fd <;> cases hf2 : u.fd
  · rw [hf1, hf2] at hor; rcases hor with g | g <;> cases g
  · simp only [e14, e2, e7, e8, e9, e11, e12, hd1, hd2, hx1, hf1, hf2, ↓D0, ↓D1, ↓D2, ↓D3, ↓D4, ↓D5, ↓D6, ↓D7, ↓D8, ↓D9, ↓D10, U0, U1, U2, U3, U4, U5, U6, U7, U8, U9, U10, ↓reduceIte, Nat.reduceAdd, Nat.reduceMul, Nat.reduceSub, Nat.reduceEqDiff, Nat.reduceBEq, Nat.reduceLeDiff, Nat.reduceLT, Int.reduceAdd, Int.reduceMul, Int.reduceSub, Int.reduceLT, Int.reduceLE, Int.reduceToNat, Int.reduceEq, Int.reduceNe, Int.reduceBEq, Int.reduceBNe, ne_eq, eq_self]
    exact fin
  · simp only [e14, e2, e7, e8, e9, e11, e12, hd1, hd2, hx1, hf1, hf2, ↓D0, ↓D1, ↓D2, ↓D3, ↓D4, ↓D5, ↓D6, ↓D7, ↓D8, ↓D9, ↓D10, U0, U1, U2, U3, U4, U5, U6, U7, U8, U9, U10, ↓reduceIte, Nat.reduceAdd, Nat.reduceMul, Nat.reduceSub, Nat.reduceEqDiff, Nat.reduceBEq, Nat.reduceLeDiff, Nat.reduceLT, Int.reduceAdd, Int.reduceMul, Int.reduceSub, Int.reduceLT, Int.reduceLE, Int.reduceToNat, Int.reduceEq, Int.reduceNe, Int.reduceBEq, Int.reduceBNe, ne_eq, eq_self]
    exact fin
  · by_cases k1 : t.hd ≤ u.pg
    · have g1 : decide (t.hd ≤ u.pg) = true := decide_eq_true k1
      have g3 : decide (u.pg < t.hd + M) = false := decide_eq_false fun x => hap hf1 hf2 ⟨k1, x⟩
      simp only [e14, e2, e7, e8, e9, e11, e12, hd1, hd2, hx1, hf1, hf2, if_true, g1, g3, wrap_w64, wh, ↓D0, ↓D1, ↓D2, ↓D3, ↓D4, ↓D5, ↓D6, ↓D7, ↓D8, ↓D9, ↓D10, U0, U1, U2, U3, U4, U5, U6, U7, U8, U9, U10, ↓reduceIte, Nat.reduceAdd, Nat.reduceMul, Nat.reduceSub, Nat.reduceEqDiff, Nat.reduceBEq, Nat.reduceLeDiff, Nat.reduceLT, Int.reduceAdd, Int.reduceMul, Int.reduceSub, Int.reduceLT, Int.reduceLE, Int.reduceToNat, Int.reduceEq, Int.reduceNe, Int.reduceBEq, Int.reduceBNe, ne_eq, eq_self]
      exact fin
    · have g1 : decide (t.hd ≤ u.pg) = false := decide_eq_false k1
      simp only [e14, e2, e7, e8, e9, e11, e12, hd1, hd2, hx1, hf1, hf2, if_true, g1, wrap_w64, wh, ↓D0, ↓D1, ↓D2, ↓D3, ↓D4, ↓D5, ↓D6, ↓D7, ↓D8, ↓D9, ↓D10, U0, U1, U2, U3, U4, U5, U6, U7, U8, U9, U10, ↓reduceIte, Nat.reduceAdd, Nat.reduceMul, Nat.reduceSub, Nat.reduceEqDiff, Nat.reduceBEq, Nat.reduceLeDiff, Nat.reduceLT, Int.reduceAdd, Int.reduceMul, Int.reduceSub, Int.reduceLT, Int.reduceLE, Int.reduceToNat, Int.reduceEq, Int.reduceNe, Int.reduceBEq, Int.reduceBNe, ne_eq, eq_self]
      exact fin
end

theorem l_runseek {W : World} {m cap : Nat} {a : Option Addr} {B : Nat → Bool} (pg : Int) (hp : 0 ≤ pg ∧ pg ≤ 255) (x0 x1 : Int) (h0 : 0 ≤ x0 ∧ x0 ≤ 255) (h1 : 0 ≤ x1 ∧ x1 ≤ 255) (hm : m ≤ 9223372036854775807) (hr : RowV (memOf W) a m (fun i => .bool (B i))) :
    CallP Try.prog W 11 #[.int .u8 pg, .agg #[.int .u8 x0, .int .u8 x1], .slice a m cap] (memOf W) fun v H' => v = .bool true ∧ Sub (memOf W) H' :=
  (c_runseek hp h0 h1 hm hr (Sep.one _)).mono fun v H' ⟨h1, h2⟩ => ⟨h1, h2.head⟩
end Go.Proofs.Ytfopnendmcpglaa
