/-
  AdoptStates, walked: what an adoption is told hangs on the two statuses alone. Conditions: none.
-/
import Derived.Test.YtbehnodllajnjaaAdoptK
import Derived.Test.YtbehnodllajnjaaMaAdoptSt
import Derived.Test.YtbehnodllajnjaaSound
import Derived.Test.YtbehnodllajnjaaRowV
set_option linter.unusedVariables false
set_option linter.unusedSimpArgs false
set_option maxRecDepth 8000
namespace Go.Proofs.Ytbehnodllajnjaa
open Go Go.Ev Go.Pl Go.Ma

theorem as_left_le {t : Ad} (h : t.wf) (hp : 0 ≤ t.s.p ∧ 0 ≤ t.s.m) : t.left ≤ 54 * t.s.p + t.s.m + 4 := by
  cases hd : t.dn
  · obtain ⟨hm, he, hcd, ar⟩ := h.of hd
    unfold Ad.Ar at ar
    have sb := slots_bd t.pA
    rcases (by omega : t.nx = 0 ∨ t.nx = 1 ∨ t.nx = 2 ∨ t.nx = 3 ∨ t.nx = 4 ∨ t.nx = 5 ∨ t.nx = 6 ∨ t.nx = 7 ∨ t.nx = 8 ∨ t.nx = 9 ∨ t.nx = 10 ∨ t.nx = 11 ∨ t.nx = 12 ∨ t.nx = 13) with hn | hn | hn | hn | hn | hn | hn | hn | hn | hn | hn | hn | hn | hn <;> rw [Ad.left_eq hd hn]
    · show 54 * t.s.p + t.s.m + 4 ≤ _; omega
    · show 54 * t.s.p + t.s.m + 3 ≤ _; omega
    · show 54 * t.s.p + t.s.m + 2 ≤ _; omega
    · show 3 * (t.s.p - t.at') + 51 * t.s.p + t.s.m + 1 ≤ _; omega
    · show 3 * (t.s.p - t.at') + 51 * t.s.p + t.s.m ≤ _; omega
    · show 3 * (t.s.p - t.at') + 51 * t.s.p + t.s.m - 1 ≤ _; omega
    · show 18 * (t.s.p - t.at') + 33 * t.s.p + t.s.m + 1 ≤ _; omega
    · show 18 * (t.s.p - t.at') + 33 * t.s.p + t.s.m - t.i ≤ _; omega
    · show 18 * (t.s.p - t.at') + 33 * t.s.p + t.s.m - 16 ≤ _; omega
    · show t.s.m - t.i + 33 * t.s.p + 1 ≤ _; omega
    · show 33 * (t.s.p - t.at') + 1 ≤ _; omega
    · show 33 * (t.s.p - t.at') - 32 + 2 * (slots t.pA - t.i) ≤ _; omega
    · show 33 * (t.s.p - t.at') - 33 + 2 * (slots t.pA - t.i) ≤ _; omega
    · show (1 : Int) ≤ _; omega
  · rw [Ad.left_0 hd]; omega
theorem as_left {t : Ad} {w : Wd} {m : Int} (h : t.wf) (hl : t.left ≤ max 0 m) : (t.step w).1.left ≤ max 0 (m - 1) := by
  cases hd : t.dn
  · have := Ad.step_left (w := w) h hd; omega
  · rw [Ad.step_dn hd]
    have := Ad.left_0 hd
    show t.left ≤ _; omega
theorem as_len {sh : Sh} {w : Wd} (hm : may sh.p sh.c sh.m = true) (hc : 3 ≤ sh.c) (h : w.of sh) : 3 ≤ w.n := by
  have hb := (may_iff _ _ _).1 hm
  have hml := mul_bd sh.c sh.m (by omega) hb.2.2.2.1 hb.2.2.2.2.1 hb.2.2.2.2.2
  have := h.n
  unfold words at this
  rw [if_pos hm] at this
  omega

section
variable {W : World} {H h : Hp} {l : List Hp} {n cap : Nat} {a : Option Addr} {ws : Nat → Int}
def asI (sh : Sh) (A Bv X : Int) (x b k s : Nat) (L : List Hp) (F' : Fr) (H' : Hp) : Prop :=
  ∃ (i : Int) (t : Ad) (w : Wd), 0 ≤ i ∧ i ≤ 60 * sh.p + sh.m + 20 ∧ gt F' 12 = .int .i64 i ∧
    (gt F' 3 = .pointer (some ⟨x, 0, none⟩) ∧ gt F' 7 = .pointer (some ⟨b, 0, none⟩) ∧ gt F' 8 = .pointer (some ⟨k, 0, none⟩) ∧ gt F' 9 = .int .i64 A ∧ gt F' 10 = .int .i64 Bv ∧ gt F' 11 = .int .u64 X) ∧
    Ad.One sh A Bv t w ∧ t.left ≤ max 0 (60 * sh.p + sh.m + 20 - i) ∧ Sep (adB k t :: wB b s w :: wR s w :: L) H'
set_option maxHeartbeats 8000000 in
theorem c_adoptstates (sh : Sh) {g0 g1 g2 : Int} (hg0 : 0 ≤ g0 ∧ g0 ≤ 255) (hg1 : 0 ≤ g1 ∧ g1 ≤ 255) (hr : RowU h a n ws) (hU : ∀ i, i < n → U (ws i)) (hS : Sep (h :: l) H) :
    CallP Try.prog W 12 #[.agg #[.int .i64 sh.p, .int .i64 sh.c, .int .i64 sh.m], .slice a n cap, .agg #[.int .u8 g0, .int .u8 g1, .int .u8 g2]] H fun v H' => v = .bool true ∧ Sep (h :: l) H' := by
  refine CallP.of mixed Try.func12 tr12 (by show 3 ≤ _; decide) fun W _ => ?_
  simp only [↓D0, ↓D1, ↓D2, ↓D3, ↓D4, ↓D5, ↓D6, ↓D7, ↓D8, ↓D9, U0, U1, U2, U3, U4, U5, U6, U7, U8, U9, U10, ↓reduceIte, Nat.reduceAdd, Nat.reduceMul, Nat.reduceSub, Nat.reduceEqDiff, Nat.reduceBEq, Nat.reduceLeDiff, Nat.reduceLT, Int.reduceAdd, Int.reduceMul, Int.reduceSub, Int.reduceLT, Int.reduceLE, Int.reduceToNat, Int.reduceEq, Int.reduceNe, Int.reduceBEq, Int.reduceBNe, ne_eq, eq_self]
  refine newB_intro fun x hx f1 f2 => ?_
  simp only [↓D0, ↓D1, ↓D2, ↓D3, ↓D4, ↓D5, ↓D6, ↓D7, ↓D8, ↓D9, U0, U1, U2, U3, U4, U5, U6, U7, U8, U9, U10, ↓reduceIte, Nat.reduceAdd, Nat.reduceMul, Nat.reduceSub, Nat.reduceEqDiff, Nat.reduceBEq, Nat.reduceLeDiff, Nat.reduceLT, Int.reduceAdd, Int.reduceMul, Int.reduceSub, Int.reduceLT, Int.reduceLE, Int.reduceToNat, Int.reduceEq, Int.reduceNe, Int.reduceBEq, Int.reduceBNe, ne_eq, eq_self]
  refine newB_intro fun y hy f3 f4 => ?_
  simp only [↓D0, ↓D1, ↓D2, ↓D3, ↓D4, ↓D5, ↓D6, ↓D7, ↓D8, ↓D9, U0, U1, U2, U3, U4, U5, U6, U7, U8, U9, U10, ↓reduceIte, Nat.reduceAdd, Nat.reduceMul, Nat.reduceSub, Nat.reduceEqDiff, Nat.reduceBEq, Nat.reduceLeDiff, Nat.reduceLT, Int.reduceAdd, Int.reduceMul, Int.reduceSub, Int.reduceLT, Int.reduceLE, Int.reduceToNat, Int.reduceEq, Int.reduceNe, Int.reduceBEq, Int.reduceBNe, ne_eq, eq_self]
  have hS := (hS.new f1 (.cells #[.int .i64 sh.p, .int .i64 sh.c, .int .i64 sh.m] 25 (0, 0))).new f3 (.cells #[.int .u8 g0, .int .u8 g1, .int .u8 g2] 96 (0, 0))
  refine callT_of (c_awake18 hS) ?_
  rintro v H' ⟨rfl, hS⟩
  have hx1 := hS.lk 1 rfl
  have r0 := fun o => rd_of hx1 o
  have r1 := fun o n => rdn_of hx1 o n
  simp only [hx1, r1, ↓D0, ↓D1, ↓D2, ↓D3, ↓D4, ↓D5, ↓D6, ↓D7, ↓D8, ↓D9, U0, U1, U2, U3, U4, U5, U6, U7, U8, U9, U10, ↓reduceIte, Nat.reduceAdd, Nat.reduceMul, Nat.reduceSub, Nat.reduceEqDiff, Nat.reduceBEq, Nat.reduceLeDiff, Nat.reduceLT, Int.reduceAdd, Int.reduceMul, Int.reduceSub, Int.reduceLT, Int.reduceLE, Int.reduceToNat, Int.reduceEq, Int.reduceNe, Int.reduceBEq, Int.reduceBNe, ne_eq, eq_self]
  refine callT_of (c_fair (sh := sh) hS) ?_
  rintro v H' ⟨rfl, hS⟩
  have hx1 := hS.lk 1 rfl
  have r0 := fun o => rd_of hx1 o
  have r1 := fun o n => rdn_of hx1 o n
  cases hfair : (may sh.p sh.c sh.m && ((n : Int) == words sh.p sh.c sh.m))
  · simp only [hfair, ↓D0, ↓D1, ↓D2, ↓D3, ↓D4, ↓D5, ↓D6, ↓D7, ↓D8, ↓D9, U0, U1, U2, U3, U4, U5, U6, U7, U8, U9, U10, ↓reduceIte, Nat.reduceAdd, Nat.reduceMul, Nat.reduceSub, Nat.reduceEqDiff, Nat.reduceBEq, Nat.reduceLeDiff, Nat.reduceLT, Int.reduceAdd, Int.reduceMul, Int.reduceSub, Int.reduceLT, Int.reduceLE, Int.reduceToNat, Int.reduceEq, Int.reduceNe, Int.reduceBEq, Int.reduceBNe, ne_eq, eq_self]
    exact hS.tail.tail
  have hfair' := hfair
  simp only [Bool.and_eq_true, beq_iff_eq] at hfair
  obtain ⟨hm, hn⟩ := hfair
  simp only [hfair', hx1, r0, r1, ↓D0, ↓D1, ↓D2, ↓D3, ↓D4, ↓D5, ↓D6, ↓D7, ↓D8, ↓D9, U0, U1, U2, U3, U4, U5, U6, U7, U8, U9, U10, ↓reduceIte, Nat.reduceAdd, Nat.reduceMul, Nat.reduceSub, Nat.reduceEqDiff, Nat.reduceBEq, Nat.reduceLeDiff, Nat.reduceLT, Int.reduceAdd, Int.reduceMul, Int.reduceSub, Int.reduceLT, Int.reduceLE, Int.reduceToNat, Int.reduceEq, Int.reduceNe, Int.reduceBEq, Int.reduceBNe, ne_eq, eq_self]
  refine callT_of (c_sound hm hn hr hU hS.p2) ?_
  rintro v H' ⟨sb, rfl, hS⟩
  cases sb
  · simp only [↓D0, ↓D1, ↓D2, ↓D3, ↓D4, ↓D5, ↓D6, ↓D7, ↓D8, ↓D9, U0, U1, U2, U3, U4, U5, U6, U7, U8, U9, U10, ↓reduceIte, Nat.reduceAdd, Nat.reduceMul, Nat.reduceSub, Nat.reduceEqDiff, Nat.reduceBEq, Nat.reduceLeDiff, Nat.reduceLT, Int.reduceAdd, Int.reduceMul, Int.reduceSub, Int.reduceLT, Int.reduceLE, Int.reduceToNat, Int.reduceEq, Int.reduceNe, Int.reduceBEq, Int.reduceBNe, ne_eq, eq_self]
    exact hS.p1.tail.p1.tail
  have hx1 := hS.lk 2 rfl
  have r0 := fun o => rd_of hx1 o
  have r1 := fun o n => rdn_of hx1 o n
  by_cases hc3 : sh.c < 3
  · have g3 : decide (sh.c < 3) = true := decide_eq_true hc3
    simp only [hx1, r0, g3, ↓D0, ↓D1, ↓D2, ↓D3, ↓D4, ↓D5, ↓D6, ↓D7, ↓D8, ↓D9, U0, U1, U2, U3, U4, U5, U6, U7, U8, U9, U10, ↓reduceIte, Nat.reduceAdd, Nat.reduceMul, Nat.reduceSub, Nat.reduceEqDiff, Nat.reduceBEq, Nat.reduceLeDiff, Nat.reduceLT, Int.reduceAdd, Int.reduceMul, Int.reduceSub, Int.reduceLT, Int.reduceLE, Int.reduceToNat, Int.reduceEq, Int.reduceNe, Int.reduceBEq, Int.reduceBNe, ne_eq, eq_self]
    exact hS.p1.tail.p1.tail
  have g3 : decide (sh.c < 3) = false := decide_eq_false hc3
  have hwl := words_le hm
  have hn2 : n ≤ 2000 := by omega
  obtain ⟨a1, a2, a3, a4, a5, a6⟩ := (may_iff _ _ _).1 hm
  simp only [hx1, r0, g3, ↓D0, ↓D1, ↓D2, ↓D3, ↓D4, ↓D5, ↓D6, ↓D7, ↓D8, ↓D9, U0, U1, U2, U3, U4, U5, U6, U7, U8, U9, U10, ↓reduceIte, Nat.reduceAdd, Nat.reduceMul, Nat.reduceSub, Nat.reduceEqDiff, Nat.reduceBEq, Nat.reduceLeDiff, Nat.reduceLT, Int.reduceAdd, Int.reduceMul, Int.reduceSub, Int.reduceLT, Int.reduceLE, Int.reduceToNat, Int.reduceEq, Int.reduceNe, Int.reduceBEq, Int.reduceBNe, ne_eq, eq_self]
  refine callT_of (c_fill hn2 hr hS) ?_
  rintro v H' ⟨b, s, rfl, hS⟩
  have hx1 := hS.lk 4 rfl
  have r1 := fun o n => rdn_of hx1 o n
  simp only [hx1, r1, ↓D0, ↓D1, ↓D2, ↓D3, ↓D4, ↓D5, ↓D6, ↓D7, ↓D8, ↓D9, U0, U1, U2, U3, U4, U5, U6, U7, U8, U9, U10, ↓reduceIte, Nat.reduceAdd, Nat.reduceMul, Nat.reduceSub, Nat.reduceEqDiff, Nat.reduceBEq, Nat.reduceLeDiff, Nat.reduceLT, Int.reduceAdd, Int.reduceMul, Int.reduceSub, Int.reduceLT, Int.reduceLE, Int.reduceToNat, Int.reduceEq, Int.reduceNe, Int.reduceBEq, Int.reduceBNe, ne_eq, eq_self]
  refine callT_of (c_adnew (sh := sh) hS) ?_
  rintro v H' ⟨k, rfl, hS⟩
  have hx1 := hS.lk 5 rfl
  have hy1 := hS.lk 4 rfl
  have r0 := fun o => rd_of hx1 o
  have r2 := fun o => rd_of hy1 o
  have i0 : (0 : Int) < ((3 : Nat) : Int) := by decide
  have i1 : (1 : Int) < ((3 : Nat) : Int) := by decide
  have eg0 : w64 g0 = g0 := w64_eq (by omega) (by omega)
  have eg1 : w64 g1 = g1 := w64_eq (by omega) (by omega)
  have et0 : g0.tmod 5 = g0 % 5 := Int.tmod_eq_emod_of_nonneg hg0.1
  have et1 : g1.tmod 5 = g1 % 5 := Int.tmod_eq_emod_of_nonneg hg1.1
  have wq0 : w64 (g0 % 5) = g0 % 5 := w64_eq (by omega) (by omega)
  have wq1 : w64 (g1 % 5) = g1 % 5 := w64_eq (by omega) (by omega)
  obtain ⟨A, hA⟩ : ∃ A, g0 % 5 = A := ⟨_, rfl⟩
  obtain ⟨B, hB⟩ : ∃ B, g1 % 5 = B := ⟨_, rfl⟩
  have hof : (rowW n ws).of sh := rowW_of hn hU
  have hlen := as_len hm (by omega) hof
  have hst0 : (rowW n ws).st = 0 := rfl
  have wm1 : w64 (60 * sh.p) = 60 * sh.p := w64_eq (by omega) (by omega)
  have wm2 : w64 (60 * sh.p + sh.m) = 60 * sh.p + sh.m := w64_eq (by omega) (by omega)
  have wm3 : w64 (60 * sh.p + sh.m + 20) = 60 * sh.p + sh.m + 20 := w64_eq (by omega) (by omega)
  have hp4 : putSt 4 0 = 4 := rfl
  cases b3 : (B == 3)
  · cases a3 : (A == 3)
    · have hb : (0 : Int) ≤ B ∧ (B : Int) ≤ 4 ∧ (B : Int) ≠ 3 := by have := beq_eq_false_iff_ne.1 b3; omega
      have hA3 : A ≠ 3 := beq_eq_false_iff_ne.1 a3
      have hX : Ad.stX A = (putSt A 0) := by unfold Ad.stX; rw [if_neg hA3]
      simp only [hx1, hy1, r2, i0, i1, eg0, eg1, et0, et1, wrap_w64, wq0, wq1, hA, hB, b3, a3, u_putst, ↓D0, ↓D1, ↓D2, ↓D3, ↓D4, ↓D5, ↓D6, ↓D7, ↓D8, ↓D9, U0, U1, U2, U3, U4, U5, U6, U7, U8, U9, U10, ↓reduceIte, Nat.reduceAdd, Nat.reduceMul, Nat.reduceSub, Nat.reduceEqDiff, Nat.reduceBEq, Nat.reduceLeDiff, Nat.reduceLT, Int.reduceAdd, Int.reduceMul, Int.reduceSub, Int.reduceLT, Int.reduceLE, Int.reduceToNat, Int.reduceEq, Int.reduceNe, Int.reduceBEq, Int.reduceBNe, ne_eq, eq_self]
      refine callT_of (c_put 1 (putSt A 0) (by decide) (by omega) hS.p2.p2) ?_
      rintro v H' ⟨rfl, hS⟩
      simp only [u_putst, ↓D0, ↓D1, ↓D2, ↓D3, ↓D4, ↓D5, ↓D6, ↓D7, ↓D8, ↓D9, U0, U1, U2, U3, U4, U5, U6, U7, U8, U9, U10, ↓reduceIte, Nat.reduceAdd, Nat.reduceMul, Nat.reduceSub, Nat.reduceEqDiff, Nat.reduceBEq, Nat.reduceLeDiff, Nat.reduceLT, Int.reduceAdd, Int.reduceMul, Int.reduceSub, Int.reduceLT, Int.reduceLE, Int.reduceToNat, Int.reduceEq, Int.reduceNe, Int.reduceBEq, Int.reduceBNe, ne_eq, eq_self]
      refine callT_of (c_put 2 (putSt B 0) (by decide) (by show (2 : Int) < ((rowW n ws).n : Int); omega) hS) ?_
      rintro v H' ⟨rfl, hS⟩
      simp only [↓D0, ↓D1, ↓D2, ↓D3, ↓D4, ↓D5, ↓D6, ↓D7, ↓D8, ↓D9, U0, U1, U2, U3, U4, U5, U6, U7, U8, U9, U10, ↓reduceIte, Nat.reduceAdd, Nat.reduceMul, Nat.reduceSub, Nat.reduceEqDiff, Nat.reduceBEq, Nat.reduceLeDiff, Nat.reduceLT, Int.reduceAdd, Int.reduceMul, Int.reduceSub, Int.reduceLT, Int.reduceLE, Int.reduceToNat, Int.reduceEq, Int.reduceNe, Int.reduceBEq, Int.reduceBNe, ne_eq, eq_self]
      have hof2 : (((rowW n ws).put 1 (putSt A 0)).put 2 (putSt B 0)).of sh := Wd.of_put (Wd.of_put hof (U_putSt ..) _) (U_putSt ..) _
      have hO := Ad.One.init (a := A) (b := B) hm hof2 (by omega) ⟨by omega, by omega, hb.1, hb.2.1, hb.2.2⟩
        (by rw [get_put (by decide) (by decide), if_neg (by decide), get_put (by decide) (by decide), if_pos rfl, hX])
        (by rw [get_put (by decide) (by decide), if_pos rfl]) hst0
      have hl0 := as_left_le hO.wf.1 (by show 0 ≤ sh.p ∧ 0 ≤ sh.m; omega)
      have hl1 : (Ad.new sh 0 1).left ≤ 54 * sh.p + sh.m + 4 := hl0
      refine loop_intro (asI sh A B (putSt A 0) x b k s (sg x (.cells #[.int .i64 sh.p, .int .i64 sh.c, .int .i64 sh.m] 25 (0, 0)) :: sg y (.cells #[.int .u8 g0, .int .u8 g1, .int .u8 g2] 96 (0, 0)) :: h :: l)) (fun F' _ => (60 * sh.p + sh.m + 20 - iv (gt F' 12)).toNat)
        ⟨0, _, _, by omega, by omega, by simp [gt], ⟨by simp [gt], by simp [gt], by simp [gt], by simp [gt], by simp [gt], by simp [gt]⟩, hO, by omega, hS.p3.p4.p5.p4.p4.p5⟩ ?_
      clear hS hx1 hy1 r0 r1 r2 hO hl0 hl1 hof2
      rintro F' H' ⟨i, t, w, h0, h1, e12, ⟨e3, e7, e8, e9, e10, e11⟩, hO, hl, hS⟩
      have hx1 := hS.lk 3 rfl
      have r0 := fun o => rd_of hx1 o
      by_cases hlt : i < 60 * sh.p + sh.m + 20
      · have d1 : decide (i < 60 * sh.p + sh.m + 20) = true := decide_eq_true hlt
        have wi : w64 (i + 1) = i + 1 := w64_eq (by omega) (by omega)
        simp only [e12, e3, e7, e8, e9, e10, e11, hx1, r0, wrap_w64, wm1, wm2, wm3, d1, ↓D0, ↓D1, ↓D2, ↓D3, ↓D4, ↓D5, ↓D6, ↓D7, ↓D8, ↓D9, U0, U1, U2, U3, U4, U5, U6, U7, U8, U9, U10, ↓reduceIte, Nat.reduceAdd, Nat.reduceMul, Nat.reduceSub, Nat.reduceEqDiff, Nat.reduceBEq, Nat.reduceLeDiff, Nat.reduceLT, Int.reduceAdd, Int.reduceMul, Int.reduceSub, Int.reduceLT, Int.reduceLE, Int.reduceToNat, Int.reduceEq, Int.reduceNe, Int.reduceBEq, Int.reduceBNe, ne_eq, eq_self]
        refine callT_of (c_adstep hO.wf.1 (fun _ => by rw [hO.wf.2.1]; exact hO.of) hS) ?_
        rintro v H' ⟨rfl, hS⟩
        simp only [e12, e3, e7, e8, e9, e10, e11, wrap_w64, wi, ↓D0, ↓D1, ↓D2, ↓D3, ↓D4, ↓D5, ↓D6, ↓D7, ↓D8, ↓D9, U0, U1, U2, U3, U4, U5, U6, U7, U8, U9, U10, ↓reduceIte, Nat.reduceAdd, Nat.reduceMul, Nat.reduceSub, Nat.reduceEqDiff, Nat.reduceBEq, Nat.reduceLeDiff, Nat.reduceLT, Int.reduceAdd, Int.reduceMul, Int.reduceSub, Int.reduceLT, Int.reduceLE, Int.reduceToNat, Int.reduceEq, Int.reduceNe, Int.reduceBEq, Int.reduceBNe, ne_eq, eq_self]
        refine ⟨⟨i + 1, _, _, by omega, by omega, by simp [gt], ⟨by simp [gt, e3], by simp [gt, e7], by simp [gt, e8], by simp [gt, e9], by simp [gt, e10], by simp [gt, e11]⟩, hO.step, ?_, hS⟩, by simp [gt, iv, e12]; omega⟩
        have := as_left (w := w) hO.wf.1 hl; omega
      have d1 : decide (i < 60 * sh.p + sh.m + 20) = false := decide_eq_false hlt
      have hd : t.dn = true := Ad.left_dn hO.wf.1 (by have := Ad.left_nn hO.wf.1; omega)
      have hfin := hO.fin hd
      have hwl2 := as_len hm (by omega) hO.of
      rw [hX] at hfin
      cases a2' : (A == 2)
      · have a2n : A ≠ 2 := beq_eq_false_iff_ne.1 a2'
        have hE : Ad.stE A B = 5 := by unfold Ad.stE; rw [if_neg (by omega), if_neg hA3]
        obtain ⟨hh, -⟩ | ⟨-, hr0, hg, hs0, hs1⟩ := hfin
        · rw [hE] at hh; cases hh
        rw [hE] at hr0
        have ds : decide (w.st ≤ 2) = true := decide_eq_true hs1
        have xx : ((putSt A 0) == (putSt A 0)) = true := by simp
        simp only [e12, e3, e7, e8, e9, e10, e11, hx1, r0, wrap_w64, wm1, wm2, wm3, d1, a2', a3, ↓D0, ↓D1, ↓D2, ↓D3, ↓D4, ↓D5, ↓D6, ↓D7, ↓D8, ↓D9, U0, U1, U2, U3, U4, U5, U6, U7, U8, U9, U10, ↓reduceIte, Nat.reduceAdd, Nat.reduceMul, Nat.reduceSub, Nat.reduceEqDiff, Nat.reduceBEq, Nat.reduceLeDiff, Nat.reduceLT, Int.reduceAdd, Int.reduceMul, Int.reduceSub, Int.reduceLT, Int.reduceLE, Int.reduceToNat, Int.reduceEq, Int.reduceNe, Int.reduceBEq, Int.reduceBNe, ne_eq, eq_self]
        refine callT_of (c_addone hS) ?_
        rintro v H' ⟨rfl, hS⟩
        simp only [e12, e3, e7, e8, e9, e10, e11, hd, a2', a3, ↓D0, ↓D1, ↓D2, ↓D3, ↓D4, ↓D5, ↓D6, ↓D7, ↓D8, ↓D9, U0, U1, U2, U3, U4, U5, U6, U7, U8, U9, U10, ↓reduceIte, Nat.reduceAdd, Nat.reduceMul, Nat.reduceSub, Nat.reduceEqDiff, Nat.reduceBEq, Nat.reduceLeDiff, Nat.reduceLT, Int.reduceAdd, Int.reduceMul, Int.reduceSub, Int.reduceLT, Int.reduceLE, Int.reduceToNat, Int.reduceEq, Int.reduceNe, Int.reduceBEq, Int.reduceBNe, ne_eq, eq_self]
        refine callT_of (c_aderr hS) ?_
        rintro v H' ⟨rfl, hS⟩
        simp only [e12, e3, e7, e8, e9, e10, e11, hr0, a2', a3, ↓D0, ↓D1, ↓D2, ↓D3, ↓D4, ↓D5, ↓D6, ↓D7, ↓D8, ↓D9, U0, U1, U2, U3, U4, U5, U6, U7, U8, U9, U10, ↓reduceIte, Nat.reduceAdd, Nat.reduceMul, Nat.reduceSub, Nat.reduceEqDiff, Nat.reduceBEq, Nat.reduceLeDiff, Nat.reduceLT, Int.reduceAdd, Int.reduceMul, Int.reduceSub, Int.reduceLT, Int.reduceLE, Int.reduceToNat, Int.reduceEq, Int.reduceNe, Int.reduceBEq, Int.reduceBNe, ne_eq, eq_self]
        refine callT_of (c_look 1 (by decide) (by omega) hS.tail) ?_
        rintro v H' ⟨rfl, hS⟩
        simp only [e12, e3, e7, e8, e9, e10, e11, hg, xx, a2', a3, ↓D0, ↓D1, ↓D2, ↓D3, ↓D4, ↓D5, ↓D6, ↓D7, ↓D8, ↓D9, U0, U1, U2, U3, U4, U5, U6, U7, U8, U9, U10, ↓reduceIte, Nat.reduceAdd, Nat.reduceMul, Nat.reduceSub, Nat.reduceEqDiff, Nat.reduceBEq, Nat.reduceLeDiff, Nat.reduceLT, Int.reduceAdd, Int.reduceMul, Int.reduceSub, Int.reduceLT, Int.reduceLE, Int.reduceToNat, Int.reduceEq, Int.reduceNe, Int.reduceBEq, Int.reduceBNe, ne_eq, eq_self]
        refine callT_of (c_steps hS) ?_
        rintro v H' ⟨rfl, hS⟩
        simp only [e12, e3, e7, e8, e9, e10, e11, ds, ↓D0, ↓D1, ↓D2, ↓D3, ↓D4, ↓D5, ↓D6, ↓D7, ↓D8, ↓D9, U0, U1, U2, U3, U4, U5, U6, U7, U8, U9, U10, ↓reduceIte, Nat.reduceAdd, Nat.reduceMul, Nat.reduceSub, Nat.reduceEqDiff, Nat.reduceBEq, Nat.reduceLeDiff, Nat.reduceLT, Int.reduceAdd, Int.reduceMul, Int.reduceSub, Int.reduceLT, Int.reduceLE, Int.reduceToNat, Int.reduceEq, Int.reduceNe, Int.reduceBEq, Int.reduceBNe, ne_eq, eq_self]
        exact hS.tail.tail.tail.tail
      · have a2y : A = 2 := beq_iff_eq.1 a2'
        have hE : Ad.stE A B = 0 := by unfold Ad.stE; rw [if_pos (.inl a2y)]
        obtain ⟨-, hr0, hg⟩ | ⟨hh, -⟩ := hfin
        rotate_left
        · exact absurd hE hh
        simp only [e12, e3, e7, e8, e9, e10, e11, hx1, r0, wrap_w64, wm1, wm2, wm3, d1, a2', a3, ↓D0, ↓D1, ↓D2, ↓D3, ↓D4, ↓D5, ↓D6, ↓D7, ↓D8, ↓D9, U0, U1, U2, U3, U4, U5, U6, U7, U8, U9, U10, ↓reduceIte, Nat.reduceAdd, Nat.reduceMul, Nat.reduceSub, Nat.reduceEqDiff, Nat.reduceBEq, Nat.reduceLeDiff, Nat.reduceLT, Int.reduceAdd, Int.reduceMul, Int.reduceSub, Int.reduceLT, Int.reduceLE, Int.reduceToNat, Int.reduceEq, Int.reduceNe, Int.reduceBEq, Int.reduceBNe, ne_eq, eq_self]
        refine callT_of (c_addone hS) ?_
        rintro v H' ⟨rfl, hS⟩
        simp only [e12, e3, e7, e8, e9, e10, e11, hd, a2', a3, ↓D0, ↓D1, ↓D2, ↓D3, ↓D4, ↓D5, ↓D6, ↓D7, ↓D8, ↓D9, U0, U1, U2, U3, U4, U5, U6, U7, U8, U9, U10, ↓reduceIte, Nat.reduceAdd, Nat.reduceMul, Nat.reduceSub, Nat.reduceEqDiff, Nat.reduceBEq, Nat.reduceLeDiff, Nat.reduceLT, Int.reduceAdd, Int.reduceMul, Int.reduceSub, Int.reduceLT, Int.reduceLE, Int.reduceToNat, Int.reduceEq, Int.reduceNe, Int.reduceBEq, Int.reduceBNe, ne_eq, eq_self]
        refine callT_of (c_aderr hS) ?_
        rintro v H' ⟨rfl, hS⟩
        simp only [e12, e3, e7, e8, e9, e10, e11, hr0, a2', a3, ↓D0, ↓D1, ↓D2, ↓D3, ↓D4, ↓D5, ↓D6, ↓D7, ↓D8, ↓D9, U0, U1, U2, U3, U4, U5, U6, U7, U8, U9, U10, ↓reduceIte, Nat.reduceAdd, Nat.reduceMul, Nat.reduceSub, Nat.reduceEqDiff, Nat.reduceBEq, Nat.reduceLeDiff, Nat.reduceLT, Int.reduceAdd, Int.reduceMul, Int.reduceSub, Int.reduceLT, Int.reduceLE, Int.reduceToNat, Int.reduceEq, Int.reduceNe, Int.reduceBEq, Int.reduceBNe, ne_eq, eq_self]
        refine callT_of (c_look 1 (by decide) (by omega) hS.tail) ?_
        rintro v H' ⟨rfl, hS⟩
        simp only [hg, u_putst, hp4, ↓D0, ↓D1, ↓D2, ↓D3, ↓D4, ↓D5, ↓D6, ↓D7, ↓D8, ↓D9, U0, U1, U2, U3, U4, U5, U6, U7, U8, U9, U10, ↓reduceIte, Nat.reduceAdd, Nat.reduceMul, Nat.reduceSub, Nat.reduceEqDiff, Nat.reduceBEq, Nat.reduceLeDiff, Nat.reduceLT, Int.reduceAdd, Int.reduceMul, Int.reduceSub, Int.reduceLT, Int.reduceLE, Int.reduceToNat, Int.reduceEq, Int.reduceNe, Int.reduceBEq, Int.reduceBNe, ne_eq, eq_self]
        exact hS.tail.tail.tail.tail
    · have hb : (0 : Int) ≤ B ∧ (B : Int) ≤ 4 ∧ (B : Int) ≠ 3 := by have := beq_eq_false_iff_ne.1 b3; omega
      have hA3 : A = 3 := beq_iff_eq.1 a3
      have hX : Ad.stX A = (putSt 3 2) := by unfold Ad.stX; rw [if_pos hA3]
      simp only [hx1, hy1, r2, i0, i1, eg0, eg1, et0, et1, wrap_w64, wq0, wq1, hA, hB, b3, a3, u_putst, ↓D0, ↓D1, ↓D2, ↓D3, ↓D4, ↓D5, ↓D6, ↓D7, ↓D8, ↓D9, U0, U1, U2, U3, U4, U5, U6, U7, U8, U9, U10, ↓reduceIte, Nat.reduceAdd, Nat.reduceMul, Nat.reduceSub, Nat.reduceEqDiff, Nat.reduceBEq, Nat.reduceLeDiff, Nat.reduceLT, Int.reduceAdd, Int.reduceMul, Int.reduceSub, Int.reduceLT, Int.reduceLE, Int.reduceToNat, Int.reduceEq, Int.reduceNe, Int.reduceBEq, Int.reduceBNe, ne_eq, eq_self]
      refine callT_of (c_put 1 (putSt 3 2) (by decide) (by omega) hS.p2.p2) ?_
      rintro v H' ⟨rfl, hS⟩
      simp only [u_putst, ↓D0, ↓D1, ↓D2, ↓D3, ↓D4, ↓D5, ↓D6, ↓D7, ↓D8, ↓D9, U0, U1, U2, U3, U4, U5, U6, U7, U8, U9, U10, ↓reduceIte, Nat.reduceAdd, Nat.reduceMul, Nat.reduceSub, Nat.reduceEqDiff, Nat.reduceBEq, Nat.reduceLeDiff, Nat.reduceLT, Int.reduceAdd, Int.reduceMul, Int.reduceSub, Int.reduceLT, Int.reduceLE, Int.reduceToNat, Int.reduceEq, Int.reduceNe, Int.reduceBEq, Int.reduceBNe, ne_eq, eq_self]
      refine callT_of (c_put 2 (putSt B 0) (by decide) (by show (2 : Int) < ((rowW n ws).n : Int); omega) hS) ?_
      rintro v H' ⟨rfl, hS⟩
      simp only [↓D0, ↓D1, ↓D2, ↓D3, ↓D4, ↓D5, ↓D6, ↓D7, ↓D8, ↓D9, U0, U1, U2, U3, U4, U5, U6, U7, U8, U9, U10, ↓reduceIte, Nat.reduceAdd, Nat.reduceMul, Nat.reduceSub, Nat.reduceEqDiff, Nat.reduceBEq, Nat.reduceLeDiff, Nat.reduceLT, Int.reduceAdd, Int.reduceMul, Int.reduceSub, Int.reduceLT, Int.reduceLE, Int.reduceToNat, Int.reduceEq, Int.reduceNe, Int.reduceBEq, Int.reduceBNe, ne_eq, eq_self]
      have hof2 : (((rowW n ws).put 1 (putSt 3 2)).put 2 (putSt B 0)).of sh := Wd.of_put (Wd.of_put hof (U_putSt ..) _) (U_putSt ..) _
      have hO := Ad.One.init (a := A) (b := B) hm hof2 (by omega) ⟨by omega, by omega, hb.1, hb.2.1, hb.2.2⟩
        (by rw [get_put (by decide) (by decide), if_neg (by decide), get_put (by decide) (by decide), if_pos rfl, hX])
        (by rw [get_put (by decide) (by decide), if_pos rfl]) hst0
      have hl0 := as_left_le hO.wf.1 (by show 0 ≤ sh.p ∧ 0 ≤ sh.m; omega)
      have hl1 : (Ad.new sh 0 1).left ≤ 54 * sh.p + sh.m + 4 := hl0
      refine loop_intro (asI sh A B (putSt 3 2) x b k s (sg x (.cells #[.int .i64 sh.p, .int .i64 sh.c, .int .i64 sh.m] 25 (0, 0)) :: sg y (.cells #[.int .u8 g0, .int .u8 g1, .int .u8 g2] 96 (0, 0)) :: h :: l)) (fun F' _ => (60 * sh.p + sh.m + 20 - iv (gt F' 12)).toNat)
        ⟨0, _, _, by omega, by omega, by simp [gt], ⟨by simp [gt], by simp [gt], by simp [gt], by simp [gt], by simp [gt], by simp [gt]⟩, hO, by omega, hS.p3.p4.p5.p4.p4.p5⟩ ?_
      clear hS hx1 hy1 r0 r1 r2 hO hl0 hl1 hof2
      rintro F' H' ⟨i, t, w, h0, h1, e12, ⟨e3, e7, e8, e9, e10, e11⟩, hO, hl, hS⟩
      have hx1 := hS.lk 3 rfl
      have r0 := fun o => rd_of hx1 o
      by_cases hlt : i < 60 * sh.p + sh.m + 20
      · have d1 : decide (i < 60 * sh.p + sh.m + 20) = true := decide_eq_true hlt
        have wi : w64 (i + 1) = i + 1 := w64_eq (by omega) (by omega)
        simp only [e12, e3, e7, e8, e9, e10, e11, hx1, r0, wrap_w64, wm1, wm2, wm3, d1, ↓D0, ↓D1, ↓D2, ↓D3, ↓D4, ↓D5, ↓D6, ↓D7, ↓D8, ↓D9, U0, U1, U2, U3, U4, U5, U6, U7, U8, U9, U10, ↓reduceIte, Nat.reduceAdd, Nat.reduceMul, Nat.reduceSub, Nat.reduceEqDiff, Nat.reduceBEq, Nat.reduceLeDiff, Nat.reduceLT, Int.reduceAdd, Int.reduceMul, Int.reduceSub, Int.reduceLT, Int.reduceLE, Int.reduceToNat, Int.reduceEq, Int.reduceNe, Int.reduceBEq, Int.reduceBNe, ne_eq, eq_self]
        refine callT_of (c_adstep hO.wf.1 (fun _ => by rw [hO.wf.2.1]; exact hO.of) hS) ?_
        rintro v H' ⟨rfl, hS⟩
        simp only [e12, e3, e7, e8, e9, e10, e11, wrap_w64, wi, ↓D0, ↓D1, ↓D2, ↓D3, ↓D4, ↓D5, ↓D6, ↓D7, ↓D8, ↓D9, U0, U1, U2, U3, U4, U5, U6, U7, U8, U9, U10, ↓reduceIte, Nat.reduceAdd, Nat.reduceMul, Nat.reduceSub, Nat.reduceEqDiff, Nat.reduceBEq, Nat.reduceLeDiff, Nat.reduceLT, Int.reduceAdd, Int.reduceMul, Int.reduceSub, Int.reduceLT, Int.reduceLE, Int.reduceToNat, Int.reduceEq, Int.reduceNe, Int.reduceBEq, Int.reduceBNe, ne_eq, eq_self]
        refine ⟨⟨i + 1, _, _, by omega, by omega, by simp [gt], ⟨by simp [gt, e3], by simp [gt, e7], by simp [gt, e8], by simp [gt, e9], by simp [gt, e10], by simp [gt, e11]⟩, hO.step, ?_, hS⟩, by simp [gt, iv, e12]; omega⟩
        have := as_left (w := w) hO.wf.1 hl; omega
      have d1 : decide (i < 60 * sh.p + sh.m + 20) = false := decide_eq_false hlt
      have hd : t.dn = true := Ad.left_dn hO.wf.1 (by have := Ad.left_nn hO.wf.1; omega)
      have hfin := hO.fin hd
      have hwl2 := as_len hm (by omega) hO.of
      rw [hX] at hfin
      have a2' : (A == 2) = false := beq_eq_false_iff_ne.2 (by omega)
      cases b1 : (B != 1)
      · have b1' : B = 1 := by simpa using b1
        have hE : Ad.stE A B = 4 := by unfold Ad.stE; rw [if_neg (by omega), if_pos hA3]
        obtain ⟨hh, -⟩ | ⟨-, hr0, hg, hs0, hs1⟩ := hfin
        · rw [hE] at hh; cases hh
        rw [hE] at hr0
        have ds : decide (w.st ≤ 2) = true := decide_eq_true hs1
        have xx : ((putSt 3 2) == (putSt 3 2)) = true := by simp
        simp only [e12, e3, e7, e8, e9, e10, e11, hx1, r0, wrap_w64, wm1, wm2, wm3, d1, a2', a3, b1, ↓D0, ↓D1, ↓D2, ↓D3, ↓D4, ↓D5, ↓D6, ↓D7, ↓D8, ↓D9, U0, U1, U2, U3, U4, U5, U6, U7, U8, U9, U10, ↓reduceIte, Nat.reduceAdd, Nat.reduceMul, Nat.reduceSub, Nat.reduceEqDiff, Nat.reduceBEq, Nat.reduceLeDiff, Nat.reduceLT, Int.reduceAdd, Int.reduceMul, Int.reduceSub, Int.reduceLT, Int.reduceLE, Int.reduceToNat, Int.reduceEq, Int.reduceNe, Int.reduceBEq, Int.reduceBNe, ne_eq, eq_self]
        refine callT_of (c_addone hS) ?_
        rintro v H' ⟨rfl, hS⟩
        simp only [e12, e3, e7, e8, e9, e10, e11, hd, a2', a3, b1, ↓D0, ↓D1, ↓D2, ↓D3, ↓D4, ↓D5, ↓D6, ↓D7, ↓D8, ↓D9, U0, U1, U2, U3, U4, U5, U6, U7, U8, U9, U10, ↓reduceIte, Nat.reduceAdd, Nat.reduceMul, Nat.reduceSub, Nat.reduceEqDiff, Nat.reduceBEq, Nat.reduceLeDiff, Nat.reduceLT, Int.reduceAdd, Int.reduceMul, Int.reduceSub, Int.reduceLT, Int.reduceLE, Int.reduceToNat, Int.reduceEq, Int.reduceNe, Int.reduceBEq, Int.reduceBNe, ne_eq, eq_self]
        refine callT_of (c_aderr hS) ?_
        rintro v H' ⟨rfl, hS⟩
        simp only [e12, e3, e7, e8, e9, e10, e11, hr0, a2', a3, b1, ↓D0, ↓D1, ↓D2, ↓D3, ↓D4, ↓D5, ↓D6, ↓D7, ↓D8, ↓D9, U0, U1, U2, U3, U4, U5, U6, U7, U8, U9, U10, ↓reduceIte, Nat.reduceAdd, Nat.reduceMul, Nat.reduceSub, Nat.reduceEqDiff, Nat.reduceBEq, Nat.reduceLeDiff, Nat.reduceLT, Int.reduceAdd, Int.reduceMul, Int.reduceSub, Int.reduceLT, Int.reduceLE, Int.reduceToNat, Int.reduceEq, Int.reduceNe, Int.reduceBEq, Int.reduceBNe, ne_eq, eq_self]
        refine callT_of (c_look 1 (by decide) (by omega) hS.tail) ?_
        rintro v H' ⟨rfl, hS⟩
        simp only [e12, e3, e7, e8, e9, e10, e11, hg, xx, a2', a3, b1, ↓D0, ↓D1, ↓D2, ↓D3, ↓D4, ↓D5, ↓D6, ↓D7, ↓D8, ↓D9, U0, U1, U2, U3, U4, U5, U6, U7, U8, U9, U10, ↓reduceIte, Nat.reduceAdd, Nat.reduceMul, Nat.reduceSub, Nat.reduceEqDiff, Nat.reduceBEq, Nat.reduceLeDiff, Nat.reduceLT, Int.reduceAdd, Int.reduceMul, Int.reduceSub, Int.reduceLT, Int.reduceLE, Int.reduceToNat, Int.reduceEq, Int.reduceNe, Int.reduceBEq, Int.reduceBNe, ne_eq, eq_self]
        refine callT_of (c_steps hS) ?_
        rintro v H' ⟨rfl, hS⟩
        simp only [e12, e3, e7, e8, e9, e10, e11, ds, ↓D0, ↓D1, ↓D2, ↓D3, ↓D4, ↓D5, ↓D6, ↓D7, ↓D8, ↓D9, U0, U1, U2, U3, U4, U5, U6, U7, U8, U9, U10, ↓reduceIte, Nat.reduceAdd, Nat.reduceMul, Nat.reduceSub, Nat.reduceEqDiff, Nat.reduceBEq, Nat.reduceLeDiff, Nat.reduceLT, Int.reduceAdd, Int.reduceMul, Int.reduceSub, Int.reduceLT, Int.reduceLE, Int.reduceToNat, Int.reduceEq, Int.reduceNe, Int.reduceBEq, Int.reduceBNe, ne_eq, eq_self]
        exact hS.tail.tail.tail.tail
      · have b1' : B ≠ 1 := by simpa using b1
        have hE : Ad.stE A B = 0 := by unfold Ad.stE; rw [if_pos (.inr ⟨hA3, b1'⟩)]
        obtain ⟨-, hr0, hg⟩ | ⟨hh, -⟩ := hfin
        rotate_left
        · exact absurd hE hh
        simp only [e12, e3, e7, e8, e9, e10, e11, hx1, r0, wrap_w64, wm1, wm2, wm3, d1, a2', a3, b1, ↓D0, ↓D1, ↓D2, ↓D3, ↓D4, ↓D5, ↓D6, ↓D7, ↓D8, ↓D9, U0, U1, U2, U3, U4, U5, U6, U7, U8, U9, U10, ↓reduceIte, Nat.reduceAdd, Nat.reduceMul, Nat.reduceSub, Nat.reduceEqDiff, Nat.reduceBEq, Nat.reduceLeDiff, Nat.reduceLT, Int.reduceAdd, Int.reduceMul, Int.reduceSub, Int.reduceLT, Int.reduceLE, Int.reduceToNat, Int.reduceEq, Int.reduceNe, Int.reduceBEq, Int.reduceBNe, ne_eq, eq_self]
        refine callT_of (c_addone hS) ?_
        rintro v H' ⟨rfl, hS⟩
        simp only [e12, e3, e7, e8, e9, e10, e11, hd, a2', a3, b1, ↓D0, ↓D1, ↓D2, ↓D3, ↓D4, ↓D5, ↓D6, ↓D7, ↓D8, ↓D9, U0, U1, U2, U3, U4, U5, U6, U7, U8, U9, U10, ↓reduceIte, Nat.reduceAdd, Nat.reduceMul, Nat.reduceSub, Nat.reduceEqDiff, Nat.reduceBEq, Nat.reduceLeDiff, Nat.reduceLT, Int.reduceAdd, Int.reduceMul, Int.reduceSub, Int.reduceLT, Int.reduceLE, Int.reduceToNat, Int.reduceEq, Int.reduceNe, Int.reduceBEq, Int.reduceBNe, ne_eq, eq_self]
        refine callT_of (c_aderr hS) ?_
        rintro v H' ⟨rfl, hS⟩
        simp only [e12, e3, e7, e8, e9, e10, e11, hr0, a2', a3, b1, ↓D0, ↓D1, ↓D2, ↓D3, ↓D4, ↓D5, ↓D6, ↓D7, ↓D8, ↓D9, U0, U1, U2, U3, U4, U5, U6, U7, U8, U9, U10, ↓reduceIte, Nat.reduceAdd, Nat.reduceMul, Nat.reduceSub, Nat.reduceEqDiff, Nat.reduceBEq, Nat.reduceLeDiff, Nat.reduceLT, Int.reduceAdd, Int.reduceMul, Int.reduceSub, Int.reduceLT, Int.reduceLE, Int.reduceToNat, Int.reduceEq, Int.reduceNe, Int.reduceBEq, Int.reduceBNe, ne_eq, eq_self]
        refine callT_of (c_look 1 (by decide) (by omega) hS.tail) ?_
        rintro v H' ⟨rfl, hS⟩
        simp only [hg, u_putst, hp4, ↓D0, ↓D1, ↓D2, ↓D3, ↓D4, ↓D5, ↓D6, ↓D7, ↓D8, ↓D9, U0, U1, U2, U3, U4, U5, U6, U7, U8, U9, U10, ↓reduceIte, Nat.reduceAdd, Nat.reduceMul, Nat.reduceSub, Nat.reduceEqDiff, Nat.reduceBEq, Nat.reduceLeDiff, Nat.reduceLT, Int.reduceAdd, Int.reduceMul, Int.reduceSub, Int.reduceLT, Int.reduceLE, Int.reduceToNat, Int.reduceEq, Int.reduceNe, Int.reduceBEq, Int.reduceBNe, ne_eq, eq_self]
        exact hS.tail.tail.tail.tail
  · cases a3 : (A == 3)
    · have hb : (0 : Int) ≤ 2 ∧ (2 : Int) ≤ 4 ∧ (2 : Int) ≠ 3 := by decide
      have hA3 : A ≠ 3 := beq_eq_false_iff_ne.1 a3
      have hX : Ad.stX A = (putSt A 0) := by unfold Ad.stX; rw [if_neg hA3]
      simp only [hx1, hy1, r2, i0, i1, eg0, eg1, et0, et1, wrap_w64, wq0, wq1, hA, hB, b3, a3, u_putst, ↓D0, ↓D1, ↓D2, ↓D3, ↓D4, ↓D5, ↓D6, ↓D7, ↓D8, ↓D9, U0, U1, U2, U3, U4, U5, U6, U7, U8, U9, U10, ↓reduceIte, Nat.reduceAdd, Nat.reduceMul, Nat.reduceSub, Nat.reduceEqDiff, Nat.reduceBEq, Nat.reduceLeDiff, Nat.reduceLT, Int.reduceAdd, Int.reduceMul, Int.reduceSub, Int.reduceLT, Int.reduceLE, Int.reduceToNat, Int.reduceEq, Int.reduceNe, Int.reduceBEq, Int.reduceBNe, ne_eq, eq_self]
      refine callT_of (c_put 1 (putSt A 0) (by decide) (by omega) hS.p2.p2) ?_
      rintro v H' ⟨rfl, hS⟩
      simp only [u_putst, ↓D0, ↓D1, ↓D2, ↓D3, ↓D4, ↓D5, ↓D6, ↓D7, ↓D8, ↓D9, U0, U1, U2, U3, U4, U5, U6, U7, U8, U9, U10, ↓reduceIte, Nat.reduceAdd, Nat.reduceMul, Nat.reduceSub, Nat.reduceEqDiff, Nat.reduceBEq, Nat.reduceLeDiff, Nat.reduceLT, Int.reduceAdd, Int.reduceMul, Int.reduceSub, Int.reduceLT, Int.reduceLE, Int.reduceToNat, Int.reduceEq, Int.reduceNe, Int.reduceBEq, Int.reduceBNe, ne_eq, eq_self]
      refine callT_of (c_put 2 (putSt 2 0) (by decide) (by show (2 : Int) < ((rowW n ws).n : Int); omega) hS) ?_
      rintro v H' ⟨rfl, hS⟩
      simp only [↓D0, ↓D1, ↓D2, ↓D3, ↓D4, ↓D5, ↓D6, ↓D7, ↓D8, ↓D9, U0, U1, U2, U3, U4, U5, U6, U7, U8, U9, U10, ↓reduceIte, Nat.reduceAdd, Nat.reduceMul, Nat.reduceSub, Nat.reduceEqDiff, Nat.reduceBEq, Nat.reduceLeDiff, Nat.reduceLT, Int.reduceAdd, Int.reduceMul, Int.reduceSub, Int.reduceLT, Int.reduceLE, Int.reduceToNat, Int.reduceEq, Int.reduceNe, Int.reduceBEq, Int.reduceBNe, ne_eq, eq_self]
      have hof2 : (((rowW n ws).put 1 (putSt A 0)).put 2 (putSt 2 0)).of sh := Wd.of_put (Wd.of_put hof (U_putSt ..) _) (U_putSt ..) _
      have hO := Ad.One.init (a := A) (b := 2) hm hof2 (by omega) ⟨by omega, by omega, hb.1, hb.2.1, hb.2.2⟩
        (by rw [get_put (by decide) (by decide), if_neg (by decide), get_put (by decide) (by decide), if_pos rfl, hX])
        (by rw [get_put (by decide) (by decide), if_pos rfl]) hst0
      have hl0 := as_left_le hO.wf.1 (by show 0 ≤ sh.p ∧ 0 ≤ sh.m; omega)
      have hl1 : (Ad.new sh 0 1).left ≤ 54 * sh.p + sh.m + 4 := hl0
      refine loop_intro (asI sh A 2 (putSt A 0) x b k s (sg x (.cells #[.int .i64 sh.p, .int .i64 sh.c, .int .i64 sh.m] 25 (0, 0)) :: sg y (.cells #[.int .u8 g0, .int .u8 g1, .int .u8 g2] 96 (0, 0)) :: h :: l)) (fun F' _ => (60 * sh.p + sh.m + 20 - iv (gt F' 12)).toNat)
        ⟨0, _, _, by omega, by omega, by simp [gt], ⟨by simp [gt], by simp [gt], by simp [gt], by simp [gt], by simp [gt], by simp [gt]⟩, hO, by omega, hS.p3.p4.p5.p4.p4.p5⟩ ?_
      clear hS hx1 hy1 r0 r1 r2 hO hl0 hl1 hof2
      rintro F' H' ⟨i, t, w, h0, h1, e12, ⟨e3, e7, e8, e9, e10, e11⟩, hO, hl, hS⟩
      have hx1 := hS.lk 3 rfl
      have r0 := fun o => rd_of hx1 o
      by_cases hlt : i < 60 * sh.p + sh.m + 20
      · have d1 : decide (i < 60 * sh.p + sh.m + 20) = true := decide_eq_true hlt
        have wi : w64 (i + 1) = i + 1 := w64_eq (by omega) (by omega)
        simp only [e12, e3, e7, e8, e9, e10, e11, hx1, r0, wrap_w64, wm1, wm2, wm3, d1, ↓D0, ↓D1, ↓D2, ↓D3, ↓D4, ↓D5, ↓D6, ↓D7, ↓D8, ↓D9, U0, U1, U2, U3, U4, U5, U6, U7, U8, U9, U10, ↓reduceIte, Nat.reduceAdd, Nat.reduceMul, Nat.reduceSub, Nat.reduceEqDiff, Nat.reduceBEq, Nat.reduceLeDiff, Nat.reduceLT, Int.reduceAdd, Int.reduceMul, Int.reduceSub, Int.reduceLT, Int.reduceLE, Int.reduceToNat, Int.reduceEq, Int.reduceNe, Int.reduceBEq, Int.reduceBNe, ne_eq, eq_self]
        refine callT_of (c_adstep hO.wf.1 (fun _ => by rw [hO.wf.2.1]; exact hO.of) hS) ?_
        rintro v H' ⟨rfl, hS⟩
        simp only [e12, e3, e7, e8, e9, e10, e11, wrap_w64, wi, ↓D0, ↓D1, ↓D2, ↓D3, ↓D4, ↓D5, ↓D6, ↓D7, ↓D8, ↓D9, U0, U1, U2, U3, U4, U5, U6, U7, U8, U9, U10, ↓reduceIte, Nat.reduceAdd, Nat.reduceMul, Nat.reduceSub, Nat.reduceEqDiff, Nat.reduceBEq, Nat.reduceLeDiff, Nat.reduceLT, Int.reduceAdd, Int.reduceMul, Int.reduceSub, Int.reduceLT, Int.reduceLE, Int.reduceToNat, Int.reduceEq, Int.reduceNe, Int.reduceBEq, Int.reduceBNe, ne_eq, eq_self]
        refine ⟨⟨i + 1, _, _, by omega, by omega, by simp [gt], ⟨by simp [gt, e3], by simp [gt, e7], by simp [gt, e8], by simp [gt, e9], by simp [gt, e10], by simp [gt, e11]⟩, hO.step, ?_, hS⟩, by simp [gt, iv, e12]; omega⟩
        have := as_left (w := w) hO.wf.1 hl; omega
      have d1 : decide (i < 60 * sh.p + sh.m + 20) = false := decide_eq_false hlt
      have hd : t.dn = true := Ad.left_dn hO.wf.1 (by have := Ad.left_nn hO.wf.1; omega)
      have hfin := hO.fin hd
      have hwl2 := as_len hm (by omega) hO.of
      rw [hX] at hfin
      cases a2' : (A == 2)
      · have a2n : A ≠ 2 := beq_eq_false_iff_ne.1 a2'
        have hE : Ad.stE A 2 = 5 := by unfold Ad.stE; rw [if_neg (by omega), if_neg hA3]
        obtain ⟨hh, -⟩ | ⟨-, hr0, hg, hs0, hs1⟩ := hfin
        · rw [hE] at hh; cases hh
        rw [hE] at hr0
        have ds : decide (w.st ≤ 2) = true := decide_eq_true hs1
        have xx : ((putSt A 0) == (putSt A 0)) = true := by simp
        simp only [e12, e3, e7, e8, e9, e10, e11, hx1, r0, wrap_w64, wm1, wm2, wm3, d1, a2', a3, ↓D0, ↓D1, ↓D2, ↓D3, ↓D4, ↓D5, ↓D6, ↓D7, ↓D8, ↓D9, U0, U1, U2, U3, U4, U5, U6, U7, U8, U9, U10, ↓reduceIte, Nat.reduceAdd, Nat.reduceMul, Nat.reduceSub, Nat.reduceEqDiff, Nat.reduceBEq, Nat.reduceLeDiff, Nat.reduceLT, Int.reduceAdd, Int.reduceMul, Int.reduceSub, Int.reduceLT, Int.reduceLE, Int.reduceToNat, Int.reduceEq, Int.reduceNe, Int.reduceBEq, Int.reduceBNe, ne_eq, eq_self]
        refine callT_of (c_addone hS) ?_
        rintro v H' ⟨rfl, hS⟩
        simp only [e12, e3, e7, e8, e9, e10, e11, hd, a2', a3, ↓D0, ↓D1, ↓D2, ↓D3, ↓D4, ↓D5, ↓D6, ↓D7, ↓D8, ↓D9, U0, U1, U2, U3, U4, U5, U6, U7, U8, U9, U10, ↓reduceIte, Nat.reduceAdd, Nat.reduceMul, Nat.reduceSub, Nat.reduceEqDiff, Nat.reduceBEq, Nat.reduceLeDiff, Nat.reduceLT, Int.reduceAdd, Int.reduceMul, Int.reduceSub, Int.reduceLT, Int.reduceLE, Int.reduceToNat, Int.reduceEq, Int.reduceNe, Int.reduceBEq, Int.reduceBNe, ne_eq, eq_self]
        refine callT_of (c_aderr hS) ?_
        rintro v H' ⟨rfl, hS⟩
        simp only [e12, e3, e7, e8, e9, e10, e11, hr0, a2', a3, ↓D0, ↓D1, ↓D2, ↓D3, ↓D4, ↓D5, ↓D6, ↓D7, ↓D8, ↓D9, U0, U1, U2, U3, U4, U5, U6, U7, U8, U9, U10, ↓reduceIte, Nat.reduceAdd, Nat.reduceMul, Nat.reduceSub, Nat.reduceEqDiff, Nat.reduceBEq, Nat.reduceLeDiff, Nat.reduceLT, Int.reduceAdd, Int.reduceMul, Int.reduceSub, Int.reduceLT, Int.reduceLE, Int.reduceToNat, Int.reduceEq, Int.reduceNe, Int.reduceBEq, Int.reduceBNe, ne_eq, eq_self]
        refine callT_of (c_look 1 (by decide) (by omega) hS.tail) ?_
        rintro v H' ⟨rfl, hS⟩
        simp only [e12, e3, e7, e8, e9, e10, e11, hg, xx, a2', a3, ↓D0, ↓D1, ↓D2, ↓D3, ↓D4, ↓D5, ↓D6, ↓D7, ↓D8, ↓D9, U0, U1, U2, U3, U4, U5, U6, U7, U8, U9, U10, ↓reduceIte, Nat.reduceAdd, Nat.reduceMul, Nat.reduceSub, Nat.reduceEqDiff, Nat.reduceBEq, Nat.reduceLeDiff, Nat.reduceLT, Int.reduceAdd, Int.reduceMul, Int.reduceSub, Int.reduceLT, Int.reduceLE, Int.reduceToNat, Int.reduceEq, Int.reduceNe, Int.reduceBEq, Int.reduceBNe, ne_eq, eq_self]
        refine callT_of (c_steps hS) ?_
        rintro v H' ⟨rfl, hS⟩
        simp only [e12, e3, e7, e8, e9, e10, e11, ds, ↓D0, ↓D1, ↓D2, ↓D3, ↓D4, ↓D5, ↓D6, ↓D7, ↓D8, ↓D9, U0, U1, U2, U3, U4, U5, U6, U7, U8, U9, U10, ↓reduceIte, Nat.reduceAdd, Nat.reduceMul, Nat.reduceSub, Nat.reduceEqDiff, Nat.reduceBEq, Nat.reduceLeDiff, Nat.reduceLT, Int.reduceAdd, Int.reduceMul, Int.reduceSub, Int.reduceLT, Int.reduceLE, Int.reduceToNat, Int.reduceEq, Int.reduceNe, Int.reduceBEq, Int.reduceBNe, ne_eq, eq_self]
        exact hS.tail.tail.tail.tail
      · have a2y : A = 2 := beq_iff_eq.1 a2'
        have hE : Ad.stE A 2 = 0 := by unfold Ad.stE; rw [if_pos (.inl a2y)]
        obtain ⟨-, hr0, hg⟩ | ⟨hh, -⟩ := hfin
        rotate_left
        · exact absurd hE hh
        simp only [e12, e3, e7, e8, e9, e10, e11, hx1, r0, wrap_w64, wm1, wm2, wm3, d1, a2', a3, ↓D0, ↓D1, ↓D2, ↓D3, ↓D4, ↓D5, ↓D6, ↓D7, ↓D8, ↓D9, U0, U1, U2, U3, U4, U5, U6, U7, U8, U9, U10, ↓reduceIte, Nat.reduceAdd, Nat.reduceMul, Nat.reduceSub, Nat.reduceEqDiff, Nat.reduceBEq, Nat.reduceLeDiff, Nat.reduceLT, Int.reduceAdd, Int.reduceMul, Int.reduceSub, Int.reduceLT, Int.reduceLE, Int.reduceToNat, Int.reduceEq, Int.reduceNe, Int.reduceBEq, Int.reduceBNe, ne_eq, eq_self]
        refine callT_of (c_addone hS) ?_
        rintro v H' ⟨rfl, hS⟩
        simp only [e12, e3, e7, e8, e9, e10, e11, hd, a2', a3, ↓D0, ↓D1, ↓D2, ↓D3, ↓D4, ↓D5, ↓D6, ↓D7, ↓D8, ↓D9, U0, U1, U2, U3, U4, U5, U6, U7, U8, U9, U10, ↓reduceIte, Nat.reduceAdd, Nat.reduceMul, Nat.reduceSub, Nat.reduceEqDiff, Nat.reduceBEq, Nat.reduceLeDiff, Nat.reduceLT, Int.reduceAdd, Int.reduceMul, Int.reduceSub, Int.reduceLT, Int.reduceLE, Int.reduceToNat, Int.reduceEq, Int.reduceNe, Int.reduceBEq, Int.reduceBNe, ne_eq, eq_self]
        refine callT_of (c_aderr hS) ?_
        rintro v H' ⟨rfl, hS⟩
        simp only [e12, e3, e7, e8, e9, e10, e11, hr0, a2', a3, ↓D0, ↓D1, ↓D2, ↓D3, ↓D4, ↓D5, ↓D6, ↓D7, ↓D8, ↓D9, U0, U1, U2, U3, U4, U5, U6, U7, U8, U9, U10, ↓reduceIte, Nat.reduceAdd, Nat.reduceMul, Nat.reduceSub, Nat.reduceEqDiff, Nat.reduceBEq, Nat.reduceLeDiff, Nat.reduceLT, Int.reduceAdd, Int.reduceMul, Int.reduceSub, Int.reduceLT, Int.reduceLE, Int.reduceToNat, Int.reduceEq, Int.reduceNe, Int.reduceBEq, Int.reduceBNe, ne_eq, eq_self]
        refine callT_of (c_look 1 (by decide) (by omega) hS.tail) ?_
        rintro v H' ⟨rfl, hS⟩
        simp only [hg, u_putst, hp4, ↓D0, ↓D1, ↓D2, ↓D3, ↓D4, ↓D5, ↓D6, ↓D7, ↓D8, ↓D9, U0, U1, U2, U3, U4, U5, U6, U7, U8, U9, U10, ↓reduceIte, Nat.reduceAdd, Nat.reduceMul, Nat.reduceSub, Nat.reduceEqDiff, Nat.reduceBEq, Nat.reduceLeDiff, Nat.reduceLT, Int.reduceAdd, Int.reduceMul, Int.reduceSub, Int.reduceLT, Int.reduceLE, Int.reduceToNat, Int.reduceEq, Int.reduceNe, Int.reduceBEq, Int.reduceBNe, ne_eq, eq_self]
        exact hS.tail.tail.tail.tail
    · have hb : (0 : Int) ≤ 2 ∧ (2 : Int) ≤ 4 ∧ (2 : Int) ≠ 3 := by decide
      have hA3 : A = 3 := beq_iff_eq.1 a3
      have hX : Ad.stX A = (putSt 3 2) := by unfold Ad.stX; rw [if_pos hA3]
      simp only [hx1, hy1, r2, i0, i1, eg0, eg1, et0, et1, wrap_w64, wq0, wq1, hA, hB, b3, a3, u_putst, ↓D0, ↓D1, ↓D2, ↓D3, ↓D4, ↓D5, ↓D6, ↓D7, ↓D8, ↓D9, U0, U1, U2, U3, U4, U5, U6, U7, U8, U9, U10, ↓reduceIte, Nat.reduceAdd, Nat.reduceMul, Nat.reduceSub, Nat.reduceEqDiff, Nat.reduceBEq, Nat.reduceLeDiff, Nat.reduceLT, Int.reduceAdd, Int.reduceMul, Int.reduceSub, Int.reduceLT, Int.reduceLE, Int.reduceToNat, Int.reduceEq, Int.reduceNe, Int.reduceBEq, Int.reduceBNe, ne_eq, eq_self]
      refine callT_of (c_put 1 (putSt 3 2) (by decide) (by omega) hS.p2.p2) ?_
      rintro v H' ⟨rfl, hS⟩
      simp only [u_putst, ↓D0, ↓D1, ↓D2, ↓D3, ↓D4, ↓D5, ↓D6, ↓D7, ↓D8, ↓D9, U0, U1, U2, U3, U4, U5, U6, U7, U8, U9, U10, ↓reduceIte, Nat.reduceAdd, Nat.reduceMul, Nat.reduceSub, Nat.reduceEqDiff, Nat.reduceBEq, Nat.reduceLeDiff, Nat.reduceLT, Int.reduceAdd, Int.reduceMul, Int.reduceSub, Int.reduceLT, Int.reduceLE, Int.reduceToNat, Int.reduceEq, Int.reduceNe, Int.reduceBEq, Int.reduceBNe, ne_eq, eq_self]
      refine callT_of (c_put 2 (putSt 2 0) (by decide) (by show (2 : Int) < ((rowW n ws).n : Int); omega) hS) ?_
      rintro v H' ⟨rfl, hS⟩
      simp only [↓D0, ↓D1, ↓D2, ↓D3, ↓D4, ↓D5, ↓D6, ↓D7, ↓D8, ↓D9, U0, U1, U2, U3, U4, U5, U6, U7, U8, U9, U10, ↓reduceIte, Nat.reduceAdd, Nat.reduceMul, Nat.reduceSub, Nat.reduceEqDiff, Nat.reduceBEq, Nat.reduceLeDiff, Nat.reduceLT, Int.reduceAdd, Int.reduceMul, Int.reduceSub, Int.reduceLT, Int.reduceLE, Int.reduceToNat, Int.reduceEq, Int.reduceNe, Int.reduceBEq, Int.reduceBNe, ne_eq, eq_self]
      have hof2 : (((rowW n ws).put 1 (putSt 3 2)).put 2 (putSt 2 0)).of sh := Wd.of_put (Wd.of_put hof (U_putSt ..) _) (U_putSt ..) _
      have hO := Ad.One.init (a := A) (b := 2) hm hof2 (by omega) ⟨by omega, by omega, hb.1, hb.2.1, hb.2.2⟩
        (by rw [get_put (by decide) (by decide), if_neg (by decide), get_put (by decide) (by decide), if_pos rfl, hX])
        (by rw [get_put (by decide) (by decide), if_pos rfl]) hst0
      have hl0 := as_left_le hO.wf.1 (by show 0 ≤ sh.p ∧ 0 ≤ sh.m; omega)
      have hl1 : (Ad.new sh 0 1).left ≤ 54 * sh.p + sh.m + 4 := hl0
      refine loop_intro (asI sh A 2 (putSt 3 2) x b k s (sg x (.cells #[.int .i64 sh.p, .int .i64 sh.c, .int .i64 sh.m] 25 (0, 0)) :: sg y (.cells #[.int .u8 g0, .int .u8 g1, .int .u8 g2] 96 (0, 0)) :: h :: l)) (fun F' _ => (60 * sh.p + sh.m + 20 - iv (gt F' 12)).toNat)
        ⟨0, _, _, by omega, by omega, by simp [gt], ⟨by simp [gt], by simp [gt], by simp [gt], by simp [gt], by simp [gt], by simp [gt]⟩, hO, by omega, hS.p3.p4.p5.p4.p4.p5⟩ ?_
      clear hS hx1 hy1 r0 r1 r2 hO hl0 hl1 hof2
      rintro F' H' ⟨i, t, w, h0, h1, e12, ⟨e3, e7, e8, e9, e10, e11⟩, hO, hl, hS⟩
      have hx1 := hS.lk 3 rfl
      have r0 := fun o => rd_of hx1 o
      by_cases hlt : i < 60 * sh.p + sh.m + 20
      · have d1 : decide (i < 60 * sh.p + sh.m + 20) = true := decide_eq_true hlt
        have wi : w64 (i + 1) = i + 1 := w64_eq (by omega) (by omega)
        simp only [e12, e3, e7, e8, e9, e10, e11, hx1, r0, wrap_w64, wm1, wm2, wm3, d1, ↓D0, ↓D1, ↓D2, ↓D3, ↓D4, ↓D5, ↓D6, ↓D7, ↓D8, ↓D9, U0, U1, U2, U3, U4, U5, U6, U7, U8, U9, U10, ↓reduceIte, Nat.reduceAdd, Nat.reduceMul, Nat.reduceSub, Nat.reduceEqDiff, Nat.reduceBEq, Nat.reduceLeDiff, Nat.reduceLT, Int.reduceAdd, Int.reduceMul, Int.reduceSub, Int.reduceLT, Int.reduceLE, Int.reduceToNat, Int.reduceEq, Int.reduceNe, Int.reduceBEq, Int.reduceBNe, ne_eq, eq_self]
        refine callT_of (c_adstep hO.wf.1 (fun _ => by rw [hO.wf.2.1]; exact hO.of) hS) ?_
        rintro v H' ⟨rfl, hS⟩
        simp only [e12, e3, e7, e8, e9, e10, e11, wrap_w64, wi, ↓D0, ↓D1, ↓D2, ↓D3, ↓D4, ↓D5, ↓D6, ↓D7, ↓D8, ↓D9, U0, U1, U2, U3, U4, U5, U6, U7, U8, U9, U10, ↓reduceIte, Nat.reduceAdd, Nat.reduceMul, Nat.reduceSub, Nat.reduceEqDiff, Nat.reduceBEq, Nat.reduceLeDiff, Nat.reduceLT, Int.reduceAdd, Int.reduceMul, Int.reduceSub, Int.reduceLT, Int.reduceLE, Int.reduceToNat, Int.reduceEq, Int.reduceNe, Int.reduceBEq, Int.reduceBNe, ne_eq, eq_self]
        refine ⟨⟨i + 1, _, _, by omega, by omega, by simp [gt], ⟨by simp [gt, e3], by simp [gt, e7], by simp [gt, e8], by simp [gt, e9], by simp [gt, e10], by simp [gt, e11]⟩, hO.step, ?_, hS⟩, by simp [gt, iv, e12]; omega⟩
        have := as_left (w := w) hO.wf.1 hl; omega
      have d1 : decide (i < 60 * sh.p + sh.m + 20) = false := decide_eq_false hlt
      have hd : t.dn = true := Ad.left_dn hO.wf.1 (by have := Ad.left_nn hO.wf.1; omega)
      have hfin := hO.fin hd
      have hwl2 := as_len hm (by omega) hO.of
      rw [hX] at hfin
      have a2' : (A == 2) = false := beq_eq_false_iff_ne.2 (by omega)
      have b1 : ((2 : Int) != 1) = true := rfl
      have hE : Ad.stE A 2 = 0 := by unfold Ad.stE; rw [if_pos (.inr ⟨hA3, by decide⟩)]
      obtain ⟨-, hr0, hg⟩ | ⟨hh, -⟩ := hfin
      rotate_left
      · exact absurd hE hh
      simp only [e12, e3, e7, e8, e9, e10, e11, hx1, r0, wrap_w64, wm1, wm2, wm3, d1, a2', a3, b1, ↓D0, ↓D1, ↓D2, ↓D3, ↓D4, ↓D5, ↓D6, ↓D7, ↓D8, ↓D9, U0, U1, U2, U3, U4, U5, U6, U7, U8, U9, U10, ↓reduceIte, Nat.reduceAdd, Nat.reduceMul, Nat.reduceSub, Nat.reduceEqDiff, Nat.reduceBEq, Nat.reduceLeDiff, Nat.reduceLT, Int.reduceAdd, Int.reduceMul, Int.reduceSub, Int.reduceLT, Int.reduceLE, Int.reduceToNat, Int.reduceEq, Int.reduceNe, Int.reduceBEq, Int.reduceBNe, ne_eq, eq_self]
      refine callT_of (c_addone hS) ?_
      rintro v H' ⟨rfl, hS⟩
      simp only [e12, e3, e7, e8, e9, e10, e11, hd, a2', a3, b1, ↓D0, ↓D1, ↓D2, ↓D3, ↓D4, ↓D5, ↓D6, ↓D7, ↓D8, ↓D9, U0, U1, U2, U3, U4, U5, U6, U7, U8, U9, U10, ↓reduceIte, Nat.reduceAdd, Nat.reduceMul, Nat.reduceSub, Nat.reduceEqDiff, Nat.reduceBEq, Nat.reduceLeDiff, Nat.reduceLT, Int.reduceAdd, Int.reduceMul, Int.reduceSub, Int.reduceLT, Int.reduceLE, Int.reduceToNat, Int.reduceEq, Int.reduceNe, Int.reduceBEq, Int.reduceBNe, ne_eq, eq_self]
      refine callT_of (c_aderr hS) ?_
      rintro v H' ⟨rfl, hS⟩
      simp only [e12, e3, e7, e8, e9, e10, e11, hr0, a2', a3, b1, ↓D0, ↓D1, ↓D2, ↓D3, ↓D4, ↓D5, ↓D6, ↓D7, ↓D8, ↓D9, U0, U1, U2, U3, U4, U5, U6, U7, U8, U9, U10, ↓reduceIte, Nat.reduceAdd, Nat.reduceMul, Nat.reduceSub, Nat.reduceEqDiff, Nat.reduceBEq, Nat.reduceLeDiff, Nat.reduceLT, Int.reduceAdd, Int.reduceMul, Int.reduceSub, Int.reduceLT, Int.reduceLE, Int.reduceToNat, Int.reduceEq, Int.reduceNe, Int.reduceBEq, Int.reduceBNe, ne_eq, eq_self]
      refine callT_of (c_look 1 (by decide) (by omega) hS.tail) ?_
      rintro v H' ⟨rfl, hS⟩
      simp only [hg, u_putst, hp4, ↓D0, ↓D1, ↓D2, ↓D3, ↓D4, ↓D5, ↓D6, ↓D7, ↓D8, ↓D9, U0, U1, U2, U3, U4, U5, U6, U7, U8, U9, U10, ↓reduceIte, Nat.reduceAdd, Nat.reduceMul, Nat.reduceSub, Nat.reduceEqDiff, Nat.reduceBEq, Nat.reduceLeDiff, Nat.reduceLT, Int.reduceAdd, Int.reduceMul, Int.reduceSub, Int.reduceLT, Int.reduceLE, Int.reduceToNat, Int.reduceEq, Int.reduceNe, Int.reduceBEq, Int.reduceBNe, ne_eq, eq_self]
      exact hS.tail.tail.tail.tail
end
theorem l_adoptstates {W : World} {a : Option Addr} {n cap : Nat} {ws : Nat → Int} (p q m : Int) (hp : -9223372036854775808 ≤ p ∧ p ≤ 9223372036854775807) (hq : -9223372036854775808 ≤ q ∧ q ≤ 9223372036854775807) (hm : -9223372036854775808 ≤ m ∧ m ≤ 9223372036854775807)
    (hn : n ≤ 9223372036854775807) (hr : RowU (memOf W) a n ws) (hU : ∀ i, i < n → IntKind.u64.has (ws i)) (g0 g1 g2 : Int) (h0 : 0 ≤ g0 ∧ g0 ≤ 255) (h1 : 0 ≤ g1 ∧ g1 ≤ 255) (h2 : 0 ≤ g2 ∧ g2 ≤ 255) :
    CallP Try.prog W 12 #[.agg #[.int .i64 p, .int .i64 q, .int .i64 m], .slice a n cap, .agg #[.int .u8 g0, .int .u8 g1, .int .u8 g2]] (memOf W) fun v H' => v = .bool true ∧ Sub (memOf W) H' :=
  (c_adoptstates ⟨p, q, m⟩ h0 h1 hr (fun i hi => u64_bd (hU i hi)) (Sep.one _)).mono fun v H' ⟨h1, h2⟩ => ⟨h1, h2.head⟩
end Go.Proofs.Ytbehnodllajnjaa
