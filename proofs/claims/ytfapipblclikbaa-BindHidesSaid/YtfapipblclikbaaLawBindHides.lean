/-
  BindHides, walked: while a page is bound nobody gets its first slot. Conditions: none.
-/
import Derived.Test.YtfapipblclikbaaBindK
import Derived.Test.YtfapipblclikbaaSlotK
import Derived.Test.YtfapipblclikbaaMaHide
import Derived.Test.YtfapipblclikbaaMaBd
import Derived.Test.YtfapipblclikbaaRowV
set_option linter.unusedVariables false
set_option linter.unusedSimpArgs false
set_option maxRecDepth 8000
namespace Go.Proofs.Ytfapipblclikbaa
open Go Go.Ev Go.Pl Go.Ma

section
variable {W : World} {H h : Hp} {l : List Hp} {n cap : Nat} {a : Option Addr} {B : Nat → Bool}

def bhG (k : Int) (n cap : Nat) (a : Option Addr) (z b ka kb : Nat) (F' : Fr) : Prop := gt F' 1 = .slice a n cap ∧ gt F' 5 = .int .i64 k ∧ gt F' 6 = .pointer (some ⟨z, 0, none⟩) ∧ gt F' 8 = .pointer (some ⟨b, 0, none⟩) ∧ gt F' 9 = .pointer (some ⟨ka, 0, none⟩) ∧ gt F' 10 = .pointer (some ⟨kb, 0, none⟩)
def bhI1 (k : Int) (n cap : Nat) (a : Option Addr) (z b ka kb s : Nat) (L : List Hp) (F' : Fr) (H' : Hp) : Prop :=
  ∃ (i : Int) (t : Bi) (u : Sc) (w : Wd), 0 ≤ i ∧ i ≤ 120 ∧ gt F' 11 = .int .i64 i ∧ bhG k n cap a z b ka kb F' ∧ HideInv k t u w ∧ u.Bd ∧ t.left ≤ max 0 32 ∧ u.left ≤ max 0 33 ∧ Sep (biB ka t :: scB kb u :: wB b s w :: wR s w :: L) H'
def bhI2 (k : Int) (n cap : Nat) (a : Option Addr) (z b ka kb s : Nat) (L : List Hp) (F' : Fr) (H' : Hp) : Prop :=
  ∃ (i : Int) (t : Bi) (u : Sc) (w : Wd), 0 ≤ i ∧ i ≤ 60 ∧ gt F' 15 = .int .i64 i ∧ bhG k n cap a z b ka kb F' ∧ HideInv k t u w ∧ u.Bd ∧ t.left ≤ max 0 (32 - i) ∧ u.left ≤ max 0 (33 - i) ∧ Sep (biB ka t :: scB kb u :: wB b s w :: wR s w :: L) H'
def bhI3 (k : Int) (w0 : Wd) (x17 x18 : Value) (b kc s : Nat) (L : List Hp) (F' : Fr) (H' : Hp) : Prop :=
  ∃ (i : Int) (t : Sc) (w : Wd), 0 ≤ i ∧ i ≤ 40 ∧ gt F' 20 = .int .i64 i ∧ gt F' 5 = .int .i64 k ∧ gt F' 8 = .pointer (some ⟨b, 0, none⟩) ∧ gt F' 19 = .pointer (some ⟨kc, 0, none⟩) ∧ gt F' 17 = x17 ∧ gt F' 18 = x18 ∧ Sc.Al sh3 2 k 0 w0 t w ∧ w.of sh3 ∧ t.Bd ∧ t.left ≤ max 0 (33 - i) ∧ Sep (scB kc t :: wB b s w :: wR s w :: L) H'
theorem c_bindhides {cc : Int} (h0 : 0 ≤ cc) (h1 : cc ≤ 255) (hr : RowV h a n (fun i => .bool (B i))) (hS : Sep (h :: l) H) :
    CallP Try.prog W 26 #[.int .u8 cc, .slice a n cap] H fun v H' => v = .bool true ∧ Sep (h :: l) H' := by
  refine CallP.of mixed Try.func26 tr26 (by show 2 ≤ _; decide) fun W _ => ?_
  simp only [↓D0, ↓D1, ↓D2, ↓D3, ↓D4, ↓D5, ↓D6, ↓D7, ↓D8, ↓D9, U0, U1, U2, U3, U4, U5, U6, U7, U8, U9, U10, ↓reduceIte, Nat.reduceAdd, Nat.reduceMul, Nat.reduceSub, Nat.reduceEqDiff, Nat.reduceBEq, Nat.reduceLeDiff, Nat.reduceLT, Int.reduceAdd, Int.reduceMul, Int.reduceSub, Int.reduceLT, Int.reduceLE, Int.reduceToNat, Int.reduceEq, Int.reduceNe, Int.reduceBEq, Int.reduceBNe, ne_eq, eq_self]
  refine callT_of (c_awake12 hS) ?_
  rintro v H' ⟨rfl, hS⟩
  have ec : w64 cc = cc := w64_eq (by omega) (by omega)
  have tc : cc.tmod 4 = cc % 4 := Int.tmod_eq_emod_of_nonneg h0
  obtain ⟨k, hk⟩ : ∃ k, cc % 4 = k := ⟨_, rfl⟩
  have k0 : 0 ≤ k := by omega
  have k3 : k ≤ 3 := by omega
  have wk : w64 k = k := w64_eq (by omega) (by omega)
  have e1 : words 1 3 0 = 20 := by decide
  simp only [wrap_w64, ec, tc, hk, wk, ↓D0, ↓D1, ↓D2, ↓D3, ↓D4, ↓D5, ↓D6, ↓D7, ↓D8, ↓D9, U0, U1, U2, U3, U4, U5, U6, U7, U8, U9, U10, ↓reduceIte, Nat.reduceAdd, Nat.reduceMul, Nat.reduceSub, Nat.reduceEqDiff, Nat.reduceBEq, Nat.reduceLeDiff, Nat.reduceLT, Int.reduceAdd, Int.reduceMul, Int.reduceSub, Int.reduceLT, Int.reduceLE, Int.reduceToNat, Int.reduceEq, Int.reduceNe, Int.reduceBEq, Int.reduceBNe, ne_eq, eq_self]
  refine newB_intro fun z hz f1 f2 => ?_
  have hS := hS.new f1 (.cells #[.int .i64 0, .int .i64 0, .int .i64 0] 57 (0, 0))
  have hS := hS.set (.cells #[.int .i64 1, .int .i64 3, .int .i64 0] 57 (0, 0))
  rw [Ev.upd_upd] at hS
  have hz1 := hS.look
  have rz := fun o n => rdn_of hz1 o n
  simp only [Ev.upd_upd, hz1, rz, u_words, e1, ↓D0, ↓D1, ↓D2, ↓D3, ↓D4, ↓D5, ↓D6, ↓D7, ↓D8, ↓D9, U0, U1, U2, U3, U4, U5, U6, U7, U8, U9, U10, ↓reduceIte, Nat.reduceAdd, Nat.reduceMul, Nat.reduceSub, Nat.reduceEqDiff, Nat.reduceBEq, Nat.reduceLeDiff, Nat.reduceLT, Int.reduceAdd, Int.reduceMul, Int.reduceSub, Int.reduceLT, Int.reduceLE, Int.reduceToNat, Int.reduceEq, Int.reduceNe, Int.reduceBEq, Int.reduceBNe, ne_eq, eq_self]
  refine newB_intro fun q hq f3 f4 => ?_
  have hS2 := hS.new f3 (.cells (urow 20 fun _ => 0) 26 (0, 0))
  have nzq := hS2.qen 0 1 (by decide) rfl rfl
  have nqz := hS2.neq 0 1 (by decide) rfl rfl
  have hS3 := hS2.set (.cells (urow 20 fun j => if j = 3 then putPg 1 0 0 else 0) 26 (0, 0))
  rw [Ev.upd_upd] at hS3
  simp only [nzq, nqz, urow_zero, urow_set, urow_size, u_putpg, Ev.upd_upd, ↓D0, ↓D1, ↓D2, ↓D3, ↓D4, ↓D5, ↓D6, ↓D7, ↓D8, ↓D9, U0, U1, U2, U3, U4, U5, U6, U7, U8, U9, U10, ↓reduceIte, Nat.reduceAdd, Nat.reduceMul, Nat.reduceSub, Nat.reduceEqDiff, Nat.reduceBEq, Nat.reduceLeDiff, Nat.reduceLT, Int.reduceAdd, Int.reduceMul, Int.reduceSub, Int.reduceLT, Int.reduceLE, Int.reduceToNat, Int.reduceEq, Int.reduceNe, Int.reduceBEq, Int.reduceBNe, ne_eq, eq_self]
  refine callT_of (c_fill (n := 20) (by decide) (RowU.own q 20 _ _ _) hS3) ?_
  rintro v H' ⟨b, s, rfl, hS⟩
  have hS := hS.p2.tail
  obtain ⟨w0, hw0⟩ : ∃ w0, w0 = rowW 20 (fun j => if j = 3 then putPg 1 0 0 else 0) := ⟨_, rfl⟩
  rw [← hw0] at hS
  have hof0 : w0.of sh3 := by rw [hw0]; exact ⟨by show ((20 : Nat) : Int) = words 1 3 0; decide, fun i => U_row _ (fun j => by split; exact U_putPg ..; exact U_0) i⟩
  have hp0 : w0.get 3 = held 0 := by rw [hw0]; rfl
  have hz1 := hS.lk 2 rfl
  have rz := fun o n => rdn_of hz1 o n
  simp only [↓D0, ↓D1, ↓D2, ↓D3, ↓D4, ↓D5, ↓D6, ↓D7, ↓D8, ↓D9, U0, U1, U2, U3, U4, U5, U6, U7, U8, U9, U10, ↓reduceIte, Nat.reduceAdd, Nat.reduceMul, Nat.reduceSub, Nat.reduceEqDiff, Nat.reduceBEq, Nat.reduceLeDiff, Nat.reduceLT, Int.reduceAdd, Int.reduceMul, Int.reduceSub, Int.reduceLT, Int.reduceLE, Int.reduceToNat, Int.reduceEq, Int.reduceNe, Int.reduceBEq, Int.reduceBNe, ne_eq, eq_self]
  refine draw_intro [(z, #[.int .i64 1, .int .i64 3, .int .i64 0], [])] (by simp only [hz1, ↓D0, ↓D1, ↓D2, ↓D3, ↓D4, ↓D5, ↓D6, ↓D7, ↓D8, ↓D9, U0, U1, U2, U3, U4, U5, U6, U7, U8, U9, U10, ↓reduceIte, Nat.reduceAdd, Nat.reduceMul, Nat.reduceSub, Nat.reduceEqDiff, Nat.reduceBEq, Nat.reduceLeDiff, Nat.reduceLT, Int.reduceAdd, Int.reduceMul, Int.reduceSub, Int.reduceLT, Int.reduceLE, Int.reduceToNat, Int.reduceEq, Int.reduceNe, Int.reduceBEq, Int.reduceBNe, ne_eq, eq_self]) ?_
  simp only [hz1, rz, ↓D0, ↓D1, ↓D2, ↓D3, ↓D4, ↓D5, ↓D6, ↓D7, ↓D8, ↓D9, U0, U1, U2, U3, U4, U5, U6, U7, U8, U9, U10, ↓reduceIte, Nat.reduceAdd, Nat.reduceMul, Nat.reduceSub, Nat.reduceEqDiff, Nat.reduceBEq, Nat.reduceLeDiff, Nat.reduceLT, Int.reduceAdd, Int.reduceMul, Int.reduceSub, Int.reduceLT, Int.reduceLE, Int.reduceToNat, Int.reduceEq, Int.reduceNe, Int.reduceBEq, Int.reduceBNe, ne_eq, eq_self]
  refine callT_of (c_binew (sh := sh3) hS) ?_
  rintro v H' ⟨ka, rfl, hS⟩
  have hz1 := hS.lk 3 rfl
  simp only [hz1, ↓D0, ↓D1, ↓D2, ↓D3, ↓D4, ↓D5, ↓D6, ↓D7, ↓D8, ↓D9, U0, U1, U2, U3, U4, U5, U6, U7, U8, U9, U10, ↓reduceIte, Nat.reduceAdd, Nat.reduceMul, Nat.reduceSub, Nat.reduceEqDiff, Nat.reduceBEq, Nat.reduceLeDiff, Nat.reduceLT, Int.reduceAdd, Int.reduceMul, Int.reduceSub, Int.reduceLT, Int.reduceLE, Int.reduceToNat, Int.reduceEq, Int.reduceNe, Int.reduceBEq, Int.reduceBNe, ne_eq, eq_self]
  refine callT_of (c_scnew (sh := sh3) hS) ?_
  rintro v H' ⟨kb, rfl, hS⟩
  have hz1 := hS.lk 4 rfl
  simp only [hz1, ↓D0, ↓D1, ↓D2, ↓D3, ↓D4, ↓D5, ↓D6, ↓D7, ↓D8, ↓D9, U0, U1, U2, U3, U4, U5, U6, U7, U8, U9, U10, ↓reduceIte, Nat.reduceAdd, Nat.reduceMul, Nat.reduceSub, Nat.reduceEqDiff, Nat.reduceBEq, Nat.reduceLeDiff, Nat.reduceLT, Int.reduceAdd, Int.reduceMul, Int.reduceSub, Int.reduceLT, Int.reduceLE, Int.reduceToNat, Int.reduceEq, Int.reduceNe, Int.reduceBEq, Int.reduceBNe, ne_eq, eq_self]
  have hI0 := HideInv.start hof0 ⟨k0, k3⟩ hp0
  have la := Bi.new_left sh3 0 0 k
  have lb := Sc.left_le (Sc.new_wf sh3 1 k 0) (by show (0 : Int) ≤ 1; decide)
  have lb : (Sc.new sh3 1 k 0).left ≤ 33 * 1 := lb
  refine loop_intro (bhI1 k n cap a z b ka kb s (sg z (.cells #[.int .i64 1, .int .i64 3, .int .i64 0] 57 (0, 0)) :: h :: l)) (fun F' _ => (120 - iv (gt F' 11)).toNat)
    ⟨0, _, _, _, by omega, by omega, rfl, ⟨rfl, rfl, rfl, rfl, rfl, rfl⟩, hI0, Sc.Bd.new (by decide) (by decide) (by decide), by omega, by omega, hS.p1⟩ ?_
  rintro F' H' ⟨i, t, u, w, i0, i1, e11, ⟨e1', e5, e6, e8, e9, e10⟩, hI, hB, l1, l2, hS⟩
  by_cases hlt : i < 120
  · have d1 : decide (i < 120) = true := decide_eq_true hlt
    have wi : w64 (i + 1) = i + 1 := w64_eq (by omega) (by omega)
    obtain ⟨ta, tsa, -⟩ := hI.ha
    obtain ⟨tb, tsb, -⟩ := hI.hb
    have go : ∀ (t2 : Bi) (u2 : Sc) (w2 : Wd), HideInv k t2 u2 w2 → u2.Bd → t2.left ≤ max 0 32 → u2.left ≤ max 0 33 → u2.fd = true → (u2.i == 0) = false := fun t2 u2 w2 hI2 _ _ _ hf => by
      obtain ⟨-, q2, q3, -, -⟩ := hI2.fd hf
      have := (hI2.two q2).1
      exact beq_eq_false_iff_ne.2 (by omega)
    have l1' := Bi.left_step (w := w) ta l1
    have l2' := Sc.left_step (w := w) tb l2
    cases hturn : (decide (i < (n : Int)) && B i.toNat)
    · have hgo := go _ _ _ hI.stepA hB (by omega) l2
      cases hd : decide (i < (n : Int))
      · simp only [e11, e1', e5, e6, e8, e9, e10, d1, hd, ↓D0, ↓D1, ↓D2, ↓D3, ↓D4, ↓D5, ↓D6, ↓D7, ↓D8, ↓D9, U0, U1, U2, U3, U4, U5, U6, U7, U8, U9, U10, ↓reduceIte, Nat.reduceAdd, Nat.reduceMul, Nat.reduceSub, Nat.reduceEqDiff, Nat.reduceBEq, Nat.reduceLeDiff, Nat.reduceLT, Int.reduceAdd, Int.reduceMul, Int.reduceSub, Int.reduceLT, Int.reduceLE, Int.reduceToNat, Int.reduceEq, Int.reduceNe, Int.reduceBEq, Int.reduceBNe, ne_eq, eq_self]
        refine callT_of (c_bistep ta (fun _ => by rw [tsa]; exact hI.of) hS.p1.r3) ?_
        rintro v H' ⟨rfl, hS⟩
        simp only [e11, e1', e5, e6, e8, e9, e10, ↓D0, ↓D1, ↓D2, ↓D3, ↓D4, ↓D5, ↓D6, ↓D7, ↓D8, ↓D9, U0, U1, U2, U3, U4, U5, U6, U7, U8, U9, U10, ↓reduceIte, Nat.reduceAdd, Nat.reduceMul, Nat.reduceSub, Nat.reduceEqDiff, Nat.reduceBEq, Nat.reduceLeDiff, Nat.reduceLT, Int.reduceAdd, Int.reduceMul, Int.reduceSub, Int.reduceLT, Int.reduceLE, Int.reduceToNat, Int.reduceEq, Int.reduceNe, Int.reduceBEq, Int.reduceBNe, ne_eq, eq_self]
        refine callT_of (c_scfound (fun _ => hB.fd) hS.p3) ?_
        rintro v H' ⟨rfl, hS⟩
        cases hf : u.fd
        · simp only [e11, e1', e5, e6, e8, e9, e10, hf, wrap_w64, wi, ↓D0, ↓D1, ↓D2, ↓D3, ↓D4, ↓D5, ↓D6, ↓D7, ↓D8, ↓D9, U0, U1, U2, U3, U4, U5, U6, U7, U8, U9, U10, ↓reduceIte, Nat.reduceAdd, Nat.reduceMul, Nat.reduceSub, Nat.reduceEqDiff, Nat.reduceBEq, Nat.reduceLeDiff, Nat.reduceLT, Int.reduceAdd, Int.reduceMul, Int.reduceSub, Int.reduceLT, Int.reduceLE, Int.reduceToNat, Int.reduceEq, Int.reduceNe, Int.reduceBEq, Int.reduceBNe, ne_eq, eq_self]
          exact ⟨⟨i + 1, _, _, _, by omega, by omega, by simp [gt], ⟨by simp [gt, e1'], by simp [gt, e5], by simp [gt, e6], by simp [gt, e8], by simp [gt, e9], by simp [gt, e10]⟩, hI.stepA, hB, by omega, l2, hS.p1⟩, by simp [gt, iv, e11]; omega⟩
        · have hne := hgo hf
          simp only [e11, e1', e5, e6, e8, e9, e10, hf, hne, wrap_w64, wi, ↓D0, ↓D1, ↓D2, ↓D3, ↓D4, ↓D5, ↓D6, ↓D7, ↓D8, ↓D9, U0, U1, U2, U3, U4, U5, U6, U7, U8, U9, U10, ↓reduceIte, Nat.reduceAdd, Nat.reduceMul, Nat.reduceSub, Nat.reduceEqDiff, Nat.reduceBEq, Nat.reduceLeDiff, Nat.reduceLT, Int.reduceAdd, Int.reduceMul, Int.reduceSub, Int.reduceLT, Int.reduceLE, Int.reduceToNat, Int.reduceEq, Int.reduceNe, Int.reduceBEq, Int.reduceBNe, ne_eq, eq_self]
          exact ⟨⟨i + 1, _, _, _, by omega, by omega, by simp [gt], ⟨by simp [gt, e1'], by simp [gt, e5], by simp [gt, e6], by simp [gt, e8], by simp [gt, e9], by simp [gt, e10]⟩, hI.stepA, hB, by omega, l2, hS.p1⟩, by simp [gt, iv, e11]; omega⟩
      · have hlt2 : i < (n : Int) := of_decide_eq_true hd
        have hBf : B i.toNat = false := by rw [hd] at hturn; simpa using hturn
        obtain ⟨xb, xo, rfl, hrd⟩ := (hr.sub (hS.sb h (by simp))).at' (i := i.toNat) (by omega)
        rw [hBf] at hrd
        simp only [e11, e1', e5, e6, e8, e9, e10, d1, hd, i0, hlt2, hrd, ↓D0, ↓D1, ↓D2, ↓D3, ↓D4, ↓D5, ↓D6, ↓D7, ↓D8, ↓D9, U0, U1, U2, U3, U4, U5, U6, U7, U8, U9, U10, ↓reduceIte, Nat.reduceAdd, Nat.reduceMul, Nat.reduceSub, Nat.reduceEqDiff, Nat.reduceBEq, Nat.reduceLeDiff, Nat.reduceLT, Int.reduceAdd, Int.reduceMul, Int.reduceSub, Int.reduceLT, Int.reduceLE, Int.reduceToNat, Int.reduceEq, Int.reduceNe, Int.reduceBEq, Int.reduceBNe, ne_eq, eq_self]
        refine callT_of (c_bistep ta (fun _ => by rw [tsa]; exact hI.of) hS.p1.r3) ?_
        rintro v H' ⟨rfl, hS⟩
        simp only [e11, e1', e5, e6, e8, e9, e10, ↓D0, ↓D1, ↓D2, ↓D3, ↓D4, ↓D5, ↓D6, ↓D7, ↓D8, ↓D9, U0, U1, U2, U3, U4, U5, U6, U7, U8, U9, U10, ↓reduceIte, Nat.reduceAdd, Nat.reduceMul, Nat.reduceSub, Nat.reduceEqDiff, Nat.reduceBEq, Nat.reduceLeDiff, Nat.reduceLT, Int.reduceAdd, Int.reduceMul, Int.reduceSub, Int.reduceLT, Int.reduceLE, Int.reduceToNat, Int.reduceEq, Int.reduceNe, Int.reduceBEq, Int.reduceBNe, ne_eq, eq_self]
        refine callT_of (c_scfound (fun _ => hB.fd) hS.p3) ?_
        rintro v H' ⟨rfl, hS⟩
        cases hf : u.fd
        · simp only [e11, e1', e5, e6, e8, e9, e10, hf, wrap_w64, wi, ↓D0, ↓D1, ↓D2, ↓D3, ↓D4, ↓D5, ↓D6, ↓D7, ↓D8, ↓D9, U0, U1, U2, U3, U4, U5, U6, U7, U8, U9, U10, ↓reduceIte, Nat.reduceAdd, Nat.reduceMul, Nat.reduceSub, Nat.reduceEqDiff, Nat.reduceBEq, Nat.reduceLeDiff, Nat.reduceLT, Int.reduceAdd, Int.reduceMul, Int.reduceSub, Int.reduceLT, Int.reduceLE, Int.reduceToNat, Int.reduceEq, Int.reduceNe, Int.reduceBEq, Int.reduceBNe, ne_eq, eq_self]
          exact ⟨⟨i + 1, _, _, _, by omega, by omega, by simp [gt], ⟨by simp [gt, e1'], by simp [gt, e5], by simp [gt, e6], by simp [gt, e8], by simp [gt, e9], by simp [gt, e10]⟩, hI.stepA, hB, by omega, l2, hS.p1⟩, by simp [gt, iv, e11]; omega⟩
        · have hne := hgo hf
          simp only [e11, e1', e5, e6, e8, e9, e10, hf, hne, wrap_w64, wi, ↓D0, ↓D1, ↓D2, ↓D3, ↓D4, ↓D5, ↓D6, ↓D7, ↓D8, ↓D9, U0, U1, U2, U3, U4, U5, U6, U7, U8, U9, U10, ↓reduceIte, Nat.reduceAdd, Nat.reduceMul, Nat.reduceSub, Nat.reduceEqDiff, Nat.reduceBEq, Nat.reduceLeDiff, Nat.reduceLT, Int.reduceAdd, Int.reduceMul, Int.reduceSub, Int.reduceLT, Int.reduceLE, Int.reduceToNat, Int.reduceEq, Int.reduceNe, Int.reduceBEq, Int.reduceBNe, ne_eq, eq_self]
          exact ⟨⟨i + 1, _, _, _, by omega, by omega, by simp [gt], ⟨by simp [gt, e1'], by simp [gt, e5], by simp [gt, e6], by simp [gt, e8], by simp [gt, e9], by simp [gt, e10]⟩, hI.stepA, hB, by omega, l2, hS.p1⟩, by simp [gt, iv, e11]; omega⟩
    · rw [Bool.and_eq_true] at hturn
      obtain ⟨hd, hBt⟩ := hturn
      have hlt2 : i < (n : Int) := of_decide_eq_true hd
      obtain ⟨xb, xo, rfl, hrd⟩ := (hr.sub (hS.sb h (by simp))).at' (i := i.toNat) (by omega)
      rw [hBt] at hrd
      have hB2 := hB.step (w := w) tb
      have hgo := go _ _ _ hI.stepB hB2 l1 (by omega)
      simp only [e11, e1', e5, e6, e8, e9, e10, d1, hd, i0, hlt2, hrd, ↓D0, ↓D1, ↓D2, ↓D3, ↓D4, ↓D5, ↓D6, ↓D7, ↓D8, ↓D9, U0, U1, U2, U3, U4, U5, U6, U7, U8, U9, U10, ↓reduceIte, Nat.reduceAdd, Nat.reduceMul, Nat.reduceSub, Nat.reduceEqDiff, Nat.reduceBEq, Nat.reduceLeDiff, Nat.reduceLT, Int.reduceAdd, Int.reduceMul, Int.reduceSub, Int.reduceLT, Int.reduceLE, Int.reduceToNat, Int.reduceEq, Int.reduceNe, Int.reduceBEq, Int.reduceBNe, ne_eq, eq_self]
      refine callT_of (c_scstep tb (fun _ => by rw [tsb]; exact hI.of) hS.r3) ?_
      rintro v H' ⟨rfl, hS⟩
      simp only [e11, e1', e5, e6, e8, e9, e10, ↓D0, ↓D1, ↓D2, ↓D3, ↓D4, ↓D5, ↓D6, ↓D7, ↓D8, ↓D9, U0, U1, U2, U3, U4, U5, U6, U7, U8, U9, U10, ↓reduceIte, Nat.reduceAdd, Nat.reduceMul, Nat.reduceSub, Nat.reduceEqDiff, Nat.reduceBEq, Nat.reduceLeDiff, Nat.reduceLT, Int.reduceAdd, Int.reduceMul, Int.reduceSub, Int.reduceLT, Int.reduceLE, Int.reduceToNat, Int.reduceEq, Int.reduceNe, Int.reduceBEq, Int.reduceBNe, ne_eq, eq_self]
      refine callT_of (c_scfound (fun _ => hB2.fd) hS) ?_
      rintro v H' ⟨rfl, hS⟩
      cases hf : (u.step w).1.fd
      · simp only [e11, e1', e5, e6, e8, e9, e10, hf, wrap_w64, wi, ↓D0, ↓D1, ↓D2, ↓D3, ↓D4, ↓D5, ↓D6, ↓D7, ↓D8, ↓D9, U0, U1, U2, U3, U4, U5, U6, U7, U8, U9, U10, ↓reduceIte, Nat.reduceAdd, Nat.reduceMul, Nat.reduceSub, Nat.reduceEqDiff, Nat.reduceBEq, Nat.reduceLeDiff, Nat.reduceLT, Int.reduceAdd, Int.reduceMul, Int.reduceSub, Int.reduceLT, Int.reduceLE, Int.reduceToNat, Int.reduceEq, Int.reduceNe, Int.reduceBEq, Int.reduceBNe, ne_eq, eq_self]
        exact ⟨⟨i + 1, _, _, _, by omega, by omega, by simp [gt], ⟨by simp [gt, e1'], by simp [gt, e5], by simp [gt, e6], by simp [gt, e8], by simp [gt, e9], by simp [gt, e10]⟩, hI.stepB, hB2, l1, by omega, hS.p3⟩, by simp [gt, iv, e11]; omega⟩
      · have hne := hgo hf
        simp only [e11, e1', e5, e6, e8, e9, e10, hf, hne, wrap_w64, wi, ↓D0, ↓D1, ↓D2, ↓D3, ↓D4, ↓D5, ↓D6, ↓D7, ↓D8, ↓D9, U0, U1, U2, U3, U4, U5, U6, U7, U8, U9, U10, ↓reduceIte, Nat.reduceAdd, Nat.reduceMul, Nat.reduceSub, Nat.reduceEqDiff, Nat.reduceBEq, Nat.reduceLeDiff, Nat.reduceLT, Int.reduceAdd, Int.reduceMul, Int.reduceSub, Int.reduceLT, Int.reduceLE, Int.reduceToNat, Int.reduceEq, Int.reduceNe, Int.reduceBEq, Int.reduceBNe, ne_eq, eq_self]
        exact ⟨⟨i + 1, _, _, _, by omega, by omega, by simp [gt], ⟨by simp [gt, e1'], by simp [gt, e5], by simp [gt, e6], by simp [gt, e8], by simp [gt, e9], by simp [gt, e10]⟩, hI.stepB, hB2, l1, by omega, hS.p3⟩, by simp [gt, iv, e11]; omega⟩
  have d1 : decide (i < 120) = false := decide_eq_false hlt
  simp only [e11, e1', e5, e6, e8, e9, e10, d1, ↓D0, ↓D1, ↓D2, ↓D3, ↓D4, ↓D5, ↓D6, ↓D7, ↓D8, ↓D9, U0, U1, U2, U3, U4, U5, U6, U7, U8, U9, U10, ↓reduceIte, Nat.reduceAdd, Nat.reduceMul, Nat.reduceSub, Nat.reduceEqDiff, Nat.reduceBEq, Nat.reduceLeDiff, Nat.reduceLT, Int.reduceAdd, Int.reduceMul, Int.reduceSub, Int.reduceLT, Int.reduceLE, Int.reduceToNat, Int.reduceEq, Int.reduceNe, Int.reduceBEq, Int.reduceBNe, ne_eq, eq_self]
  refine loop_intro (bhI2 k n cap a z b ka kb s (sg z (.cells #[.int .i64 1, .int .i64 3, .int .i64 0] 57 (0, 0)) :: h :: l)) (fun F' _ => (60 - iv (gt F' 15)).toNat)
    ⟨0, t, u, w, by omega, by omega, by simp [gt], ⟨by simp [gt, e1'], by simp [gt, e5], by simp [gt, e6], by simp [gt, e8], by simp [gt, e9], by simp [gt, e10]⟩, hI, hB, by omega, by omega, hS⟩ ?_
  rintro F' H' ⟨i, t, u, w, i0, i1, e15, ⟨e1', e5, e6, e8, e9, e10⟩, hI, hB, l1, l2, hS⟩
  obtain ⟨ta, tsa, -⟩ := hI.ha
  obtain ⟨tb, tsb, -⟩ := hI.hb
  by_cases hlt : i < 60
  · have d1 : decide (i < 60) = true := decide_eq_true hlt
    have wi : w64 (i + 1) = i + 1 := w64_eq (by omega) (by omega)
    have l1' := Bi.left_step (w := w) ta l1
    have hI2 := hI.stepA
    have l2' := Sc.left_step (w := (t.step w).2) tb l2
    have hB2 := hB.step (w := (t.step w).2) tb
    simp only [e15, e1', e5, e6, e8, e9, e10, d1, ↓D0, ↓D1, ↓D2, ↓D3, ↓D4, ↓D5, ↓D6, ↓D7, ↓D8, ↓D9, U0, U1, U2, U3, U4, U5, U6, U7, U8, U9, U10, ↓reduceIte, Nat.reduceAdd, Nat.reduceMul, Nat.reduceSub, Nat.reduceEqDiff, Nat.reduceBEq, Nat.reduceLeDiff, Nat.reduceLT, Int.reduceAdd, Int.reduceMul, Int.reduceSub, Int.reduceLT, Int.reduceLE, Int.reduceToNat, Int.reduceEq, Int.reduceNe, Int.reduceBEq, Int.reduceBNe, ne_eq, eq_self]
    refine callT_of (c_bistep ta (fun _ => by rw [tsa]; exact hI.of) hS.p1.r3) ?_
    rintro v H' ⟨rfl, hS⟩
    simp only [e15, e1', e5, e6, e8, e9, e10, ↓D0, ↓D1, ↓D2, ↓D3, ↓D4, ↓D5, ↓D6, ↓D7, ↓D8, ↓D9, U0, U1, U2, U3, U4, U5, U6, U7, U8, U9, U10, ↓reduceIte, Nat.reduceAdd, Nat.reduceMul, Nat.reduceSub, Nat.reduceEqDiff, Nat.reduceBEq, Nat.reduceLeDiff, Nat.reduceLT, Int.reduceAdd, Int.reduceMul, Int.reduceSub, Int.reduceLT, Int.reduceLE, Int.reduceToNat, Int.reduceEq, Int.reduceNe, Int.reduceBEq, Int.reduceBNe, ne_eq, eq_self]
    refine callT_of (c_scstep tb (fun _ => by rw [tsb]; exact hI2.of) hS.p3.p1.r3) ?_
    rintro v H' ⟨rfl, hS⟩
    simp only [e15, e1', e5, e6, e8, e9, e10, wrap_w64, wi, ↓D0, ↓D1, ↓D2, ↓D3, ↓D4, ↓D5, ↓D6, ↓D7, ↓D8, ↓D9, U0, U1, U2, U3, U4, U5, U6, U7, U8, U9, U10, ↓reduceIte, Nat.reduceAdd, Nat.reduceMul, Nat.reduceSub, Nat.reduceEqDiff, Nat.reduceBEq, Nat.reduceLeDiff, Nat.reduceLT, Int.reduceAdd, Int.reduceMul, Int.reduceSub, Int.reduceLT, Int.reduceLE, Int.reduceToNat, Int.reduceEq, Int.reduceNe, Int.reduceBEq, Int.reduceBNe, ne_eq, eq_self]
    exact ⟨⟨i + 1, _, _, _, by omega, by omega, by simp [gt], ⟨by simp [gt, e1'], by simp [gt, e5], by simp [gt, e6], by simp [gt, e8], by simp [gt, e9], by simp [gt, e10]⟩, hI2.stepB, hB2, by omega, by omega, hS.p3⟩, by simp [gt, iv, e15]; omega⟩
  have d1 : decide (i < 60) = false := decide_eq_false hlt
  have dA : t.dn = true := Bi.left_dn ta (by have := Bi.left_nn ta; omega)
  have dB : u.dn = true := Sc.left_dn tb (by have := Sc.left_nn tb; omega)
  simp only [e15, e1', e5, e6, e8, e9, e10, d1, ↓D0, ↓D1, ↓D2, ↓D3, ↓D4, ↓D5, ↓D6, ↓D7, ↓D8, ↓D9, U0, U1, U2, U3, U4, U5, U6, U7, U8, U9, U10, ↓reduceIte, Nat.reduceAdd, Nat.reduceMul, Nat.reduceSub, Nat.reduceEqDiff, Nat.reduceBEq, Nat.reduceLeDiff, Nat.reduceLT, Int.reduceAdd, Int.reduceMul, Int.reduceSub, Int.reduceLT, Int.reduceLE, Int.reduceToNat, Int.reduceEq, Int.reduceNe, Int.reduceBEq, Int.reduceBNe, ne_eq, eq_self]
  refine callT_of (c_scfound (fun _ => hB.fd) hS.p1) ?_
  rintro v H' ⟨rfl, hS⟩
  simp only [e15, e1', e5, e6, e8, e9, e10, ↓D0, ↓D1, ↓D2, ↓D3, ↓D4, ↓D5, ↓D6, ↓D7, ↓D8, ↓D9, U0, U1, U2, U3, U4, U5, U6, U7, U8, U9, U10, ↓reduceIte, Nat.reduceAdd, Nat.reduceMul, Nat.reduceSub, Nat.reduceEqDiff, Nat.reduceBEq, Nat.reduceLeDiff, Nat.reduceLT, Int.reduceAdd, Int.reduceMul, Int.reduceSub, Int.reduceLT, Int.reduceLE, Int.reduceToNat, Int.reduceEq, Int.reduceNe, Int.reduceBEq, Int.reduceBNe, ne_eq, eq_self]
  refine callT_of (c_bidone hS.p1) ?_
  rintro v H' ⟨rfl, hS⟩
  simp only [e15, e1', e5, e6, e8, e9, e10, dA, ↓D0, ↓D1, ↓D2, ↓D3, ↓D4, ↓D5, ↓D6, ↓D7, ↓D8, ↓D9, U0, U1, U2, U3, U4, U5, U6, U7, U8, U9, U10, ↓reduceIte, Nat.reduceAdd, Nat.reduceMul, Nat.reduceSub, Nat.reduceEqDiff, Nat.reduceBEq, Nat.reduceLeDiff, Nat.reduceLT, Int.reduceAdd, Int.reduceMul, Int.reduceSub, Int.reduceLT, Int.reduceLE, Int.reduceToNat, Int.reduceEq, Int.reduceNe, Int.reduceBEq, Int.reduceBNe, ne_eq, eq_self]
  refine callT_of (c_scdone hS.p1) ?_
  rintro v H' ⟨rfl, hS⟩
  have hne : u.fd = true → (u.i == 0) = false := fun hf => by
    obtain ⟨-, q2, q3, -, -⟩ := hI.fd hf
    have := (hI.two q2).1
    exact beq_eq_false_iff_ne.2 (by omega)
  have hS := hS.r3.r2
  have hz1 := hS.lk 4 rfl
  have rz := fun o n => rdn_of hz1 o n
  have hnd3 : (Sc.new sh3 2 k 0).dn = false := by
    rcases (by omega : k = 0 ∨ k = 1 ∨ k = 2 ∨ k = 3) with rfl | rfl | rfl | rfl <;> decide
  have hA0 : Sc.Al sh3 2 k 0 w (Sc.new sh3 2 k 0) w := Sc.Al.start (Sc.new_wf sh3 2 k 0) hnd3 rfl rfl rfl rfl
  have lc := Sc.left_le (Sc.new_wf sh3 2 k 0) (by show (0 : Int) ≤ 1; decide)
  have lc : (Sc.new sh3 2 k 0).left ≤ 33 * 1 := lc
  cases hf : u.fd
  · skip
    simp only [e15, e1', e5, e6, e8, e9, e10, dB, hf, hz1, rz, ↓D0, ↓D1, ↓D2, ↓D3, ↓D4, ↓D5, ↓D6, ↓D7, ↓D8, ↓D9, U0, U1, U2, U3, U4, U5, U6, U7, U8, U9, U10, ↓reduceIte, Nat.reduceAdd, Nat.reduceMul, Nat.reduceSub, Nat.reduceEqDiff, Nat.reduceBEq, Nat.reduceLeDiff, Nat.reduceLT, Int.reduceAdd, Int.reduceMul, Int.reduceSub, Int.reduceLT, Int.reduceLE, Int.reduceToNat, Int.reduceEq, Int.reduceNe, Int.reduceBEq, Int.reduceBNe, ne_eq, eq_self]
    refine callT_of (c_scnew (sh := sh3) hS) ?_
    rintro v H' ⟨kc, rfl, hS⟩
    simp only [e15, e1', e5, e6, e8, e9, e10, ↓D0, ↓D1, ↓D2, ↓D3, ↓D4, ↓D5, ↓D6, ↓D7, ↓D8, ↓D9, U0, U1, U2, U3, U4, U5, U6, U7, U8, U9, U10, ↓reduceIte, Nat.reduceAdd, Nat.reduceMul, Nat.reduceSub, Nat.reduceEqDiff, Nat.reduceBEq, Nat.reduceLeDiff, Nat.reduceLT, Int.reduceAdd, Int.reduceMul, Int.reduceSub, Int.reduceLT, Int.reduceLE, Int.reduceToNat, Int.reduceEq, Int.reduceNe, Int.reduceBEq, Int.reduceBNe, ne_eq, eq_self]
    refine loop_intro (bhI3 k w (.int .i64 0) (.bool false) b kc s (biB ka t :: scB kb u :: sg z (.cells #[.int .i64 1, .int .i64 3, .int .i64 0] 57 (0, 0)) :: h :: l)) (fun F' _ => (40 - iv (gt F' 20)).toNat)
      ⟨0, _, _, by omega, by omega, by simp [gt], by simp [gt, e5], by simp [gt, e8], by simp [gt], by simp [gt], by simp [gt], hA0, hI.of, Sc.Bd.new (by decide) (by decide) (by decide), by omega, hS⟩ ?_
    rintro F' H' ⟨j, c, w2, j0, j1, e20, e5, e8, e19, e17, e18, hA, hof2, hcB, hl3, hS⟩
    by_cases hjl : j < 40
    · have d1 : decide (j < 40) = true := decide_eq_true hjl
      have wj : w64 (j + 1) = j + 1 := w64_eq (by omega) (by omega)
      have l3' := Sc.left_step (w := w2) hA.wf hl3
      simp only [e20, e5, e8, e19, e17, e18, d1, ↓D0, ↓D1, ↓D2, ↓D3, ↓D4, ↓D5, ↓D6, ↓D7, ↓D8, ↓D9, U0, U1, U2, U3, U4, U5, U6, U7, U8, U9, U10, ↓reduceIte, Nat.reduceAdd, Nat.reduceMul, Nat.reduceSub, Nat.reduceEqDiff, Nat.reduceBEq, Nat.reduceLeDiff, Nat.reduceLT, Int.reduceAdd, Int.reduceMul, Int.reduceSub, Int.reduceLT, Int.reduceLE, Int.reduceToNat, Int.reduceEq, Int.reduceNe, Int.reduceBEq, Int.reduceBNe, ne_eq, eq_self]
      refine callT_of (c_scstep hA.wf (fun _ => by rw [hA.hs]; exact hof2) hS) ?_
      rintro v H' ⟨rfl, hS⟩
      simp only [e20, e5, e8, e19, e17, e18, wrap_w64, wj, ↓D0, ↓D1, ↓D2, ↓D3, ↓D4, ↓D5, ↓D6, ↓D7, ↓D8, ↓D9, U0, U1, U2, U3, U4, U5, U6, U7, U8, U9, U10, ↓reduceIte, Nat.reduceAdd, Nat.reduceMul, Nat.reduceSub, Nat.reduceEqDiff, Nat.reduceBEq, Nat.reduceLeDiff, Nat.reduceLT, Int.reduceAdd, Int.reduceMul, Int.reduceSub, Int.reduceLT, Int.reduceLE, Int.reduceToNat, Int.reduceEq, Int.reduceNe, Int.reduceBEq, Int.reduceBNe, ne_eq, eq_self]
      exact ⟨⟨j + 1, _, _, by omega, by omega, by simp [gt], by simp [gt, e5], by simp [gt, e8], by simp [gt, e19], by simp [gt, e17], by simp [gt, e18], hA.step, Sc.step_of hof2, hcB.step hA.wf, by omega, hS⟩, by simp [gt, iv, e20]; omega⟩
    have d1 : decide (j < 40) = false := decide_eq_false hjl
    have hcd : c.dn = true := Sc.left_dn hA.wf (by have := Sc.left_nn hA.wf; omega)
    obtain ⟨t1, t2⟩ := hI.third dA hA hcd
    simp only [e20, e5, e8, e19, e17, e18, d1, ↓D0, ↓D1, ↓D2, ↓D3, ↓D4, ↓D5, ↓D6, ↓D7, ↓D8, ↓D9, U0, U1, U2, U3, U4, U5, U6, U7, U8, U9, U10, ↓reduceIte, Nat.reduceAdd, Nat.reduceMul, Nat.reduceSub, Nat.reduceEqDiff, Nat.reduceBEq, Nat.reduceLeDiff, Nat.reduceLT, Int.reduceAdd, Int.reduceMul, Int.reduceSub, Int.reduceLT, Int.reduceLE, Int.reduceToNat, Int.reduceEq, Int.reduceNe, Int.reduceBEq, Int.reduceBNe, ne_eq, eq_self]
    refine callT_of (c_scfound (fun _ => hcB.fd) hS) ?_
    rintro v H' ⟨rfl, hS⟩
    simp only [e20, e5, e8, e19, e17, e18, u_slots, ↓D0, ↓D1, ↓D2, ↓D3, ↓D4, ↓D5, ↓D6, ↓D7, ↓D8, ↓D9, U0, U1, U2, U3, U4, U5, U6, U7, U8, U9, U10, ↓reduceIte, Nat.reduceAdd, Nat.reduceMul, Nat.reduceSub, Nat.reduceEqDiff, Nat.reduceBEq, Nat.reduceLeDiff, Nat.reduceLT, Int.reduceAdd, Int.reduceMul, Int.reduceSub, Int.reduceLT, Int.reduceLE, Int.reduceToNat, Int.reduceEq, Int.reduceNe, Int.reduceBEq, Int.reduceBNe, ne_eq, eq_self]
    refine callT_of (c_scdone hS) ?_
    rintro v H' ⟨rfl, hS⟩
    have hS9 := hS.tail.tail.tail.tail.tail.tail
    have hkey := hI.third dA hA hcd
    by_cases s2 : 2 < slots k
    · have s2' : decide (2 < slots k) = true := decide_eq_true s2
      have hcf : c.fd = true := by rw [t1]; simp [s2]
      have hi0 : (c.i != 0) = true := by have := (t2 hcf).1; simpa using this
      simp only [e20, e5, e8, e19, e17, e18, hcd, hcf, s2', hi0, ↓D0, ↓D1, ↓D2, ↓D3, ↓D4, ↓D5, ↓D6, ↓D7, ↓D8, ↓D9, U0, U1, U2, U3, U4, U5, U6, U7, U8, U9, U10, ↓reduceIte, Nat.reduceAdd, Nat.reduceMul, Nat.reduceSub, Nat.reduceEqDiff, Nat.reduceBEq, Nat.reduceLeDiff, Nat.reduceLT, Int.reduceAdd, Int.reduceMul, Int.reduceSub, Int.reduceLT, Int.reduceLE, Int.reduceToNat, Int.reduceEq, Int.reduceNe, Int.reduceBEq, Int.reduceBNe, ne_eq, eq_self]
      exact hS9
    · have s2' : decide (2 < slots k) = false := decide_eq_false s2
      by_cases s3 : slots k = 2
      · have s3' : (slots k == 2) = true := beq_iff_eq.2 s3
        have hcf : c.fd = true := by rw [t1, hf]; simp [s3]
        have hi0 : (c.i != 0) = true := by have := (t2 hcf).1; simpa using this
        simp only [e20, e5, e8, e19, e17, e18, hcd, hcf, s2', s3', hi0, ↓D0, ↓D1, ↓D2, ↓D3, ↓D4, ↓D5, ↓D6, ↓D7, ↓D8, ↓D9, U0, U1, U2, U3, U4, U5, U6, U7, U8, U9, U10, ↓reduceIte, Nat.reduceAdd, Nat.reduceMul, Nat.reduceSub, Nat.reduceEqDiff, Nat.reduceBEq, Nat.reduceLeDiff, Nat.reduceLT, Int.reduceAdd, Int.reduceMul, Int.reduceSub, Int.reduceLT, Int.reduceLE, Int.reduceToNat, Int.reduceEq, Int.reduceNe, Int.reduceBEq, Int.reduceBNe, ne_eq, eq_self]
        exact hS9
      · have s3' : (slots k == 2) = false := beq_eq_false_iff_ne.2 s3
        have hcf : c.fd = false := by rw [t1]; simp [s3, show ¬ slots k > 2 from s2]
        simp only [e20, e5, e8, e19, e17, e18, hcd, hcf, s2', s3', ↓D0, ↓D1, ↓D2, ↓D3, ↓D4, ↓D5, ↓D6, ↓D7, ↓D8, ↓D9, U0, U1, U2, U3, U4, U5, U6, U7, U8, U9, U10, ↓reduceIte, Nat.reduceAdd, Nat.reduceMul, Nat.reduceSub, Nat.reduceEqDiff, Nat.reduceBEq, Nat.reduceLeDiff, Nat.reduceLT, Int.reduceAdd, Int.reduceMul, Int.reduceSub, Int.reduceLT, Int.reduceLE, Int.reduceToNat, Int.reduceEq, Int.reduceNe, Int.reduceBEq, Int.reduceBNe, ne_eq, eq_self]
        exact hS9
  · skip
    simp only [e15, e1', e5, e6, e8, e9, e10, dB, hf, hne hf, hz1, rz, ↓D0, ↓D1, ↓D2, ↓D3, ↓D4, ↓D5, ↓D6, ↓D7, ↓D8, ↓D9, U0, U1, U2, U3, U4, U5, U6, U7, U8, U9, U10, ↓reduceIte, Nat.reduceAdd, Nat.reduceMul, Nat.reduceSub, Nat.reduceEqDiff, Nat.reduceBEq, Nat.reduceLeDiff, Nat.reduceLT, Int.reduceAdd, Int.reduceMul, Int.reduceSub, Int.reduceLT, Int.reduceLE, Int.reduceToNat, Int.reduceEq, Int.reduceNe, Int.reduceBEq, Int.reduceBNe, ne_eq, eq_self]
    refine callT_of (c_scnew (sh := sh3) hS) ?_
    rintro v H' ⟨kc, rfl, hS⟩
    simp only [e15, e1', e5, e6, e8, e9, e10, ↓D0, ↓D1, ↓D2, ↓D3, ↓D4, ↓D5, ↓D6, ↓D7, ↓D8, ↓D9, U0, U1, U2, U3, U4, U5, U6, U7, U8, U9, U10, ↓reduceIte, Nat.reduceAdd, Nat.reduceMul, Nat.reduceSub, Nat.reduceEqDiff, Nat.reduceBEq, Nat.reduceLeDiff, Nat.reduceLT, Int.reduceAdd, Int.reduceMul, Int.reduceSub, Int.reduceLT, Int.reduceLE, Int.reduceToNat, Int.reduceEq, Int.reduceNe, Int.reduceBEq, Int.reduceBNe, ne_eq, eq_self]
    refine loop_intro (bhI3 k w (.int .i64 u.i) (.bool true) b kc s (biB ka t :: scB kb u :: sg z (.cells #[.int .i64 1, .int .i64 3, .int .i64 0] 57 (0, 0)) :: h :: l)) (fun F' _ => (40 - iv (gt F' 20)).toNat)
      ⟨0, _, _, by omega, by omega, by simp [gt], by simp [gt, e5], by simp [gt, e8], by simp [gt], by simp [gt], by simp [gt], hA0, hI.of, Sc.Bd.new (by decide) (by decide) (by decide), by omega, hS⟩ ?_
    rintro F' H' ⟨j, c, w2, j0, j1, e20, e5, e8, e19, e17, e18, hA, hof2, hcB, hl3, hS⟩
    by_cases hjl : j < 40
    · have d1 : decide (j < 40) = true := decide_eq_true hjl
      have wj : w64 (j + 1) = j + 1 := w64_eq (by omega) (by omega)
      have l3' := Sc.left_step (w := w2) hA.wf hl3
      simp only [e20, e5, e8, e19, e17, e18, d1, ↓D0, ↓D1, ↓D2, ↓D3, ↓D4, ↓D5, ↓D6, ↓D7, ↓D8, ↓D9, U0, U1, U2, U3, U4, U5, U6, U7, U8, U9, U10, ↓reduceIte, Nat.reduceAdd, Nat.reduceMul, Nat.reduceSub, Nat.reduceEqDiff, Nat.reduceBEq, Nat.reduceLeDiff, Nat.reduceLT, Int.reduceAdd, Int.reduceMul, Int.reduceSub, Int.reduceLT, Int.reduceLE, Int.reduceToNat, Int.reduceEq, Int.reduceNe, Int.reduceBEq, Int.reduceBNe, ne_eq, eq_self]
      refine callT_of (c_scstep hA.wf (fun _ => by rw [hA.hs]; exact hof2) hS) ?_
      rintro v H' ⟨rfl, hS⟩
      simp only [e20, e5, e8, e19, e17, e18, wrap_w64, wj, ↓D0, ↓D1, ↓D2, ↓D3, ↓D4, ↓D5, ↓D6, ↓D7, ↓D8, ↓D9, U0, U1, U2, U3, U4, U5, U6, U7, U8, U9, U10, ↓reduceIte, Nat.reduceAdd, Nat.reduceMul, Nat.reduceSub, Nat.reduceEqDiff, Nat.reduceBEq, Nat.reduceLeDiff, Nat.reduceLT, Int.reduceAdd, Int.reduceMul, Int.reduceSub, Int.reduceLT, Int.reduceLE, Int.reduceToNat, Int.reduceEq, Int.reduceNe, Int.reduceBEq, Int.reduceBNe, ne_eq, eq_self]
      exact ⟨⟨j + 1, _, _, by omega, by omega, by simp [gt], by simp [gt, e5], by simp [gt, e8], by simp [gt, e19], by simp [gt, e17], by simp [gt, e18], hA.step, Sc.step_of hof2, hcB.step hA.wf, by omega, hS⟩, by simp [gt, iv, e20]; omega⟩
    have d1 : decide (j < 40) = false := decide_eq_false hjl
    have hcd : c.dn = true := Sc.left_dn hA.wf (by have := Sc.left_nn hA.wf; omega)
    obtain ⟨t1, t2⟩ := hI.third dA hA hcd
    simp only [e20, e5, e8, e19, e17, e18, d1, ↓D0, ↓D1, ↓D2, ↓D3, ↓D4, ↓D5, ↓D6, ↓D7, ↓D8, ↓D9, U0, U1, U2, U3, U4, U5, U6, U7, U8, U9, U10, ↓reduceIte, Nat.reduceAdd, Nat.reduceMul, Nat.reduceSub, Nat.reduceEqDiff, Nat.reduceBEq, Nat.reduceLeDiff, Nat.reduceLT, Int.reduceAdd, Int.reduceMul, Int.reduceSub, Int.reduceLT, Int.reduceLE, Int.reduceToNat, Int.reduceEq, Int.reduceNe, Int.reduceBEq, Int.reduceBNe, ne_eq, eq_self]
    refine callT_of (c_scfound (fun _ => hcB.fd) hS) ?_
    rintro v H' ⟨rfl, hS⟩
    simp only [e20, e5, e8, e19, e17, e18, u_slots, ↓D0, ↓D1, ↓D2, ↓D3, ↓D4, ↓D5, ↓D6, ↓D7, ↓D8, ↓D9, U0, U1, U2, U3, U4, U5, U6, U7, U8, U9, U10, ↓reduceIte, Nat.reduceAdd, Nat.reduceMul, Nat.reduceSub, Nat.reduceEqDiff, Nat.reduceBEq, Nat.reduceLeDiff, Nat.reduceLT, Int.reduceAdd, Int.reduceMul, Int.reduceSub, Int.reduceLT, Int.reduceLE, Int.reduceToNat, Int.reduceEq, Int.reduceNe, Int.reduceBEq, Int.reduceBNe, ne_eq, eq_self]
    refine callT_of (c_scdone hS) ?_
    rintro v H' ⟨rfl, hS⟩
    have hS9 := hS.tail.tail.tail.tail.tail.tail
    have hkey := hI.third dA hA hcd
    by_cases s2 : 2 < slots k
    · have s2' : decide (2 < slots k) = true := decide_eq_true s2
      have hcf : c.fd = true := by rw [t1]; simp [s2]
      have hi0 : (c.i != 0) = true := by have := (t2 hcf).1; simpa using this
      have hib : (c.i != u.i) = true := by have := (t2 hcf).2 hf; simpa using this
      simp only [e20, e5, e8, e19, e17, e18, hcd, hcf, s2', hi0, hib, ↓D0, ↓D1, ↓D2, ↓D3, ↓D4, ↓D5, ↓D6, ↓D7, ↓D8, ↓D9, U0, U1, U2, U3, U4, U5, U6, U7, U8, U9, U10, ↓reduceIte, Nat.reduceAdd, Nat.reduceMul, Nat.reduceSub, Nat.reduceEqDiff, Nat.reduceBEq, Nat.reduceLeDiff, Nat.reduceLT, Int.reduceAdd, Int.reduceMul, Int.reduceSub, Int.reduceLT, Int.reduceLE, Int.reduceToNat, Int.reduceEq, Int.reduceNe, Int.reduceBEq, Int.reduceBNe, ne_eq, eq_self]
      exact hS9
    · have s2' : decide (2 < slots k) = false := decide_eq_false s2
      by_cases s3 : slots k = 2
      · have s3' : (slots k == 2) = true := beq_iff_eq.2 s3
        have hcf : c.fd = false := by rw [t1, hf]; simp [s3]
        simp only [e20, e5, e8, e19, e17, e18, hcd, hcf, s2', s3', ↓D0, ↓D1, ↓D2, ↓D3, ↓D4, ↓D5, ↓D6, ↓D7, ↓D8, ↓D9, U0, U1, U2, U3, U4, U5, U6, U7, U8, U9, U10, ↓reduceIte, Nat.reduceAdd, Nat.reduceMul, Nat.reduceSub, Nat.reduceEqDiff, Nat.reduceBEq, Nat.reduceLeDiff, Nat.reduceLT, Int.reduceAdd, Int.reduceMul, Int.reduceSub, Int.reduceLT, Int.reduceLE, Int.reduceToNat, Int.reduceEq, Int.reduceNe, Int.reduceBEq, Int.reduceBNe, ne_eq, eq_self]
        exact hS9
      · have s3' : (slots k == 2) = false := beq_eq_false_iff_ne.2 s3
        have hcf : c.fd = false := by rw [t1]; simp [s3, show ¬ slots k > 2 from s2]
        simp only [e20, e5, e8, e19, e17, e18, hcd, hcf, s2', s3', ↓D0, ↓D1, ↓D2, ↓D3, ↓D4, ↓D5, ↓D6, ↓D7, ↓D8, ↓D9, U0, U1, U2, U3, U4, U5, U6, U7, U8, U9, U10, ↓reduceIte, Nat.reduceAdd, Nat.reduceMul, Nat.reduceSub, Nat.reduceEqDiff, Nat.reduceBEq, Nat.reduceLeDiff, Nat.reduceLT, Int.reduceAdd, Int.reduceMul, Int.reduceSub, Int.reduceLT, Int.reduceLE, Int.reduceToNat, Int.reduceEq, Int.reduceNe, Int.reduceBEq, Int.reduceBNe, ne_eq, eq_self]
        exact hS9
end

theorem l_bindhides {W : World} {a : Option Addr} {n cap : Nat} {B : Nat → Bool} (c : Int) (hc : 0 ≤ c ∧ c ≤ 255) (hn : n ≤ 9223372036854775807) (hr : RowV (memOf W) a n (fun i => .bool (B i))) :
    CallP Try.prog W 26 #[.int .u8 c, .slice a n cap] (memOf W) fun v H' => v = .bool true ∧ Sub (memOf W) H' :=
  (c_bindhides hc.1 hc.2 hr (Sep.one _)).mono fun v H' ⟨h1, h2⟩ => ⟨h1, h2.head⟩
end Go.Proofs.Ytfapipblclikbaa
