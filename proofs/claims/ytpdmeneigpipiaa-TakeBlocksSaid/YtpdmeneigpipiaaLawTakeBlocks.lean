/-
  TakeBlocks, walked: each block has its place and its length. Conditions: none.
-/
import Derived.Test.YtpdmeneigpipiaaCodeAllotmentlaw15
import Derived.Test.YtpdmeneigpipiaaTakeK
import Derived.Test.YtpdmeneigpipiaaRowV
set_option linter.unusedVariables false
set_option linter.unusedSectionVars false
set_option linter.unusedSimpArgs false
set_option maxRecDepth 8000
namespace Go.Proofs.Ytpdmeneigpipiaa
open Go Go.Ev Go.Pl Go.Ma

section
variable {W : World} {H h : Hp} {l : List Hp}
def tbI (p k m : Int) (l : List Hp) (F' : Fr) (H' : Hp) : Prop :=
  ∃ i : Int, 0 ≤ i ∧ i ≤ slots k ∧ gt F' 11 = .int .i64 i ∧ gt F' 7 = .int .i64 p ∧ gt F' 8 = .int .i64 k ∧ gt F' 9 = .int .i64 m ∧ gt F' 10 = .int .i64 (p * 64 + i * size k) ∧ Sep l H'
theorem c_takeblocks {pg x0 x1 : Int} (hpg : 0 ≤ pg ∧ pg ≤ 255) (hx0 : 0 ≤ x0 ∧ x0 ≤ 255) (hx1 : 0 ≤ x1 ∧ x1 ≤ 255) (hS : Sep l H) :
    CallP Try.prog W 4 #[.int .u8 pg, .int .u8 x0, .int .u8 x1] H fun v H' => v = .bool true ∧ Sep l H' := by
  refine CallP.of mixed Try.func4 tr4 (by show 3 ≤ _; decide) fun W _ => ?_
  simp only [↓D0, ↓D1, ↓D2, ↓D3, ↓D4, ↓D5, ↓D6, ↓D7, ↓D8, ↓D9, ↓D10, U0, U1, U2, U3, U4, U5, U6, U7, U8, U9, U10, ↓reduceIte, Nat.reduceAdd, Nat.reduceMul, Nat.reduceSub, Nat.reduceEqDiff, Nat.reduceBEq, Nat.reduceLeDiff, Nat.reduceLT, Int.reduceAdd, Int.reduceMul, Int.reduceSub, Int.reduceLT, Int.reduceLE, Int.reduceToNat, Int.reduceEq, Int.reduceNe, Int.reduceBEq, Int.reduceBNe, ne_eq, eq_self]
  refine callT_of (c_awake15 hS) ?_
  rintro v H' ⟨rfl, hS⟩
  have wp : w64 pg = pg := w64_eq (by omega) (by omega)
  have w0 : w64 x0 = x0 := w64_eq (by omega) (by omega)
  have w1 : w64 x1 = x1 := w64_eq (by omega) (by omega)
  have t1 : pg.tmod 64 = pg % 64 := Int.tmod_eq_emod_of_nonneg hpg.1
  have t2 : x0.tmod 4 = x0 % 4 := Int.tmod_eq_emod_of_nonneg hx0.1
  have t3 : x1.tmod 8 = x1 % 8 := Int.tmod_eq_emod_of_nonneg hx1.1
  obtain ⟨p, hp⟩ : ∃ p, pg % 64 = p := ⟨_, rfl⟩
  obtain ⟨k, hk⟩ : ∃ k, x0 % 4 = k := ⟨_, rfl⟩
  obtain ⟨m, hm⟩ : ∃ m, 1 + x1 % 8 = m := ⟨_, rfl⟩
  have hpb : 0 ≤ p ∧ p ≤ 63 := by omega
  have hkb : 0 ≤ k ∧ k ≤ 3 := by omega
  have hmb : 1 ≤ m ∧ m ≤ 8 := by omega
  have wm : w64 m = m := w64_eq (by omega) (by omega)
  have wp64 : w64 (p * 64) = p * 64 := w64_eq (by omega) (by omega)
  have hsk := slots_four hkb.1 hkb.2
  simp only [wrap_w64, wp, w0, w1, t1, t2, t3, hp, hk, hm, wm, wp64, ↓D0, ↓D1, ↓D2, ↓D3, ↓D4, ↓D5, ↓D6, ↓D7, ↓D8, ↓D9, ↓D10, U0, U1, U2, U3, U4, U5, U6, U7, U8, U9, U10, ↓reduceIte, Nat.reduceAdd, Nat.reduceMul, Nat.reduceSub, Nat.reduceEqDiff, Nat.reduceBEq, Nat.reduceLeDiff, Nat.reduceLT, Int.reduceAdd, Int.reduceMul, Int.reduceSub, Int.reduceLT, Int.reduceLE, Int.reduceToNat, Int.reduceEq, Int.reduceNe, Int.reduceBEq, Int.reduceBNe, ne_eq, eq_self]
  refine loop_intro (tbI p k m l) (fun F' _ => (slots k - iv (gt F' 11)).toNat) ⟨0, by omega, by omega, by simp [gt], by simp [gt, wp, t1, hp], by simp [gt, w0, t2, hk], by simp [gt, w1, t3, hm, wm], by simp [gt, wp64], hS⟩ ?_
  clear hS
  rintro F' H' ⟨i, hi0, hi, e11, e7, e8, e9, e10, hS⟩
  have hmul : 0 ≤ i * size k := Int.mul_nonneg hi0 (by omega)
  have hmul2 : i * size k ≤ 64 := by rw [← hsk.2.2.1]; exact Int.mul_le_mul_of_nonneg_right hi (by omega)
  by_cases hlt : i < slots k
  · have d1 : decide (i < slots k) = true := decide_eq_true hlt
    simp only [e11, e7, e8, e9, e10, u_slots, d1, ↓D0, ↓D1, ↓D2, ↓D3, ↓D4, ↓D5, ↓D6, ↓D7, ↓D8, ↓D9, ↓D10, U0, U1, U2, U3, U4, U5, U6, U7, U8, U9, U10, ↓reduceIte, Nat.reduceAdd, Nat.reduceMul, Nat.reduceSub, Nat.reduceEqDiff, Nat.reduceBEq, Nat.reduceLeDiff, Nat.reduceLT, Int.reduceAdd, Int.reduceMul, Int.reduceSub, Int.reduceLT, Int.reduceLE, Int.reduceToNat, Int.reduceEq, Int.reduceNe, Int.reduceBEq, Int.reduceBNe, ne_eq, eq_self]
    refine newB_intro fun y hy f3 f4 => ?_
    have hS := hS.new f3 (.cells #[.bool false, .int .i64 p, .int .i64 i, .int .i64 k, .int .i64 0] 52 (0, 0))
    have hy1 := hS.look
    have r2 := fun o n => rdn_of hy1 o n
    have ha : (⟨false, p, i, k, 0⟩ : Bk).ad = p * 64 + i * size k := rfl
    have hl : (⟨false, p, i, k, 0⟩ : Bk).len = size k := rfl
    simp only [e11, e7, e8, e9, e10, hy1, r2, Ev.upd_upd, ↓D0, ↓D1, ↓D2, ↓D3, ↓D4, ↓D5, ↓D6, ↓D7, ↓D8, ↓D9, ↓D10, U0, U1, U2, U3, U4, U5, U6, U7, U8, U9, U10, ↓reduceIte, Nat.reduceAdd, Nat.reduceMul, Nat.reduceSub, Nat.reduceEqDiff, Nat.reduceBEq, Nat.reduceLeDiff, Nat.reduceLT, Int.reduceAdd, Int.reduceMul, Int.reduceSub, Int.reduceLT, Int.reduceLE, Int.reduceToNat, Int.reduceEq, Int.reduceNe, Int.reduceBEq, Int.reduceBNe, ne_eq, eq_self]
    refine callT_of (c_bkat (B := ⟨false, p, i, k, 0⟩) (by show 0 ≤ p ∧ p ≤ 64; omega) (by show 0 ≤ i ∧ i ≤ 64; omega) hS) ?_
    rintro v H' ⟨rfl, hS⟩
    have hy1 := hS.look
    have r2 := fun o n => rdn_of hy1 o n
    simp only [e11, e7, e8, e9, e10, hy1, r2, ha, ↓D0, ↓D1, ↓D2, ↓D3, ↓D4, ↓D5, ↓D6, ↓D7, ↓D8, ↓D9, ↓D10, U0, U1, U2, U3, U4, U5, U6, U7, U8, U9, U10, ↓reduceIte, Nat.reduceAdd, Nat.reduceMul, Nat.reduceSub, Nat.reduceEqDiff, Nat.reduceBEq, Nat.reduceLeDiff, Nat.reduceLT, Int.reduceAdd, Int.reduceMul, Int.reduceSub, Int.reduceLT, Int.reduceLE, Int.reduceToNat, Int.reduceEq, Int.reduceNe, Int.reduceBEq, Int.reduceBNe, ne_eq, eq_self]
    refine callT_of (c_bklen (B := ⟨false, p, i, k, 0⟩) (by show (0 : Int) ≤ 0 ∧ (0 : Int) ≤ 64; decide) hS) ?_
    rintro v H' ⟨rfl, hS⟩
    have hy1 := hS.look
    have r2 := fun o n => rdn_of hy1 o n
    simp only [e11, e7, e8, e9, e10, hy1, r2, hl, u_size, ↓D0, ↓D1, ↓D2, ↓D3, ↓D4, ↓D5, ↓D6, ↓D7, ↓D8, ↓D9, ↓D10, U0, U1, U2, U3, U4, U5, U6, U7, U8, U9, U10, ↓reduceIte, Nat.reduceAdd, Nat.reduceMul, Nat.reduceSub, Nat.reduceEqDiff, Nat.reduceBEq, Nat.reduceLeDiff, Nat.reduceLT, Int.reduceAdd, Int.reduceMul, Int.reduceSub, Int.reduceLT, Int.reduceLE, Int.reduceToNat, Int.reduceEq, Int.reduceNe, Int.reduceBEq, Int.reduceBNe, ne_eq, eq_self]
    refine callT_of (c_bklen (B := ⟨false, p, i, k, 0⟩) (by show (0 : Int) ≤ 0 ∧ (0 : Int) ≤ 64; decide) hS) ?_
    rintro v H' ⟨rfl, hS⟩
    have wi : w64 (i + 1) = i + 1 := w64_eq (by omega) (by omega)
    have we : w64 (p * 64 + i * size k + size k) = p * 64 + i * size k + size k := w64_eq (by omega) (by omega)
    simp only [e11, e7, e8, e9, e10, hl, wrap_w64, wi, we, ↓D0, ↓D1, ↓D2, ↓D3, ↓D4, ↓D5, ↓D6, ↓D7, ↓D8, ↓D9, ↓D10, U0, U1, U2, U3, U4, U5, U6, U7, U8, U9, U10, ↓reduceIte, Nat.reduceAdd, Nat.reduceMul, Nat.reduceSub, Nat.reduceEqDiff, Nat.reduceBEq, Nat.reduceLeDiff, Nat.reduceLT, Int.reduceAdd, Int.reduceMul, Int.reduceSub, Int.reduceLT, Int.reduceLE, Int.reduceToNat, Int.reduceEq, Int.reduceNe, Int.reduceBEq, Int.reduceBNe, ne_eq, eq_self]
    refine ⟨⟨i + 1, by omega, by omega, by simp [gt], by simp [gt, e7], by simp [gt, e8], by simp [gt, e9], ?_, hS.tail⟩, by simp [gt, iv, e11]; omega⟩
    simp [gt]
    rw [Int.add_mul]; omega
  · have d1 : decide (i < slots k) = false := decide_eq_false hlt
    have hie : i = slots k := by omega
    simp only [e11, e7, e8, e9, e10, u_slots, d1, ↓D0, ↓D1, ↓D2, ↓D3, ↓D4, ↓D5, ↓D6, ↓D7, ↓D8, ↓D9, ↓D10, U0, U1, U2, U3, U4, U5, U6, U7, U8, U9, U10, ↓reduceIte, Nat.reduceAdd, Nat.reduceMul, Nat.reduceSub, Nat.reduceEqDiff, Nat.reduceBEq, Nat.reduceLeDiff, Nat.reduceLT, Int.reduceAdd, Int.reduceMul, Int.reduceSub, Int.reduceLT, Int.reduceLE, Int.reduceToNat, Int.reduceEq, Int.reduceNe, Int.reduceBEq, Int.reduceBNe, ne_eq, eq_self]
    refine newB_intro fun y hy f3 f4 => ?_
    have hS := hS.new f3 (.cells #[.bool true, .int .i64 p, .int .i64 0, .int .i64 0, .int .i64 m] 52 (0, 0))
    have hy1 := hS.look
    have r2 := fun o n => rdn_of hy1 o n
    have ha : (⟨true, p, 0, 0, m⟩ : Bk).ad = p * 64 := rfl
    have hl : (⟨true, p, 0, 0, m⟩ : Bk).len = m * 64 := rfl
    have g1 : w64 (p + 1) = p + 1 := w64_eq (by omega) (by omega)
    have g2 : w64 ((p + 1) * 64) = (p + 1) * 64 := w64_eq (by omega) (by omega)
    have g3 : w64 (m * 64) = m * 64 := w64_eq (by omega) (by omega)
    have g4 : (p * 64 + i * size k == (p + 1) * 64) = true := beq_iff_eq.2 (by rw [hie, hsk.2.2.1]; omega)
    simp only [e11, e7, e8, e9, e10, hy1, r2, Ev.upd_upd, wrap_w64, g1, g2, g4, ↓D0, ↓D1, ↓D2, ↓D3, ↓D4, ↓D5, ↓D6, ↓D7, ↓D8, ↓D9, ↓D10, U0, U1, U2, U3, U4, U5, U6, U7, U8, U9, U10, ↓reduceIte, Nat.reduceAdd, Nat.reduceMul, Nat.reduceSub, Nat.reduceEqDiff, Nat.reduceBEq, Nat.reduceLeDiff, Nat.reduceLT, Int.reduceAdd, Int.reduceMul, Int.reduceSub, Int.reduceLT, Int.reduceLE, Int.reduceToNat, Int.reduceEq, Int.reduceNe, Int.reduceBEq, Int.reduceBNe, ne_eq, eq_self]
    refine callT_of (c_bkat (B := ⟨true, p, 0, 0, m⟩) (by show 0 ≤ p ∧ p ≤ 64; omega) (by show (0 : Int) ≤ 0 ∧ (0 : Int) ≤ 64; decide) hS) ?_
    rintro v H' ⟨rfl, hS⟩
    have hy1 := hS.look
    have r2 := fun o n => rdn_of hy1 o n
    simp only [e11, e7, e8, e9, e10, hy1, r2, ha, wrap_w64, wp64, ↓D0, ↓D1, ↓D2, ↓D3, ↓D4, ↓D5, ↓D6, ↓D7, ↓D8, ↓D9, ↓D10, U0, U1, U2, U3, U4, U5, U6, U7, U8, U9, U10, ↓reduceIte, Nat.reduceAdd, Nat.reduceMul, Nat.reduceSub, Nat.reduceEqDiff, Nat.reduceBEq, Nat.reduceLeDiff, Nat.reduceLT, Int.reduceAdd, Int.reduceMul, Int.reduceSub, Int.reduceLT, Int.reduceLE, Int.reduceToNat, Int.reduceEq, Int.reduceNe, Int.reduceBEq, Int.reduceBNe, ne_eq, eq_self]
    refine callT_of (c_bklen (B := ⟨true, p, 0, 0, m⟩) (by show 0 ≤ m ∧ m ≤ 64; omega) hS) ?_
    rintro v H' ⟨rfl, hS⟩
    simp only [e11, e7, e8, e9, e10, hl, wrap_w64, g3, ↓D0, ↓D1, ↓D2, ↓D3, ↓D4, ↓D5, ↓D6, ↓D7, ↓D8, ↓D9, ↓D10, U0, U1, U2, U3, U4, U5, U6, U7, U8, U9, U10, ↓reduceIte, Nat.reduceAdd, Nat.reduceMul, Nat.reduceSub, Nat.reduceEqDiff, Nat.reduceBEq, Nat.reduceLeDiff, Nat.reduceLT, Int.reduceAdd, Int.reduceMul, Int.reduceSub, Int.reduceLT, Int.reduceLE, Int.reduceToNat, Int.reduceEq, Int.reduceNe, Int.reduceBEq, Int.reduceBNe, ne_eq, eq_self]
    exact hS.tail
end
theorem l_takeblocks {W : World} (pg : Int) (hp : 0 ≤ pg ∧ pg ≤ 255) (x0 : Int) (h0 : 0 ≤ x0 ∧ x0 ≤ 255) (x1 : Int) (h1 : 0 ≤ x1 ∧ x1 ≤ 255) :
    CallP Try.prog W 4 #[.int .u8 pg, .int .u8 x0, .int .u8 x1] (memOf W) fun v H' => v = .bool true ∧ Sub (memOf W) H' :=
  (c_takeblocks hp h0 h1 (Sep.one _)).mono fun v H' ⟨h1, h2⟩ => ⟨h1, h2.head⟩
end Go.Proofs.Ytpdmeneigpipiaa
