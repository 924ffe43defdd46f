/-
  SlotLoses, walked: where another one takes each slot between the look and the swap a claimer finds none. Conditions: none.
-/
import Derived.Test.YtfapipblclikbaaSlotK
import Derived.Test.YtfapipblclikbaaMaMany3
import Derived.Test.YtfapipblclikbaaFrame
set_option linter.unusedVariables false
set_option linter.unusedSimpArgs false
set_option maxRecDepth 8000
namespace Go.Proofs.Ytfapipblclikbaa
open Go Go.Ev Go.Pl Go.Ma

def sh2 : Sh := ⟨1, 2, 0⟩
theorem may2 : may sh2.p sh2.c sh2.m = true := by decide
def slT (k i : Int) : Sc := ⟨sh2, 0, k, 0, 0, i, 1, false, false⟩
theorem slT_at (k i : Int) (h0 : 0 ≤ i) (h1 : i < 16) : (slT k i).at' = 3 + i := by
  show slot sh2.p sh2.c sh2.m ((0 + 0) % 1) i = _
  rw [show ((0 : Int) + 0) % 1 = 0 by decide, slot1 may2 rfl h0 h1]; rfl
theorem slT_wf {k i : Int} (h0 : 0 ≤ i) (h1 : i < slots k) : (slT k i).wf :=
  ⟨fun _ => ⟨may2, by show (0 : Int) ≤ 0; decide, by show (0 : Int) < 2; decide, by show (0 : Int) ≤ 0; decide, by show (0 : Int) < 1; decide, by show (0 : Int) ≤ 0; decide, by show (0 : Int) < 1; decide, h0, h1, by show (0 : Int) ≤ 1; decide, by show (1 : Int) ≤ 2; decide⟩⟩
theorem slT_look {k i : Int} {w : Wd} (h0 : 0 ≤ i) (h1 : i < 16) (hz : w.get (3 + i) = opn k) : (slT k i).step w = ({ slT k i with nx := 2 }, w.load 0 (3 + i)) := by
  have hat := slT_at k i h0 h1
  rcases Sc.step_cases (slT k i) w with ⟨hd, -⟩ | ⟨-, ⟨hx, -⟩ | ⟨hx, -⟩ | ⟨-, -, e⟩ | ⟨-, hn, -⟩ | ⟨-, hx, -⟩ | ⟨-, hx, -⟩⟩
  · cases hd
  · exact absurd hx (show ¬ (1 : Int) = 0 by decide)
  · exact absurd hx (show ¬ (1 : Int) = 0 by decide)
  · rw [hat] at e; exact e
  · rw [hat] at hn; exact absurd hz hn
  · exact absurd rfl hx
  · exact absurd rfl hx
theorem slT_take {k i : Int} {w : Wd} (h0 : 0 ≤ i) (h1 : i < 16) (hz : w.get (3 + i) = opn k) : ({ slT k i with nx := 2 } : Sc).step w = ({ slT k i with nx := 2, fd := true, dn := true }, w.swap 0 (3 + i) (opn k) (way 0)) := by
  have hat : ({ slT k i with nx := 2 } : Sc).at' = 3 + i := slT_at k i h0 h1
  rcases Sc.step_cases { slT k i with nx := 2 } w with ⟨hd, -⟩ | ⟨-, ⟨hx, -⟩ | ⟨hx, -⟩ | ⟨hx, -⟩ | ⟨hx, -⟩ | ⟨-, -, -, e⟩ | ⟨-, -, hn, -⟩⟩
  · cases hd
  · exact absurd hx (show ¬ (2 : Int) = 0 by decide)
  · exact absurd hx (show ¬ (2 : Int) = 0 by decide)
  · exact absurd hx (show ¬ (2 : Int) = 1 by decide)
  · exact absurd hx (show ¬ (2 : Int) = 1 by decide)
  · rw [hat] at e; exact e
  · rw [hat] at hn; exact absurd hz hn
theorem slT_lose {k i : Int} {w : Wd} (h0 : 0 ≤ i) (h1 : i < 16) (hz : w.get (3 + i) ≠ opn k) : ({ slT k i with nx := 2 } : Sc).step w = (({ slT k i with nx := 2 } : Sc).miss, w.swap 0 (3 + i) (opn k) (way 0)) := by
  have hat : ({ slT k i with nx := 2 } : Sc).at' = 3 + i := slT_at k i h0 h1
  rcases Sc.step_cases { slT k i with nx := 2 } w with ⟨hd, -⟩ | ⟨-, ⟨hx, -⟩ | ⟨hx, -⟩ | ⟨hx, -⟩ | ⟨hx, -⟩ | ⟨-, -, hn, -⟩ | ⟨-, -, -, e⟩⟩
  · cases hd
  · exact absurd hx (show ¬ (2 : Int) = 0 by decide)
  · exact absurd hx (show ¬ (2 : Int) = 0 by decide)
  · exact absurd hx (show ¬ (2 : Int) = 1 by decide)
  · exact absurd hx (show ¬ (2 : Int) = 1 by decide)
  · rw [hat] at hn; exact absurd hn hz
  · rw [hat] at e; exact e
theorem mine_one {w : Wd} {k : Int} (h0 : 0 ≤ k) (h1 : k ≤ 3) (h : w.get 2 = putPg 2 k 0) : mineAt sh2 k 0 w = true := by
  have e : page sh2.p sh2.c sh2.m 0 = 2 := by decide
  unfold mineAt
  rw [e, h]
  rcases (by omega : k = 0 ∨ k = 1 ∨ k = 2 ∨ k = 3) with rfl | rfl | rfl | rfl <;> decide
theorem slT_first {k : Int} {w : Wd} (h0 : 0 ≤ k) (h1 : k ≤ 3) (h : w.get 2 = putPg 2 k 0) : (Sc.new sh2 0 k 0).step w = (slT k 0, w.load 0 2) := by
  have hm : (Sc.new sh2 0 k 0).mine w = true := mine_one h0 h1 h
  have hd : (Sc.new sh2 0 k 0).dn = false := by
    rcases (by omega : k = 0 ∨ k = 1 ∨ k = 2 ∨ k = 3) with rfl | rfl | rfl | rfl <;> decide
  rcases Sc.step_cases (Sc.new sh2 0 k 0) w with ⟨hd', -⟩ | ⟨-, ⟨-, -, e⟩ | ⟨-, hm', -⟩ | ⟨hx, -⟩ | ⟨hx, -⟩ | ⟨hx, -⟩ | ⟨hx, -⟩⟩
  · rw [hd] at hd'; cases hd'
  · rw [e]
    have e2 : ({ Sc.new sh2 0 k 0 with nx := 1 } : Sc) = slT k 0 := by
      show (⟨sh2, 0, k, 0, 0, 0, 1, false, (Sc.new sh2 0 k 0).dn⟩ : Sc) = _
      rw [hd]; rfl
    rw [e2]; rfl
  · rw [hm] at hm'; cases hm'
  · exact absurd hx (show ¬ (0 : Int) = 1 by decide)
  · exact absurd hx (show ¬ (0 : Int) = 1 by decide)
  · exact absurd rfl hx
  · exact absurd rfl hx
/-- The words of a page of open slots. -/
theorem oneW_at {k : Int} {n : Nat} {ws : Nat → Int} (hn : n ≤ 16) : (∀ j : Int, 0 ≤ j → j < n → (rowW 19 (oneW k n ws)).get (3 + j) = ws j.toNat) ∧ (rowW 19 (oneW k n ws)).get 2 = putPg 2 k 0 := by
  refine ⟨fun j h0 h1 => ?_, rfl⟩
  show (if (3 + j).toNat < 19 then (if 3 ≤ (3 + j).toNat ∧ (3 + j).toNat - 3 < n then ws ((3 + j).toNat - 3) else _) else _) = _
  rw [if_pos (by omega), if_pos (by omega)]
  congr 1; omega

section
variable {W : World} {H : Hp} {l : List Hp}

def lsI1 (k : Int) (kp : Int) (l : List Hp) (F' : Fr) (H' : Hp) : Prop :=
  ∃ (i : Nat) (a : Option Addr) (cap : Nat) (g : Hp), (i : Int) ≤ slots k ∧ gt F' 9 = .int .i64 (i : Int) ∧ gt F' 7 = .slice a i cap ∧ (gt F' 1 = .int .u16 kp ∧ gt F' 5 = .int .i64 k ∧ gt F' 6 = .int .i64 (slots k) ∧ gt F' 8 = .int .u64 (opn k)) ∧ Gr 26 a i cap (fun _ => .int .u64 (opn k)) g ∧ Sep (g :: l) H'
def lsI2 (k : Int) (kp : Int) (b kt s : Nat) (L : List Hp) (F' : Fr) (H' : Hp) : Prop :=
  ∃ (i : Int) (t : Sc) (w : Wd), 0 ≤ i ∧ i ≤ slots k ∧ gt F' 14 = .int .i64 i ∧ (gt F' 1 = .int .u16 kp ∧ gt F' 5 = .int .i64 k ∧ gt F' 6 = .int .i64 (slots k) ∧ gt F' 12 = .pointer (some ⟨b, 0, none⟩) ∧ gt F' 13 = .pointer (some ⟨kt, 0, none⟩)) ∧
    (i < slots k → t = slT k i) ∧ (i = slots k → t.dn = true ∧ t.fd = false) ∧ w.of sh2 ∧ w.st = 1 + 2 * i ∧ (∀ j, i ≤ j → j < slots k → w.get (3 + j) = opn k) ∧ Sep (scB kt t :: wB b s w :: wR s w :: L) H'

theorem c_slotloses {cc kp : Int} (h0 : 0 ≤ cc) (h1 : cc ≤ 255) (hk0 : 0 ≤ kp) (hk1 : kp ≤ 65535) (hS : Sep l H) :
    CallP Try.prog W 21 #[.int .u8 cc, .int .u16 kp] H fun v H' => v = .bool true ∧ Sep l H' := by
  refine CallP.of mixed Try.func21 tr21 (by show 2 ≤ _; decide) fun W _ => ?_
  simp only [↓D0, ↓D1, ↓D2, ↓D3, ↓D4, ↓D5, ↓D6, ↓D7, ↓D8, ↓D9, U0, U1, U2, U3, U4, U5, U6, U7, U8, U9, U10, ↓reduceIte, Nat.reduceAdd, Nat.reduceMul, Nat.reduceSub, Nat.reduceEqDiff, Nat.reduceBEq, Nat.reduceLeDiff, Nat.reduceLT, Int.reduceAdd, Int.reduceMul, Int.reduceSub, Int.reduceLT, Int.reduceLE, Int.reduceToNat, Int.reduceEq, Int.reduceNe, Int.reduceBEq, Int.reduceBNe, ne_eq, eq_self]
  refine callT_of (c_awake9 hS) ?_
  rintro v H' ⟨rfl, hS⟩
  have ec : w64 cc = cc := w64_eq (by omega) (by omega)
  have tc : cc.tmod 4 = cc % 4 := Int.tmod_eq_emod_of_nonneg h0
  obtain ⟨k, hk⟩ : ∃ k, cc % 4 = k := ⟨_, rfl⟩
  have k0 : 0 ≤ k := by omega
  have k3 : k ≤ 3 := by omega
  have wk : w64 k = k := w64_eq (by omega) (by omega)
  have sb := slots_bd k
  have sp := slots_pos k0 k3
  simp only [wrap_w64, ec, tc, hk, wk, u_slots, u_putsl, ↓D0, ↓D1, ↓D2, ↓D3, ↓D4, ↓D5, ↓D6, ↓D7, ↓D8, ↓D9, U0, U1, U2, U3, U4, U5, U6, U7, U8, U9, U10, ↓reduceIte, Nat.reduceAdd, Nat.reduceMul, Nat.reduceSub, Nat.reduceEqDiff, Nat.reduceBEq, Nat.reduceLeDiff, Nat.reduceLT, Int.reduceAdd, Int.reduceMul, Int.reduceSub, Int.reduceLT, Int.reduceLE, Int.reduceToNat, Int.reduceEq, Int.reduceNe, Int.reduceBEq, Int.reduceBNe, ne_eq, eq_self]
  refine loop_intro (lsI1 k kp l) (fun F' _ => (16 - iv (gt F' 9)).toNat) ⟨0, none, 0, _, by omega, rfl, rfl, ⟨rfl, rfl, rfl, rfl⟩, Gr.none _ _, hS.nothing⟩ ?_
  rintro F' H' ⟨i, a, cap, g, hi, e9, e7, ⟨e1, e5, e6, e8⟩, hG, hS⟩
  by_cases hlt : (i : Int) < slots k
  · have g1 : decide ((i : Int) < slots k) = true := decide_eq_true hlt
    have w1 : w64 ((i : Int) + 1) = ((i + 1 : Nat) : Int) := by rw [w64_eq (by omega) (by omega)]; omega
    simp only [e9, e7, e1, e5, e6, e8, g1, ↓D0, ↓D1, ↓D2, ↓D3, ↓D4, ↓D5, ↓D6, ↓D7, ↓D8, ↓D9, U0, U1, U2, U3, U4, U5, U6, U7, U8, U9, U10, ↓reduceIte, Nat.reduceAdd, Nat.reduceMul, Nat.reduceSub, Nat.reduceEqDiff, Nat.reduceBEq, Nat.reduceLeDiff, Nat.reduceLT, Int.reduceAdd, Int.reduceMul, Int.reduceSub, Int.reduceLT, Int.reduceLE, Int.reduceToNat, Int.reduceEq, Int.reduceNe, Int.reduceBEq, Int.reduceBNe, ne_eq, eq_self]
    refine newB_intro fun y hy f5 f6 => ?_
    have hS2 := hS.new f5 (.cells #[.int .u64 (opn k)] 26 (0, 0))
    have ha : rds (upd H' y (.cells #[.int .u64 (opn k)] 26 (0, 0))) (some ⟨y, 0, none⟩) 1 = some #[.int .u64 (opn k)] := by
      simp only [rds, ↓D0, ↓D1, ↓D2, ↓D3, ↓D4, ↓D5, ↓D6, ↓D7, ↓D8, ↓D9, U0, U1, U2, U3, U4, U5, U6, U7, U8, U9, U10, ↓reduceIte, Nat.reduceAdd, Nat.reduceMul, Nat.reduceSub, Nat.reduceEqDiff, Nat.reduceBEq, Nat.reduceLeDiff, Nat.reduceLT, Int.reduceAdd, Int.reduceMul, Int.reduceSub, Int.reduceLT, Int.reduceLE, Int.reduceToNat, Int.reduceEq, Int.reduceNe, Int.reduceBEq, Int.reduceBNe, ne_eq, eq_self]
    simp only [e9, e7, e1, e5, e6, e8, ha, ↓D0, ↓D1, ↓D2, ↓D3, ↓D4, ↓D5, ↓D6, ↓D7, ↓D8, ↓D9, U0, U1, U2, U3, U4, U5, U6, U7, U8, U9, U10, ↓reduceIte, Nat.reduceAdd, Nat.reduceMul, Nat.reduceSub, Nat.reduceEqDiff, Nat.reduceBEq, Nat.reduceLeDiff, Nat.reduceLT, Int.reduceAdd, Int.reduceMul, Int.reduceSub, Int.reduceLT, Int.reduceLE, Int.reduceToNat, Int.reduceEq, Int.reduceNe, Int.reduceBEq, Int.reduceBNe, ne_eq, eq_self]
    have e : (fun j => if j = i then Value.int .u64 (opn k) else Value.int .u64 (opn k)) = fun _ => Value.int .u64 (opn k) := by funext j; split <;> rfl
    refine grow (z0 := .int .u64 0) (bytes := 8) (v := .int .u64 (opn k)) hG rfl (by omega) (by decide) (hS2.p1) (fun g2 H2 hG2 hS3 => ?_) (fun old cap2 b hG2 hS3 => ?_)
    all_goals
      rw [e] at hG2
      simp only [e9, e7, e1, e5, e6, e8, wrap_w64, w1, ↓D0, ↓D1, ↓D2, ↓D3, ↓D4, ↓D5, ↓D6, ↓D7, ↓D8, ↓D9, U0, U1, U2, U3, U4, U5, U6, U7, U8, U9, U10, ↓reduceIte, Nat.reduceAdd, Nat.reduceMul, Nat.reduceSub, Nat.reduceEqDiff, Nat.reduceBEq, Nat.reduceLeDiff, Nat.reduceLT, Int.reduceAdd, Int.reduceMul, Int.reduceSub, Int.reduceLT, Int.reduceLE, Int.reduceToNat, Int.reduceEq, Int.reduceNe, Int.reduceBEq, Int.reduceBNe, ne_eq, eq_self]
      exact ⟨⟨i + 1, _, _, _, by omega, by simp [gt], by simp [gt], ⟨by simp [gt, e1], by simp [gt, e5], by simp [gt, e6], by simp [gt, e8]⟩, hG2, hS3.p1.tail⟩, by simp [gt, iv, e9]; omega⟩
  have hin : (i : Int) = slots k := by omega
  have g1 : decide ((i : Int) < slots k) = false := decide_eq_false hlt
  simp only [e9, e7, e1, e5, e6, e8, g1, ↓D0, ↓D1, ↓D2, ↓D3, ↓D4, ↓D5, ↓D6, ↓D7, ↓D8, ↓D9, U0, U1, U2, U3, U4, U5, U6, U7, U8, U9, U10, ↓reduceIte, Nat.reduceAdd, Nat.reduceMul, Nat.reduceSub, Nat.reduceEqDiff, Nat.reduceBEq, Nat.reduceLeDiff, Nat.reduceLT, Int.reduceAdd, Int.reduceMul, Int.reduceSub, Int.reduceLT, Int.reduceLE, Int.reduceToNat, Int.reduceEq, Int.reduceNe, Int.reduceBEq, Int.reduceBNe, ne_eq, eq_self]
  refine callT_of (c_one k (by omega) hG.row hS) ?_
  rintro v H' ⟨y, rfl, hS⟩
  simp only [e9, e7, e1, e5, e6, e8, ↓D0, ↓D1, ↓D2, ↓D3, ↓D4, ↓D5, ↓D6, ↓D7, ↓D8, ↓D9, U0, U1, U2, U3, U4, U5, U6, U7, U8, U9, U10, ↓reduceIte, Nat.reduceAdd, Nat.reduceMul, Nat.reduceSub, Nat.reduceEqDiff, Nat.reduceBEq, Nat.reduceLeDiff, Nat.reduceLT, Int.reduceAdd, Int.reduceMul, Int.reduceSub, Int.reduceLT, Int.reduceLE, Int.reduceToNat, Int.reduceEq, Int.reduceNe, Int.reduceBEq, Int.reduceBNe, ne_eq, eq_self]
  refine newB_intro fun x hx f1 f2 => ?_
  have hS := hS.new f1 (.cells #[.int .i64 0, .int .i64 0, .int .i64 0] 57 (0, 0))
  have hS := hS.set (.cells #[.int .i64 1, .int .i64 2, .int .i64 0] 57 (0, 0))
  rw [Ev.upd_upd] at hS
  simp only [e9, e7, e1, e5, e6, e8, Ev.upd_upd, ↓D0, ↓D1, ↓D2, ↓D3, ↓D4, ↓D5, ↓D6, ↓D7, ↓D8, ↓D9, U0, U1, U2, U3, U4, U5, U6, U7, U8, U9, U10, ↓reduceIte, Nat.reduceAdd, Nat.reduceMul, Nat.reduceSub, Nat.reduceEqDiff, Nat.reduceBEq, Nat.reduceLeDiff, Nat.reduceLT, Int.reduceAdd, Int.reduceMul, Int.reduceSub, Int.reduceLT, Int.reduceLE, Int.reduceToNat, Int.reduceEq, Int.reduceNe, Int.reduceBEq, Int.reduceBNe, ne_eq, eq_self]
  have hS := hS.p2.tail.p1
  refine callT_of (c_fill (n := 19) (by decide) (RowU.own y 19 _ _ _) hS) ?_
  rintro v H' ⟨b, s, rfl, hS⟩
  have hx1 := hS.lk 3 rfl
  have rx := fun o n => rdn_of hx1 o n
  simp only [e9, e7, e1, e5, e6, e8, hx1, rx, ↓D0, ↓D1, ↓D2, ↓D3, ↓D4, ↓D5, ↓D6, ↓D7, ↓D8, ↓D9, U0, U1, U2, U3, U4, U5, U6, U7, U8, U9, U10, ↓reduceIte, Nat.reduceAdd, Nat.reduceMul, Nat.reduceSub, Nat.reduceEqDiff, Nat.reduceBEq, Nat.reduceLeDiff, Nat.reduceLT, Int.reduceAdd, Int.reduceMul, Int.reduceSub, Int.reduceLT, Int.reduceLE, Int.reduceToNat, Int.reduceEq, Int.reduceNe, Int.reduceBEq, Int.reduceBNe, ne_eq, eq_self]
  refine callT_of (c_scnew (sh := sh2) hS) ?_
  rintro v H' ⟨kt, rfl, hS⟩
  have hof0 : (rowW 19 (oneW k i fun _ => opn k)).of sh2 := ⟨by show ((19 : Nat) : Int) = words 1 2 0; decide, fun j => U_row _ (fun j => U_oneW _ _ (fun _ => U_opn _) j) j⟩
  obtain ⟨hw1, hw2⟩ := oneW_at (k := k) (n := i) (ws := fun _ => opn k) (by omega)
  simp only [e9, e7, e1, e5, e6, e8, ↓D0, ↓D1, ↓D2, ↓D3, ↓D4, ↓D5, ↓D6, ↓D7, ↓D8, ↓D9, U0, U1, U2, U3, U4, U5, U6, U7, U8, U9, U10, ↓reduceIte, Nat.reduceAdd, Nat.reduceMul, Nat.reduceSub, Nat.reduceEqDiff, Nat.reduceBEq, Nat.reduceLeDiff, Nat.reduceLT, Int.reduceAdd, Int.reduceMul, Int.reduceSub, Int.reduceLT, Int.reduceLE, Int.reduceToNat, Int.reduceEq, Int.reduceNe, Int.reduceBEq, Int.reduceBNe, ne_eq, eq_self]
  refine callT_of (c_scstep (Sc.new_wf sh2 0 k 0) (fun _ => hof0) hS) ?_
  rintro v H' ⟨rfl, hS⟩
  rw [slT_first k0 k3 hw2] at hS
  simp only [e9, e7, e1, e5, e6, e8, ↓D0, ↓D1, ↓D2, ↓D3, ↓D4, ↓D5, ↓D6, ↓D7, ↓D8, ↓D9, U0, U1, U2, U3, U4, U5, U6, U7, U8, U9, U10, ↓reduceIte, Nat.reduceAdd, Nat.reduceMul, Nat.reduceSub, Nat.reduceEqDiff, Nat.reduceBEq, Nat.reduceLeDiff, Nat.reduceLT, Int.reduceAdd, Int.reduceMul, Int.reduceSub, Int.reduceLT, Int.reduceLE, Int.reduceToNat, Int.reduceEq, Int.reduceNe, Int.reduceBEq, Int.reduceBNe, ne_eq, eq_self]
  refine loop_intro (lsI2 k kp b kt s (sg y (.cells (urow 19 (oneW k i fun _ => opn k)) 26 (0, 0)) :: sg x (.cells #[.int .i64 1, .int .i64 2, .int .i64 0] 57 (0, 0)) :: l)) (fun F' _ => (16 - iv (gt F' 14)).toNat)
    ⟨0, _, _, by omega, by omega, rfl, ⟨by simp [gt, e1], by simp [gt, e5], by simp [gt, e6], by simp [gt], by simp [gt]⟩, fun _ => rfl, fun h => by omega, Wd.of_load hof0 _ _, by show w64 (0 + 1) = _; decide, fun j j0 j1 => hw1 j j0 (by omega), hS⟩ ?_
  rintro F' H' ⟨i, t, w, i0, i1, e14, ⟨e1, e5, e6, e12, e13⟩, ht1, ht2, hofw, hst, hop, hS⟩
  by_cases hlt : i < slots k
  · have g1 : decide (i < slots k) = true := decide_eq_true hlt
    have w1 : w64 (i + 1) = i + 1 := w64_eq (by omega) (by omega)
    have w3 : w64 (3 + i) = 3 + i := w64_eq (by omega) (by omega)
    have wu1 : wu i = i := wu_eq (by omega) (by omega)
    have ht := ht1 hlt
    subst ht
    have hz := hop i (Int.le_refl _) hlt
    have twf := slT_wf i0 hlt
    have hlk := slT_look (w := w) i0 (by omega) hz
    have nw : (w.n : Int) = 19 := by rw [hofw.n]; decide
    simp only [e14, e1, e5, e6, e12, e13, g1, ↓D0, ↓D1, ↓D2, ↓D3, ↓D4, ↓D5, ↓D6, ↓D7, ↓D8, ↓D9, U0, U1, U2, U3, U4, U5, U6, U7, U8, U9, U10, ↓reduceIte, Nat.reduceAdd, Nat.reduceMul, Nat.reduceSub, Nat.reduceEqDiff, Nat.reduceBEq, Nat.reduceLeDiff, Nat.reduceLT, Int.reduceAdd, Int.reduceMul, Int.reduceSub, Int.reduceLT, Int.reduceLE, Int.reduceToNat, Int.reduceEq, Int.reduceNe, Int.reduceBEq, Int.reduceBNe, ne_eq, eq_self]
    refine callT_of (c_scstep twf (fun _ => hofw) hS) ?_
    rintro v H' ⟨rfl, hS⟩
    have twf2 := Sc.step_wf (w := w) twf
    have tof2 := Sc.step_of (t := slT k i) (w := w) hofw
    rw [hlk] at hS twf2 tof2
    have twf2 : ({ slT k i with nx := 2 } : Sc).wf := twf2
    have tof2 : (w.load 0 (3 + i)).of sh2 := tof2
    have m2 : w64 (2 * i) = 2 * i := w64_eq (by omega) (by omega)
    have m3 : w64 (3 + 2 * i) = 3 + 2 * i := w64_eq (by omega) (by omega)
    have st2 : w64 (w.st + 1) = w.st + 1 := w64_eq (by omega) (by omega)
    have st3 : w64 (w.st + 1 + 1) = w.st + 1 + 1 := w64_eq (by omega) (by omega)
    cases hb : (bits BinOp.and IntKind.u16 (kp.fdiv (2 ^ min i.toNat IntKind.u16.bits)) 1 == 1)
    · simp only [e14, e1, e5, e6, e12, e13, wrap_wu, wu1, i0, hb, u_putsl, wrap_w64, w3, ↓D0, ↓D1, ↓D2, ↓D3, ↓D4, ↓D5, ↓D6, ↓D7, ↓D8, ↓D9, U0, U1, U2, U3, U4, U5, U6, U7, U8, U9, U10, ↓reduceIte, Nat.reduceAdd, Nat.reduceMul, Nat.reduceSub, Nat.reduceEqDiff, Nat.reduceBEq, Nat.reduceLeDiff, Nat.reduceLT, Int.reduceAdd, Int.reduceMul, Int.reduceSub, Int.reduceLT, Int.reduceLE, Int.reduceToNat, Int.reduceEq, Int.reduceNe, Int.reduceBEq, Int.reduceBNe, ne_eq, eq_self]
      refine callT_of (c_put (3 + i) (putSl 2 1) (by omega) (by show 3 + i < (w.n : Int); omega) hS.r2) ?_
      rintro v H' ⟨rfl, hS⟩
      obtain ⟨w2, hw2⟩ : ∃ w2, w2 = (w.load 0 (3 + i)).put (3 + i) (putSl 2 1) := ⟨_, rfl⟩
      rw [← hw2] at hS
      have of2 : w2.of sh2 := by rw [hw2]; exact Wd.of_put tof2 (U_putSl ..) _
      have hg2 : ∀ q, 0 ≤ q → w2.get q = if q = 3 + i then way 1 else w.get q := fun q hq => by rw [hw2, get_put (by omega) hq]; rfl
      have hz2 : w2.get (3 + i) ≠ opn k := by rw [hg2 _ (by omega), if_pos rfl]; exact way_ne (by decide) (by decide) sp
      have hst2 : w2.st = w64 (w.st + 1) := by rw [hw2]; rfl
      simp only [e14, e1, e5, e6, e12, e13, ↓D0, ↓D1, ↓D2, ↓D3, ↓D4, ↓D5, ↓D6, ↓D7, ↓D8, ↓D9, U0, U1, U2, U3, U4, U5, U6, U7, U8, U9, U10, ↓reduceIte, Nat.reduceAdd, Nat.reduceMul, Nat.reduceSub, Nat.reduceEqDiff, Nat.reduceBEq, Nat.reduceLeDiff, Nat.reduceLT, Int.reduceAdd, Int.reduceMul, Int.reduceSub, Int.reduceLT, Int.reduceLE, Int.reduceToNat, Int.reduceEq, Int.reduceNe, Int.reduceBEq, Int.reduceBNe, ne_eq, eq_self]
      refine callT_of (c_scstep twf2 (fun _ => of2) hS.p2) ?_
      rintro v H' ⟨rfl, hS⟩
      have of3 := Sc.step_of (t := { slT k i with nx := 2 }) (w := w2) of2
      rw [slT_lose i0 (by omega) hz2] at hS of3
      have hg3 : ∀ q, 0 ≤ q → (w2.swap 0 (3 + i) (opn k) (way 0)).get q = w2.get q := fun q hq => by
        rw [get_swap (by omega) hq, if_neg hz2]
        split
        · rename_i e; rw [e]
        · rfl
      simp only [e14, e1, e5, e6, e12, e13, wrap_w64, w1, ↓D0, ↓D1, ↓D2, ↓D3, ↓D4, ↓D5, ↓D6, ↓D7, ↓D8, ↓D9, U0, U1, U2, U3, U4, U5, U6, U7, U8, U9, U10, ↓reduceIte, Nat.reduceAdd, Nat.reduceMul, Nat.reduceSub, Nat.reduceEqDiff, Nat.reduceBEq, Nat.reduceLeDiff, Nat.reduceLT, Int.reduceAdd, Int.reduceMul, Int.reduceSub, Int.reduceLT, Int.reduceLE, Int.reduceToNat, Int.reduceEq, Int.reduceNe, Int.reduceBEq, Int.reduceBNe, ne_eq, eq_self]
      refine ⟨⟨i + 1, _, _, by omega, by omega, by simp [gt], ⟨by simp [gt, e1], by simp [gt, e5], by simp [gt, e6], by simp [gt, e12], by simp [gt, e13]⟩, fun h => ?_, fun h => ?_, of3, ?_, fun j j0 j1 => ?_, hS⟩, by simp [gt, iv, e14]; omega⟩
      · have e : ({ slT k i with nx := 2 } : Sc).miss = slT k (i + 1) := (if_neg (show ¬ i + 1 = slots k by omega) : (if i + 1 = slots k then ({ slT k i with i := i + 1, nx := 1 } : Sc).turn else ({ slT k i with i := i + 1, nx := 1 } : Sc)) = _)
        exact e
      · have e : ({ slT k i with nx := 2 } : Sc).miss = ({ slT k i with i := i + 1, nx := 1 } : Sc).turn := (if_pos (show i + 1 = slots k by omega) : (if i + 1 = slots k then ({ slT k i with i := i + 1, nx := 1 } : Sc).turn else ({ slT k i with i := i + 1, nx := 1 } : Sc)) = _)
        show ({ slT k i with nx := 2 } : Sc).miss.dn = true ∧ ({ slT k i with nx := 2 } : Sc).miss.fd = false
        rw [e]
        exact ⟨rfl, rfl⟩
      · show w64 (w2.st + 1) = _
        rw [hst2, st2, st3, hst]; omega
      · show (w2.swap 0 (3 + i) (opn k) (way 0)).get (3 + j) = _
        rw [hg3 _ (by omega), hg2 _ (by omega), if_neg (by omega)]; exact hop j (by omega) j1
    · simp only [e14, e1, e5, e6, e12, e13, wrap_wu, wu1, i0, hb, ↓D0, ↓D1, ↓D2, ↓D3, ↓D4, ↓D5, ↓D6, ↓D7, ↓D8, ↓D9, U0, U1, U2, U3, U4, U5, U6, U7, U8, U9, U10, ↓reduceIte, Nat.reduceAdd, Nat.reduceMul, Nat.reduceSub, Nat.reduceEqDiff, Nat.reduceBEq, Nat.reduceLeDiff, Nat.reduceLT, Int.reduceAdd, Int.reduceMul, Int.reduceSub, Int.reduceLT, Int.reduceLE, Int.reduceToNat, Int.reduceEq, Int.reduceNe, Int.reduceBEq, Int.reduceBNe, ne_eq, eq_self]
      refine callT_of (c_scstep twf2 (fun _ => tof2) hS) ?_
      rintro v H' ⟨rfl, hS⟩
      rw [slT_take i0 (by omega) (show (w.load 0 (3 + i)).get (3 + i) = opn k from hz)] at hS
      simp only [e14, e1, e5, e6, e12, e13, ↓D0, ↓D1, ↓D2, ↓D3, ↓D4, ↓D5, ↓D6, ↓D7, ↓D8, ↓D9, U0, U1, U2, U3, U4, U5, U6, U7, U8, U9, U10, ↓reduceIte, Nat.reduceAdd, Nat.reduceMul, Nat.reduceSub, Nat.reduceEqDiff, Nat.reduceBEq, Nat.reduceLeDiff, Nat.reduceLT, Int.reduceAdd, Int.reduceMul, Int.reduceSub, Int.reduceLT, Int.reduceLE, Int.reduceToNat, Int.reduceEq, Int.reduceNe, Int.reduceBEq, Int.reduceBNe, ne_eq, eq_self]
      refine callT_of (c_scfound (fun _ => ⟨by show (0 : Int) < 1; decide, by show (0 : Int) ≤ 0 + 0; decide, by show (0 : Int) + 0 ≤ _; decide⟩) hS) ?_
      rintro v H' ⟨rfl, hS⟩
      simp only [e14, e1, e5, e6, e12, e13, ↓D0, ↓D1, ↓D2, ↓D3, ↓D4, ↓D5, ↓D6, ↓D7, ↓D8, ↓D9, U0, U1, U2, U3, U4, U5, U6, U7, U8, U9, U10, ↓reduceIte, Nat.reduceAdd, Nat.reduceMul, Nat.reduceSub, Nat.reduceEqDiff, Nat.reduceBEq, Nat.reduceLeDiff, Nat.reduceLT, Int.reduceAdd, Int.reduceMul, Int.reduceSub, Int.reduceLT, Int.reduceLE, Int.reduceToNat, Int.reduceEq, Int.reduceNe, Int.reduceBEq, Int.reduceBNe, ne_eq, eq_self]
      refine callT_of (c_scdone hS) ?_
      rintro v H' ⟨rfl, hS⟩
      have q1 : (i == i) = true := by simp
      have q2 : (w64 (w64 (w.st + 1) + 1) == 3 + 2 * i) = true := by rw [st2, st3, hst]; exact beq_iff_eq.2 (by omega)
      simp only [e14, e1, e5, e6, e12, e13, slT, q1, ↓D0, ↓D1, ↓D2, ↓D3, ↓D4, ↓D5, ↓D6, ↓D7, ↓D8, ↓D9, U0, U1, U2, U3, U4, U5, U6, U7, U8, U9, U10, ↓reduceIte, Nat.reduceAdd, Nat.reduceMul, Nat.reduceSub, Nat.reduceEqDiff, Nat.reduceBEq, Nat.reduceLeDiff, Nat.reduceLT, Int.reduceAdd, Int.reduceMul, Int.reduceSub, Int.reduceLT, Int.reduceLE, Int.reduceToNat, Int.reduceEq, Int.reduceNe, Int.reduceBEq, Int.reduceBNe, ne_eq, eq_self]
      refine callT_of (c_steps hS.tail) ?_
      rintro v H' ⟨rfl, hS⟩
      have q3 : (((w.load 0 (3 + i)).swap 0 (3 + i) (opn k) (way 0)).st == 3 + 2 * i) = true := q2
      simp only [e14, e1, e5, e6, e12, e13, wrap_w64, m2, m3, q3, ↓D0, ↓D1, ↓D2, ↓D3, ↓D4, ↓D5, ↓D6, ↓D7, ↓D8, ↓D9, U0, U1, U2, U3, U4, U5, U6, U7, U8, U9, U10, ↓reduceIte, Nat.reduceAdd, Nat.reduceMul, Nat.reduceSub, Nat.reduceEqDiff, Nat.reduceBEq, Nat.reduceLeDiff, Nat.reduceLT, Int.reduceAdd, Int.reduceMul, Int.reduceSub, Int.reduceLT, Int.reduceLE, Int.reduceToNat, Int.reduceEq, Int.reduceNe, Int.reduceBEq, Int.reduceBNe, ne_eq, eq_self]
      exact hS.tail.tail.tail.tail
  · have hi : i = slots k := by omega
    obtain ⟨g2, g3⟩ := ht2 hi
    have g1 : decide (i < slots k) = false := decide_eq_false hlt
    have m2 : w64 (2 * slots k) = 2 * slots k := w64_eq (by omega) (by omega)
    have m3 : w64 (1 + 2 * slots k) = 1 + 2 * slots k := w64_eq (by omega) (by omega)
    have q3 : (w.st == 1 + 2 * slots k) = true := by rw [hst, hi]; simp
    simp only [e14, e1, e5, e6, e12, e13, g1, ↓D0, ↓D1, ↓D2, ↓D3, ↓D4, ↓D5, ↓D6, ↓D7, ↓D8, ↓D9, U0, U1, U2, U3, U4, U5, U6, U7, U8, U9, U10, ↓reduceIte, Nat.reduceAdd, Nat.reduceMul, Nat.reduceSub, Nat.reduceEqDiff, Nat.reduceBEq, Nat.reduceLeDiff, Nat.reduceLT, Int.reduceAdd, Int.reduceMul, Int.reduceSub, Int.reduceLT, Int.reduceLE, Int.reduceToNat, Int.reduceEq, Int.reduceNe, Int.reduceBEq, Int.reduceBNe, ne_eq, eq_self]
    refine callT_of (c_scfound (fun h => by rw [g3] at h; cases h) hS) ?_
    rintro v H' ⟨rfl, hS⟩
    simp only [e14, e1, e5, e6, e12, e13, ↓D0, ↓D1, ↓D2, ↓D3, ↓D4, ↓D5, ↓D6, ↓D7, ↓D8, ↓D9, U0, U1, U2, U3, U4, U5, U6, U7, U8, U9, U10, ↓reduceIte, Nat.reduceAdd, Nat.reduceMul, Nat.reduceSub, Nat.reduceEqDiff, Nat.reduceBEq, Nat.reduceLeDiff, Nat.reduceLT, Int.reduceAdd, Int.reduceMul, Int.reduceSub, Int.reduceLT, Int.reduceLE, Int.reduceToNat, Int.reduceEq, Int.reduceNe, Int.reduceBEq, Int.reduceBNe, ne_eq, eq_self]
    refine callT_of (c_scdone hS) ?_
    rintro v H' ⟨rfl, hS⟩
    simp only [e14, e1, e5, e6, e12, e13, g2, g3, ↓D0, ↓D1, ↓D2, ↓D3, ↓D4, ↓D5, ↓D6, ↓D7, ↓D8, ↓D9, U0, U1, U2, U3, U4, U5, U6, U7, U8, U9, U10, ↓reduceIte, Nat.reduceAdd, Nat.reduceMul, Nat.reduceSub, Nat.reduceEqDiff, Nat.reduceBEq, Nat.reduceLeDiff, Nat.reduceLT, Int.reduceAdd, Int.reduceMul, Int.reduceSub, Int.reduceLT, Int.reduceLE, Int.reduceToNat, Int.reduceEq, Int.reduceNe, Int.reduceBEq, Int.reduceBNe, ne_eq, eq_self]
    refine callT_of (c_steps hS.tail) ?_
    rintro v H' ⟨rfl, hS⟩
    simp only [e14, e1, e5, e6, e12, e13, wrap_w64, m2, m3, q3, ↓D0, ↓D1, ↓D2, ↓D3, ↓D4, ↓D5, ↓D6, ↓D7, ↓D8, ↓D9, U0, U1, U2, U3, U4, U5, U6, U7, U8, U9, U10, ↓reduceIte, Nat.reduceAdd, Nat.reduceMul, Nat.reduceSub, Nat.reduceEqDiff, Nat.reduceBEq, Nat.reduceLeDiff, Nat.reduceLT, Int.reduceAdd, Int.reduceMul, Int.reduceSub, Int.reduceLT, Int.reduceLE, Int.reduceToNat, Int.reduceEq, Int.reduceNe, Int.reduceBEq, Int.reduceBNe, ne_eq, eq_self]
    exact hS.tail.tail.tail.tail
end

theorem l_slotloses {W : World} (a : Int) (ha : 0 ≤ a ∧ a ≤ 255) (b : Int) (hb : 0 ≤ b ∧ b ≤ 65535) :
    CallP Try.prog W 21 #[.int .u8 a, .int .u16 b] (memOf W) fun v H' => v = .bool true ∧ Sub (memOf W) H' :=
  (c_slotloses ha.1 ha.2 hb.1 hb.2 (Sep.one _)).mono fun v H' ⟨h1, h2⟩ => ⟨h1, h2.head⟩
end Go.Proofs.Ytfapipblclikbaa
