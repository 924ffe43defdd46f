/-
  SlotMany, walked: many claimers of slots that take turns. Conditions: none.
-/
import Derived.Test.YtfapipblclikbaaSlotK
import Derived.Test.YtfapipblclikbaaGrow
import Derived.Test.YtfapipblclikbaaRowB
import Derived.Test.YtfapipblclikbaaFam
import Derived.Test.YtfapipblclikbaaMaMany5
set_option linter.unusedVariables false
set_option linter.unusedSimpArgs false
set_option maxRecDepth 8000
namespace Go.Proofs.Ytfapipblclikbaa
open Go Go.Ev Go.Pl Go.Ma

def obit (m : Int) (i : Nat) : Bool := bits BinOp.and IntKind.u16 (m.fdiv (2 ^ min i IntKind.u16.bits)) 1 == 1
theorem obit_not (m : Int) (i : Nat) : (bits BinOp.and IntKind.u16 (m.fdiv (2 ^ min i IntKind.u16.bits)) 1 == 0) = !obit m i := by
  have h : 0 ≤ bits BinOp.and IntKind.u16 (m.fdiv (2 ^ min i IntKind.u16.bits)) 1 ∧ bits BinOp.and IntKind.u16 (m.fdiv (2 ^ min i IntKind.u16.bits)) 1 ≤ 1 := by
    generalize m.fdiv (2 ^ min i IntKind.u16.bits) = z
    unfold bits
    have e : (BitVec.ofInt IntKind.u16.bits z &&& BitVec.ofInt IntKind.u16.bits 1).toNat ≤ 1 := by
      rw [BitVec.toNat_and]
      exact Nat.and_le_right
    simp only
    rw [IntKind.wrap_u16]
    omega
  unfold obit
  generalize bits BinOp.and IntKind.u16 (m.fdiv (2 ^ min i IntKind.u16.bits)) 1 = z at h
  rcases (by omega : z = 0 ∨ z = 1) with rfl | rfl <;> rfl
def smF (n : Nat) (K m : Int) (i : Nat) : Nat → Int := fun j => if n + 1 ≤ j ∧ j - (n + 1) < i then (if obit m (j - (n + 1)) = true then putSl 1 K else putSl 3 K) else if j = n then putPg 2 K 0 else 0
theorem smF_U (n : Nat) (K m : Int) (i j : Nat) : U (smF n K m i j) := by
  unfold smF; split
  · split; exact U_putSl ..; exact U_putSl ..
  · split; exact U_putPg ..; exact U_0
theorem smF_zero (n : Nat) (K m : Int) : (fun j => if j = n then putPg 2 K 0 else 0) = smF n K m 0 := by
  funext j; unfold smF
  rw [if_neg (show ¬ (n + 1 ≤ j ∧ j - (n + 1) < 0) by omega)]
theorem smF_next {n : Nat} {K m : Int} {i : Nat} {v : Int} (h : v = if obit m i = true then putSl 1 K else putSl 3 K) : (fun j => if j = n + 1 + i then v else smF n K m i j) = smF n K m (i + 1) := by
  funext j
  unfold smF
  by_cases e : j = n + 1 + i
  · subst e
    rw [if_pos rfl, if_pos (show n + 1 ≤ n + 1 + i ∧ n + 1 + i - (n + 1) < i + 1 from ⟨by omega, by omega⟩), h, show n + 1 + i - (n + 1) = i by omega]
  · rw [if_neg e]
    by_cases e2 : n + 1 ≤ j ∧ j - (n + 1) < i
    · rw [if_pos e2, if_pos (show n + 1 ≤ j ∧ j - (n + 1) < i + 1 from ⟨e2.1, by omega⟩)]
    · rw [if_neg e2, if_neg (show ¬ (n + 1 ≤ j ∧ j - (n + 1) < i + 1) by omega)]
section
variable {W : World} {H h : Hp} {l : List Hp} {n n2 cap2 : Nat} {a2 : Option Addr} {tt : Nat → Int} {K m : Int}

def nmG (K m : Int) (n n2 cap2 : Nat) (a2 : Option Addr) (x : Nat) (F' : Fr) : Prop := gt F' 0 = .int .i64 K ∧ gt F' 1 = .int .u16 m ∧ gt F' 2 = .int .i64 (n : Int) ∧ gt F' 3 = .slice a2 n2 cap2 ∧ gt F' 9 = .pointer (some ⟨x, 0, none⟩)
def nmA (N y : Nat) (K m : Int) (n n2 cap2 : Nat) (a2 : Option Addr) (x : Nat) (L : List Hp) (F' : Fr) (H' : Hp) : Prop :=
  ∃ i : Nat, (i : Int) ≤ slots K ∧ gt F' 12 = .int .i64 (i : Int) ∧ gt F' 11 = .int .i64 (cnt (obit m) i : Nat) ∧ gt F' 10 = .slice (some ⟨y, 0, none⟩) N N ∧ nmG K m n n2 cap2 a2 x F' ∧ Sep (sg y (.cells (urow N (smF n K m i)) 26 (0, 0)) :: L) H'
def nmN (b : Nat) (K m : Int) (n n2 cap2 : Nat) (a2 : Option Addr) (x : Nat) (F' : Fr) : Prop := gt F' 11 = .int .i64 (cnt (obit m) (slots K).toNat : Nat) ∧ gt F' 14 = .pointer (some ⟨b, 0, none⟩) ∧ nmG K m n n2 cap2 a2 x F'
def nmB (w0 : Wd) (b s : Nat) (K m : Int) (n n2 cap2 : Nat) (a2 : Option Addr) (x : Nat) (L : List Hp) (F' : Fr) (H' : Hp) : Prop :=
  ∃ (i : Nat) (a : Option Addr) (cap : Nat) (g : Hp) (ks : Nat → Nat), i ≤ n ∧ gt F' 16 = .int .i64 (i : Int) ∧ gt F' 15 = .slice a i cap ∧ nmN b K m n n2 cap2 a2 x F' ∧ Gr 125 a i cap (fun j => .pointer (some ⟨ks j, 0, none⟩)) g ∧
    Sep (g :: wB b s w0 :: wR s w0 :: (fam i (fun c => scB (ks c) (Sc.new ⟨1, n, 0⟩ c K 0)) ++ L)) H'
def nmC (a : Option Addr) (cap : Nat) (g : Hp) (ks : Nat → Nat) (b s : Nat) (K m : Int) (n n2 cap2 : Nat) (a2 : Option Addr) (x : Nat) (L : List Hp) (F' : Fr) (H' : Hp) : Prop :=
  ∃ (i : Nat) (ts : Nat → Sc) (w : Wd), i ≤ n2 ∧ gt F' 17 = .int .i64 (i : Int) ∧ gt F' 15 = .slice a n cap ∧ nmN b K m n n2 cap2 a2 x F' ∧ SlInv n ⟨1, n, 0⟩ K (fun q => obit m q.toNat = true) ts w ∧ (∀ c, (ts c).Bd) ∧
    Sep (g :: wB b s w :: wR s w :: (fam n (fun c => scB (ks c) (ts c)) ++ L)) H'
def nmD (a : Option Addr) (cap : Nat) (g : Hp) (ks : Nat → Nat) (b s sb : Nat) (K m : Int) (n n2 cap2 : Nat) (a2 : Option Addr) (x : Nat) (L : List Hp) (F' : Fr) (H' : Hp) : Prop :=
  ∃ (c : Nat) (ts : Nat → Sc) (w : Wd) (sv : Nat → Bool), c ≤ n ∧ gt F' 20 = .int .i64 (c : Int) ∧ gt F' 19 = .int .i64 (cnt (fun d => (ts d).fd) c : Nat) ∧ gt F' 18 = .slice (some ⟨sb, 0, none⟩) 16 16 ∧ gt F' 15 = .slice a n cap ∧ nmN b K m n n2 cap2 a2 x F' ∧
    SlInv n ⟨1, n, 0⟩ K (fun q => obit m q.toNat = true) ts w ∧ (∀ c, (ts c).Bd) ∧ (∀ d, d < c → (ts d).dn = true) ∧ (∀ j : Nat, sv j = true → ∃ d, d < c ∧ (ts d).fd = true ∧ (ts d).i = j) ∧
    Sep (g :: wB b s w :: wR s w :: (fam n (fun c => scB (ks c) (ts c)) ++ (sg sb (.cells (brow 16 sv) 4 (0, 0)) :: L))) H'
def nmE (a : Option Addr) (cap : Nat) (g : Hp) (ks : Nat → Nat) (b s sb : Nat) (c : Nat) (ts0 : Nat → Sc) (sv : Nat → Bool) (K m : Int) (n n2 cap2 : Nat) (a2 : Option Addr) (x : Nat) (L : List Hp) (F' : Fr) (H' : Hp) : Prop :=
  ∃ (i : Int) (ts : Nat → Sc) (w : Wd), 0 ≤ i ∧ i ≤ 40 ∧ gt F' 21 = .int .i64 i ∧ gt F' 20 = .int .i64 (c : Int) ∧ gt F' 19 = .int .i64 (cnt (fun d => (ts0 d).fd) c : Nat) ∧ gt F' 18 = .slice (some ⟨sb, 0, none⟩) 16 16 ∧ gt F' 15 = .slice a n cap ∧ nmN b K m n n2 cap2 a2 x F' ∧
    SlInv n ⟨1, n, 0⟩ K (fun q => obit m q.toNat = true) ts w ∧ (∀ c, (ts c).Bd) ∧ (∀ d, d ≠ c → ts d = ts0 d) ∧ (ts c).left ≤ max 0 (33 - i) ∧
    Sep (g :: wB b s w :: wR s w :: (fam n (fun c => scB (ks c) (ts c)) ++ (sg sb (.cells (brow 16 sv) 4 (0, 0)) :: L))) H'

theorem c_many (k0 : 0 ≤ K) (k3 : K ≤ 3) (m0 : 0 ≤ m) (m1 : m ≤ 65535) (nn0 : 1 ≤ n) (nn1 : n ≤ 10) (hr2 : RowV h a2 n2 (fun i => .int .u8 (tt i))) (hn2 : n2 ≤ 9223372036854775807) (ht : ∀ i, i < n2 → 0 ≤ tt i ∧ tt i ≤ 255) (hS : Sep (h :: l) H) :
    CallP Try.prog W 103 #[.int .i64 K, .int .u16 m, .int .i64 (n : Int), .slice a2 n2 cap2] H fun v H' => v = .bool true ∧ Sep (h :: l) H' := by
  refine CallP.of mixed Try.func103 tr103 (by show 4 ≤ _; decide) fun W _ => ?_
  have sb0 := slots_bd K
  have sp := slots_pos k0 k3
  simp only [↓D0, ↓D1, ↓D2, ↓D3, ↓D4, ↓D5, ↓D6, ↓D7, ↓D8, ↓D9, U0, U1, U2, U3, U4, U5, U6, U7, U8, U9, U10, ↓reduceIte, Nat.reduceAdd, Nat.reduceMul, Nat.reduceSub, Nat.reduceEqDiff, Nat.reduceBEq, Nat.reduceLeDiff, Nat.reduceLT, Int.reduceAdd, Int.reduceMul, Int.reduceSub, Int.reduceLT, Int.reduceLE, Int.reduceToNat, Int.reduceEq, Int.reduceNe, Int.reduceBEq, Int.reduceBNe, ne_eq, eq_self]
  refine newB_intro fun x hx f3 f4 => ?_
  have hS := hS.new f3 (.cells #[.int .i64 0, .int .i64 0, .int .i64 0] 57 (0, 0))
  have hS := hS.set (.cells #[.int .i64 1, .int .i64 (n : Int), .int .i64 0] 57 (0, 0))
  rw [Ev.upd_upd] at hS
  have hx1 := hS.look
  have r1 := fun o n => rdn_of hx1 o n
  have hm : may 1 n 0 = true := (may_iff _ _ _).2 (by omega)
  obtain ⟨N, hN⟩ : ∃ N : Nat, words 1 n 0 = (N : Int) := ⟨(words 1 n 0).toNat, by have := words_le hm; omega⟩
  have hNb := words_le hm
  have hN2 : N ≤ 2000 := by omega
  have hNw : (N : Int) = n + 1 + 16 := by rw [← hN]; unfold words; rw [if_pos hm]; omega
  have n0 : (0 : Int) ≤ (N : Int) := by omega
  have n8 : 8 * (N : Int) ≤ 281474976710656 := by omega
  have n9 : (N : Int) ≤ 9223372036854775807 := by omega
  have nle : (N : Int) ≤ (N : Int) := Int.le_refl _
  simp only [Ev.upd_upd, hx1, r1, u_words, hN, n0, n8, n9, nle, Int.toNat_natCast, ↓D0, ↓D1, ↓D2, ↓D3, ↓D4, ↓D5, ↓D6, ↓D7, ↓D8, ↓D9, U0, U1, U2, U3, U4, U5, U6, U7, U8, U9, U10, ↓reduceIte, Nat.reduceAdd, Nat.reduceMul, Nat.reduceSub, Nat.reduceEqDiff, Nat.reduceBEq, Nat.reduceLeDiff, Nat.reduceLT, Int.reduceAdd, Int.reduceMul, Int.reduceSub, Int.reduceLT, Int.reduceLE, Int.reduceToNat, Int.reduceEq, Int.reduceNe, Int.reduceBEq, Int.reduceBNe, ne_eq, eq_self]
  refine newB_intro fun y hy f5 f6 => ?_
  have hS := hS.new f5 (.cells (urow N fun _ => 0) 26 (0, 0))
  have hS1 := hS.set (.cells (urow N (smF n K m 0)) 26 (0, 0))
  rw [Ev.upd_upd] at hS1
  have hy1 := hS.look
  have q0 : (0 : Int) ≤ (n : Int) := by omega
  have q1 : (n : Int) < (N : Int) := by omega
  have q1' : n < N := by omega
  simp only [urow_zero, urow_size, urow_set, u_putpg, q0, q1, q1', Int.toNat_natCast, smF_zero n K m, Ev.upd_upd, ↓D0, ↓D1, ↓D2, ↓D3, ↓D4, ↓D5, ↓D6, ↓D7, ↓D8, ↓D9, U0, U1, U2, U3, U4, U5, U6, U7, U8, U9, U10, ↓reduceIte, Nat.reduceAdd, Nat.reduceMul, Nat.reduceSub, Nat.reduceEqDiff, Nat.reduceBEq, Nat.reduceLeDiff, Nat.reduceLT, Int.reduceAdd, Int.reduceMul, Int.reduceSub, Int.reduceLT, Int.reduceLE, Int.reduceToNat, Int.reduceEq, Int.reduceNe, Int.reduceBEq, Int.reduceBNe, ne_eq, eq_self]
  refine loop_intro (nmA N y K m n n2 cap2 a2 x (sg x (.cells #[.int .i64 1, .int .i64 (n : Int), .int .i64 0] 57 (0, 0)) :: h :: l)) (fun F' _ => (16 - iv (gt F' 12)).toNat)
    ⟨0, by omega, by simp [gt], by simp [gt, cnt], by simp [gt], ⟨rfl, rfl, rfl, rfl, rfl⟩, hS1⟩ ?_
  rintro F' H' ⟨i, i1, e12, e11, e10, ⟨e0, e1, e2, e3, e9⟩, hS⟩
  by_cases hi : (i : Int) < slots K
  · have d1 : decide ((i : Int) < slots K) = true := decide_eq_true hi
    have wi : w64 ((i : Int) + 1) = ((i + 1 : Nat) : Int) := by rw [w64_eq (by omega) (by omega)]; omega
    have wn1 : w64 ((n : Int) + 1) = (n : Int) + 1 := w64_eq (by omega) (by omega)
    have wn2 : w64 ((n : Int) + 1 + (i : Int)) = (n : Int) + 1 + (i : Int) := w64_eq (by omega) (by omega)
    have p0 : (0 : Int) ≤ (n : Int) + 1 + (i : Int) := by omega
    have p1 : (n : Int) + 1 + (i : Int) < (N : Int) := by omega
    have p2 : ((n : Int) + 1 + (i : Int)).toNat = n + 1 + i := by omega
    have p3 : n + 1 + i < N := by omega
    have i0 : (0 : Int) ≤ (i : Int) := by omega
    have wui : wu (i : Int) = (i : Int) := wu_eq (by omega) (by omega)
    have hy0 := hS.look
    simp only [e12, e11, e10, e0, e1, e2, e3, e9, u_slots, d1, ↓D0, ↓D1, ↓D2, ↓D3, ↓D4, ↓D5, ↓D6, ↓D7, ↓D8, ↓D9, U0, U1, U2, U3, U4, U5, U6, U7, U8, U9, U10, ↓reduceIte, Nat.reduceAdd, Nat.reduceMul, Nat.reduceSub, Nat.reduceEqDiff, Nat.reduceBEq, Nat.reduceLeDiff, Nat.reduceLT, Int.reduceAdd, Int.reduceMul, Int.reduceSub, Int.reduceLT, Int.reduceLE, Int.reduceToNat, Int.reduceEq, Int.reduceNe, Int.reduceBEq, Int.reduceBNe, ne_eq, eq_self]
    refine newB_intro fun pb hpb f7 f8 => ?_
    have hSn := hS.new f7 (.cells #[.int .i64 0, .int .i64 0] 87 (0, 0))
    have nyp := hSn.neq 0 1 (by decide) rfl rfl
    have npy := hSn.qen 0 1 (by decide) rfl rfl
    have hy1 := hSn.lk 1 rfl
    cases hb : obit m i
    · have hb2 : (bits BinOp.and IntKind.u16 (m.fdiv (2 ^ min i IntKind.u16.bits)) 1 == 1) = false := hb
      have hc : cnt (obit m) (i + 1) = cnt (obit m) i := by show _ + (if (obit m i) = true then 1 else 0) = _; rw [hb]; rfl
      have hv : putSl 3 K = if obit m i = true then putSl 1 K else putSl 3 K := by rw [hb]; rfl
      have hS3 := ((hSn.set (.cells #[.int .i64 3, .int .i64 K] 87 (0, 0))).p1.set (.cells (urow N (smF n K m (i + 1))) 26 (0, 0)))
      simp only [e12, e11, e10, e0, e1, e2, e3, e9, wrap_wu, wui, i0, hb2, nyp, npy, hy0, hy1, u_putsl, wrap_w64, wn1, wn2, p0, p1, p2, p3, urow_size, urow_set, smF_next hv, wi, Ev.upd_upd, Int.toNat_natCast, ↓D0, ↓D1, ↓D2, ↓D3, ↓D4, ↓D5, ↓D6, ↓D7, ↓D8, ↓D9, U0, U1, U2, U3, U4, U5, U6, U7, U8, U9, U10, ↓reduceIte, Nat.reduceAdd, Nat.reduceMul, Nat.reduceSub, Nat.reduceEqDiff, Nat.reduceBEq, Nat.reduceLeDiff, Nat.reduceLT, Int.reduceAdd, Int.reduceMul, Int.reduceSub, Int.reduceLT, Int.reduceLE, Int.reduceToNat, Int.reduceEq, Int.reduceNe, Int.reduceBEq, Int.reduceBNe, ne_eq, eq_self]
      rw [Ev.upd_upd] at hS3
      exact ⟨⟨i + 1, by omega, by simp [gt], by rw [hc]; simp [gt, e11], by simp [gt, e10], ⟨by simp [gt, e0], by simp [gt, e1], by simp [gt, e2], by simp [gt, e3], by simp [gt, e9]⟩, hS3.p1.tail⟩, by simp [gt, iv, e12]; omega⟩
    · have hb2 : (bits BinOp.and IntKind.u16 (m.fdiv (2 ^ min i IntKind.u16.bits)) 1 == 1) = true := hb
      have hc : cnt (obit m) (i + 1) = cnt (obit m) i + 1 := by show _ + (if (obit m i) = true then 1 else 0) = _; rw [hb]; rfl
      have hcl := cnt_le (obit m) i
      have wc : w64 ((cnt (obit m) i : Nat) + 1 : Int) = ((cnt (obit m) (i + 1) : Nat) : Int) := by rw [hc, w64_eq (by omega) (by omega)]; omega
      have hv : putSl 1 K = if obit m i = true then putSl 1 K else putSl 3 K := by rw [hb]; rfl
      have hS3 := ((hSn.set (.cells #[.int .i64 1, .int .i64 K] 87 (0, 0))).p1.set (.cells (urow N (smF n K m (i + 1))) 26 (0, 0)))
      simp only [e12, e11, e10, e0, e1, e2, e3, e9, wrap_wu, wui, i0, hb2, nyp, npy, hy0, hy1, u_putsl, wrap_w64, wn1, wn2, p0, p1, p2, p3, urow_size, urow_set, smF_next hv, wi, wc, Ev.upd_upd, Int.toNat_natCast, ↓D0, ↓D1, ↓D2, ↓D3, ↓D4, ↓D5, ↓D6, ↓D7, ↓D8, ↓D9, U0, U1, U2, U3, U4, U5, U6, U7, U8, U9, U10, ↓reduceIte, Nat.reduceAdd, Nat.reduceMul, Nat.reduceSub, Nat.reduceEqDiff, Nat.reduceBEq, Nat.reduceLeDiff, Nat.reduceLT, Int.reduceAdd, Int.reduceMul, Int.reduceSub, Int.reduceLT, Int.reduceLE, Int.reduceToNat, Int.reduceEq, Int.reduceNe, Int.reduceBEq, Int.reduceBNe, ne_eq, eq_self]
      rw [Ev.upd_upd] at hS3
      exact ⟨⟨i + 1, by omega, by simp [gt], by simp [gt], by simp [gt, e10], ⟨by simp [gt, e0], by simp [gt, e1], by simp [gt, e2], by simp [gt, e3], by simp [gt, e9]⟩, hS3.p1.tail⟩, by simp [gt, iv, e12]; omega⟩
  have d1 : decide ((i : Int) < slots K) = false := decide_eq_false hi
  have hiS : i = (slots K).toNat := by omega
  rw [hiS] at e11 hS
  simp only [e12, e11, e10, e0, e1, e2, e3, e9, u_slots, d1, ↓D0, ↓D1, ↓D2, ↓D3, ↓D4, ↓D5, ↓D6, ↓D7, ↓D8, ↓D9, U0, U1, U2, U3, U4, U5, U6, U7, U8, U9, U10, ↓reduceIte, Nat.reduceAdd, Nat.reduceMul, Nat.reduceSub, Nat.reduceEqDiff, Nat.reduceBEq, Nat.reduceLeDiff, Nat.reduceLT, Int.reduceAdd, Int.reduceMul, Int.reduceSub, Int.reduceLT, Int.reduceLE, Int.reduceToNat, Int.reduceEq, Int.reduceNe, Int.reduceBEq, Int.reduceBNe, ne_eq, eq_self]
  refine callT_of (c_fill (n := N) hN2 (RowU.own y N _ _ _) hS) ?_
  rintro v H' ⟨b, s, rfl, hS⟩
  have hS := hS.p2.tail
  obtain ⟨w0, hw0⟩ : ∃ w0, w0 = rowW N (smF n K m (slots K).toNat) := ⟨_, rfl⟩
  rw [← hw0] at hS
  have hof0 : w0.of ⟨1, n, 0⟩ := by rw [hw0]; exact rowW_of hN.symm fun i _ => smF_U n K m _ i
  simp only [e12, e11, e10, e0, e1, e2, e3, e9, ↓D0, ↓D1, ↓D2, ↓D3, ↓D4, ↓D5, ↓D6, ↓D7, ↓D8, ↓D9, U0, U1, U2, U3, U4, U5, U6, U7, U8, U9, U10, ↓reduceIte, Nat.reduceAdd, Nat.reduceMul, Nat.reduceSub, Nat.reduceEqDiff, Nat.reduceBEq, Nat.reduceLeDiff, Nat.reduceLT, Int.reduceAdd, Int.reduceMul, Int.reduceSub, Int.reduceLT, Int.reduceLE, Int.reduceToNat, Int.reduceEq, Int.reduceNe, Int.reduceBEq, Int.reduceBNe, ne_eq, eq_self]
  refine callT_of (c_awake9 hS) ?_
  rintro v H' ⟨rfl, hS⟩
  simp only [e12, e11, e10, e0, e1, e2, e3, e9, ↓D0, ↓D1, ↓D2, ↓D3, ↓D4, ↓D5, ↓D6, ↓D7, ↓D8, ↓D9, U0, U1, U2, U3, U4, U5, U6, U7, U8, U9, U10, ↓reduceIte, Nat.reduceAdd, Nat.reduceMul, Nat.reduceSub, Nat.reduceEqDiff, Nat.reduceBEq, Nat.reduceLeDiff, Nat.reduceLT, Int.reduceAdd, Int.reduceMul, Int.reduceSub, Int.reduceLT, Int.reduceLE, Int.reduceToNat, Int.reduceEq, Int.reduceNe, Int.reduceBEq, Int.reduceBNe, ne_eq, eq_self]
  refine loop_intro (nmB w0 b s K m n n2 cap2 a2 x (sg x (.cells #[.int .i64 1, .int .i64 (n : Int), .int .i64 0] 57 (0, 0)) :: h :: l)) (fun F' _ => (n - iv (gt F' 16)).toNat)
    ⟨0, none, 0, _, fun _ => 0, by omega, by simp [gt], by simp [gt], ⟨by simp [gt, e11], by simp [gt], ⟨by simp [gt, e0], by simp [gt, e1], by simp [gt, e2], by simp [gt, e3], by simp [gt, e9]⟩⟩, Gr.none _ _, hS.nothing⟩ ?_
  rintro F' H' ⟨i, a, cap, g, ks, i1, e16, e15, ⟨e11, e14, ⟨e0, e1, e2, e3, e9⟩⟩, hG, hS⟩
  have hL := hS.tail.tail.tail.drop
  have hx1 := hL.lk 0 rfl
  have r1 := fun o n => rdn_of hx1 o n
  by_cases hi : i < n
  · have d1 : decide ((i : Int) < (n : Int)) = true := decide_eq_true (by omega)
    have wi : w64 ((i : Int) + 1) = ((i + 1 : Nat) : Int) := by rw [w64_eq (by omega) (by omega)]; omega
    simp only [e16, e15, e11, e14, e0, e1, e2, e3, e9, d1, hx1, r1, ↓D0, ↓D1, ↓D2, ↓D3, ↓D4, ↓D5, ↓D6, ↓D7, ↓D8, ↓D9, U0, U1, U2, U3, U4, U5, U6, U7, U8, U9, U10, ↓reduceIte, Nat.reduceAdd, Nat.reduceMul, Nat.reduceSub, Nat.reduceEqDiff, Nat.reduceBEq, Nat.reduceLeDiff, Nat.reduceLT, Int.reduceAdd, Int.reduceMul, Int.reduceSub, Int.reduceLT, Int.reduceLE, Int.reduceToNat, Int.reduceEq, Int.reduceNe, Int.reduceBEq, Int.reduceBNe, ne_eq, eq_self]
    refine callT_of (c_scnew (sh := ⟨1, n, 0⟩) hS) ?_
    rintro v H' ⟨k, rfl, hS⟩
    simp only [e16, e15, e11, e14, e0, e1, e2, e3, e9, ↓D0, ↓D1, ↓D2, ↓D3, ↓D4, ↓D5, ↓D6, ↓D7, ↓D8, ↓D9, U0, U1, U2, U3, U4, U5, U6, U7, U8, U9, U10, ↓reduceIte, Nat.reduceAdd, Nat.reduceMul, Nat.reduceSub, Nat.reduceEqDiff, Nat.reduceBEq, Nat.reduceLeDiff, Nat.reduceLT, Int.reduceAdd, Int.reduceMul, Int.reduceSub, Int.reduceLT, Int.reduceLE, Int.reduceToNat, Int.reduceEq, Int.reduceNe, Int.reduceBEq, Int.reduceBNe, ne_eq, eq_self]
    refine newB_intro fun y2 hy2 f5 f6 => ?_
    have hS2 := hS.new f5 (.cells #[.pointer (some ⟨k, 0, none⟩)] 125 (0, 0))
    have ha : rds (upd H' y2 (.cells #[.pointer (some ⟨k, 0, none⟩)] 125 (0, 0))) (some ⟨y2, 0, none⟩) 1 = some #[.pointer (some ⟨k, 0, none⟩)] := by
      simp only [rds, ↓D0, ↓D1, ↓D2, ↓D3, ↓D4, ↓D5, ↓D6, ↓D7, ↓D8, ↓D9, U0, U1, U2, U3, U4, U5, U6, U7, U8, U9, U10, ↓reduceIte, Nat.reduceAdd, Nat.reduceMul, Nat.reduceSub, Nat.reduceEqDiff, Nat.reduceBEq, Nat.reduceLeDiff, Nat.reduceLT, Int.reduceAdd, Int.reduceMul, Int.reduceSub, Int.reduceLT, Int.reduceLE, Int.reduceToNat, Int.reduceEq, Int.reduceNe, Int.reduceBEq, Int.reduceBNe, ne_eq, eq_self]
    simp only [ha, e15, ↓D0, ↓D1, ↓D2, ↓D3, ↓D4, ↓D5, ↓D6, ↓D7, ↓D8, ↓D9, U0, U1, U2, U3, U4, U5, U6, U7, U8, U9, U10, ↓reduceIte, Nat.reduceAdd, Nat.reduceMul, Nat.reduceSub, Nat.reduceEqDiff, Nat.reduceBEq, Nat.reduceLeDiff, Nat.reduceLT, Int.reduceAdd, Int.reduceMul, Int.reduceSub, Int.reduceLT, Int.reduceLE, Int.reduceToNat, Int.reduceEq, Int.reduceNe, Int.reduceBEq, Int.reduceBNe, ne_eq, eq_self]
    refine grow (z0 := .pointer none) (bytes := 8) (v := .pointer (some ⟨k, 0, none⟩)) hG rfl (by omega) (by decide) (hS2.p2) (fun g2 H2 hG2 hS3 => ?_) (fun old cap2 b2 hG2 hS3 => ?_)
    all_goals
      simp only [e16, e15, e11, e14, e0, e1, e2, e3, e9, wrap_w64, wi, ↓D0, ↓D1, ↓D2, ↓D3, ↓D4, ↓D5, ↓D6, ↓D7, ↓D8, ↓D9, U0, U1, U2, U3, U4, U5, U6, U7, U8, U9, U10, ↓reduceIte, Nat.reduceAdd, Nat.reduceMul, Nat.reduceSub, Nat.reduceEqDiff, Nat.reduceBEq, Nat.reduceLeDiff, Nat.reduceLT, Int.reduceAdd, Int.reduceMul, Int.reduceSub, Int.reduceLT, Int.reduceLE, Int.reduceToNat, Int.reduceEq, Int.reduceNe, Int.reduceBEq, Int.reduceBNe, ne_eq, eq_self]
      have e : (fun j => Value.pointer (some ⟨if j = i then k else ks j, 0, none⟩)) = fun j => if j = i then Value.pointer (some ⟨k, 0, none⟩) else Value.pointer (some ⟨ks j, 0, none⟩) := by funext j; split <;> rfl
      rw [← e] at hG2
      exact ⟨⟨i + 1, _, _, _, fun j => if j = i then k else ks j, by omega, by simp [gt], by simp [gt], ⟨by simp [gt, e11], by simp [gt, e14], ⟨by simp [gt, e0], by simp [gt, e1], by simp [gt, e2], by simp [gt, e3], by simp [gt, e9]⟩⟩, hG2, Sep.more3 (hS3.p1.tail.p1) (by simp) (fun d hd => by simp [show d ≠ i by omega])⟩, by simp [gt, iv, e16]; omega⟩
  have d1 : decide ((i : Int) < (n : Int)) = false := decide_eq_false (by omega)
  have hin : i = n := by omega
  rw [hin] at e15 hG hS
  simp only [e16, e15, e11, e14, e0, e1, e2, e3, e9, d1, ↓D0, ↓D1, ↓D2, ↓D3, ↓D4, ↓D5, ↓D6, ↓D7, ↓D8, ↓D9, U0, U1, U2, U3, U4, U5, U6, U7, U8, U9, U10, ↓reduceIte, Nat.reduceAdd, Nat.reduceMul, Nat.reduceSub, Nat.reduceEqDiff, Nat.reduceBEq, Nat.reduceLeDiff, Nat.reduceLT, Int.reduceAdd, Int.reduceMul, Int.reduceSub, Int.reduceLT, Int.reduceLE, Int.reduceToNat, Int.reduceEq, Int.reduceNe, Int.reduceBEq, Int.reduceBNe, ne_eq, eq_self]
  have hget : ∀ j : Int, 0 ≤ j → j < slots K → w0.get ((n : Int) + 1 + j) = if obit m j.toNat = true then putSl 1 K else putSl 3 K := fun j j0 j1 => by
    rw [hw0]
    show (if ((n : Int) + 1 + j).toNat < N then smF n K m (slots K).toNat ((n : Int) + 1 + j).toNat else 0) = _
    rw [if_pos (by omega)]
    unfold smF
    rw [if_pos (show n + 1 ≤ ((n : Int) + 1 + j).toNat ∧ ((n : Int) + 1 + j).toNat - (n + 1) < (slots K).toNat from ⟨by omega, by omega⟩), show ((n : Int) + 1 + j).toNat - (n + 1) = j.toNat by omega]
  have hpg : w0.get (n : Int) = putPg 2 K 0 := by
    rw [hw0]
    show (if (n : Int).toNat < N then smF n K m (slots K).toNat (n : Int).toNat else 0) = _
    rw [if_pos (by omega)]
    unfold smF
    rw [if_neg (show ¬ (n + 1 ≤ (n : Int).toNat ∧ (n : Int).toNat - (n + 1) < (slots K).toNat) by omega), if_pos (by omega)]
  have hinit : SlInv n ⟨1, n, 0⟩ K (fun q => obit m q.toNat = true) (fun c => Sc.new ⟨1, n, 0⟩ c K 0) w0 :=
    SlInv.init hof0 hm rfl (by show (n : Int) ≤ n; omega) sp (mine_many nn0 (by omega) k0 k3 hpg) (fun j j0 j1 hj => by
      show w0.get ((n : Int) + 1 + j) ≠ opn K
      rw [hget j j0 j1, if_neg hj]
      have h1 := opn_val sp
      have h2 := taken_val sp
      show taken K ≠ opn K
      omega) (fun j j0 j1 hj => by
      show w0.get ((n : Int) + 1 + j) = opn K
      rw [hget j j0 j1, if_pos hj]; rfl)
  have n10 : ((n : Int) = 0) = False := eq_false (by omega)
  refine loop_intro (nmC a cap g ks b s K m n n2 cap2 a2 x (sg x (.cells #[.int .i64 1, .int .i64 (n : Int), .int .i64 0] 57 (0, 0)) :: h :: l)) (fun F' _ => (n2 - iv (gt F' 17)).toNat)
    ⟨0, _, _, by omega, by simp [gt], by simp [gt, e15], ⟨by simp [gt, e11], by simp [gt, e14], ⟨by simp [gt, e0], by simp [gt, e1], by simp [gt, e2], by simp [gt, e3], by simp [gt, e9]⟩⟩, hinit, fun c => Sc.Bd.new (by show (0 : Int) < 1; decide) (by decide) (by decide), hS⟩ ?_
  rintro F' H' ⟨i, ts, w, i1, e17, e15, ⟨e11, e14, ⟨e0, e1, e2, e3, e9⟩⟩, hI, hBd, hS⟩
  have hL := hS.tail.tail.tail.drop
  have unmid : ∀ {A : List Hp} {x1 x2 x3 z1 : Hp} {R : List Hp} {H9 : Hp}, Sep (x1 :: x2 :: x3 :: (A ++ z1 :: R)) H9 → Sep (z1 :: x1 :: x2 :: x3 :: (A ++ R)) H9 := fun h => (h.perm (((List.perm_middle.cons _).cons _).cons _)).p3
  have mid : ∀ {A : List Hp} {x1 x2 x3 z1 : Hp} {R : List Hp} {H9 : Hp}, Sep (x1 :: x2 :: x3 :: z1 :: (A ++ R)) H9 → Sep (x1 :: x2 :: x3 :: (A ++ z1 :: R)) H9 := fun h => h.perm (((List.perm_middle.symm.cons _).cons _).cons _)
  by_cases hi : i < n2 ∧ i < 500
  · have d1 : decide ((i : Int) < (n2 : Int)) = true := decide_eq_true (by omega)
    have d5 : decide ((i : Int) < 500) = true := decide_eq_true (by omega)
    have d2 : (0 : Int) ≤ (i : Int) := by omega
    have d3 : (i : Int) < (n2 : Int) := by omega
    have wi : w64 ((i : Int) + 1) = ((i + 1 : Nat) : Int) := by rw [w64_eq (by omega) (by omega)]; omega
    obtain ⟨tb, to, rfl, hrd⟩ := (hr2.sub (hL.sb h (by simp))).at' hi.1
    have hti := ht i hi.1
    have ef : w64 (tt i) = tt i := w64_eq (by omega) (by omega)
    have et : (tt i).tmod n = tt i % n := Int.tmod_eq_emod_of_nonneg hti.1
    have mdi := mod_bd (a := tt i) (p := (n : Int)) (by omega)
    obtain ⟨q, hq⟩ : ∃ q, tt i % n = q := ⟨_, rfl⟩
    rw [hq] at mdi et
    obtain ⟨q0, q1⟩ := mdi
    have wq : w64 q = q := w64_eq (by omega) (by omega)
    have hqn : q.toNat < n := by omega
    obtain ⟨zb, rfl, hrz⟩ := hG.rd hS (by simp) (i := q.toNat) hqn
    obtain ⟨t1, t2, -⟩ := hI.wf q.toNat hqn
    simp only [e17, e15, e11, e14, e0, e1, e2, e3, e9, d1, d5, d2, d3, hrd, n10, wrap_w64, ef, et, wq, q0, q1, hrz, Nat.zero_add, Int.toNat_natCast, ↓D0, ↓D1, ↓D2, ↓D3, ↓D4, ↓D5, ↓D6, ↓D7, ↓D8, ↓D9, U0, U1, U2, U3, U4, U5, U6, U7, U8, U9, U10, ↓reduceIte, Nat.reduceAdd, Nat.reduceMul, Nat.reduceSub, Nat.reduceEqDiff, Nat.reduceBEq, Nat.reduceLeDiff, Nat.reduceLT, Int.reduceAdd, Int.reduceMul, Int.reduceSub, Int.reduceLT, Int.reduceLE, Int.reduceToNat, Int.reduceEq, Int.reduceNe, Int.reduceBEq, Int.reduceBNe, ne_eq, eq_self]
    refine callT_of (c_scstep t1 (fun _ => by rw [t2]; exact hI.of) (hS.pick3 hqn)) ?_
    rintro v H' ⟨rfl, hS⟩
    simp only [e17, e15, e11, e14, e0, e1, e2, e3, e9, wrap_w64, wi, ↓D0, ↓D1, ↓D2, ↓D3, ↓D4, ↓D5, ↓D6, ↓D7, ↓D8, ↓D9, U0, U1, U2, U3, U4, U5, U6, U7, U8, U9, U10, ↓reduceIte, Nat.reduceAdd, Nat.reduceMul, Nat.reduceSub, Nat.reduceEqDiff, Nat.reduceBEq, Nat.reduceLeDiff, Nat.reduceLT, Int.reduceAdd, Int.reduceMul, Int.reduceSub, Int.reduceLT, Int.reduceLE, Int.reduceToNat, Int.reduceEq, Int.reduceNe, Int.reduceBEq, Int.reduceBNe, ne_eq, eq_self]
    refine ⟨⟨i + 1, _, _, by omega, by simp [gt], by simp [gt, e15], ⟨by simp [gt, e11], by simp [gt, e14], ⟨by simp [gt, e0], by simp [gt, e1], by simp [gt, e2], by simp [gt, e3], by simp [gt, e9]⟩⟩, hI.step hqn, fun c => ?_, ?_⟩, by simp [gt, iv, e17]; omega⟩
    · by_cases ec : c = q.toNat
      · rw [ec, upT_same]; exact (hBd _).step t1
      · rw [upT_ne _ _ ec]; exact hBd c
    · exact hS.back3 hqn (by rw [upT_same]) (fun d hd => by rw [upT_ne _ _ hd])
  by_cases hi2 : i < n2
  · have e1d : decide ((i : Int) < (n2 : Int)) = true := decide_eq_true (by omega)
    have e5d : decide ((i : Int) < 500) = false := decide_eq_false (by omega)
    simp only [e17, e15, e11, e14, e0, e1, e2, e3, e9, e1d, e5d, ↓D0, ↓D1, ↓D2, ↓D3, ↓D4, ↓D5, ↓D6, ↓D7, ↓D8, ↓D9, U0, U1, U2, U3, U4, U5, U6, U7, U8, U9, U10, ↓reduceIte, Nat.reduceAdd, Nat.reduceMul, Nat.reduceSub, Nat.reduceEqDiff, Nat.reduceBEq, Nat.reduceLeDiff, Nat.reduceLT, Int.reduceAdd, Int.reduceMul, Int.reduceSub, Int.reduceLT, Int.reduceLE, Int.reduceToNat, Int.reduceEq, Int.reduceNe, Int.reduceBEq, Int.reduceBNe, ne_eq, eq_self]
    refine newB_intro fun sb hsb f7 f8 => ?_
    have hS := (hS.new f7 (.cells (brow 16 fun _ => false) 4 (0, 0))).r3
    have eb := brow_zero 16
    simp only [eb, ↓D0, ↓D1, ↓D2, ↓D3, ↓D4, ↓D5, ↓D6, ↓D7, ↓D8, ↓D9, U0, U1, U2, U3, U4, U5, U6, U7, U8, U9, U10, ↓reduceIte, Nat.reduceAdd, Nat.reduceMul, Nat.reduceSub, Nat.reduceEqDiff, Nat.reduceBEq, Nat.reduceLeDiff, Nat.reduceLT, Int.reduceAdd, Int.reduceMul, Int.reduceSub, Int.reduceLT, Int.reduceLE, Int.reduceToNat, Int.reduceEq, Int.reduceNe, Int.reduceBEq, Int.reduceBNe, ne_eq, eq_self]
    have hS := mid hS
    refine loop_intro (nmD a cap g ks b s sb K m n n2 cap2 a2 x (sg x (.cells #[.int .i64 1, .int .i64 (n : Int), .int .i64 0] 57 (0, 0)) :: h :: l)) (fun F' _ => (n - iv (gt F' 20)).toNat)
      ⟨0, ts, w, fun _ => false, by omega, by simp [gt], by simp [gt, cnt], by simp [gt], by simp [gt, e15], ⟨by simp [gt, e11], by simp [gt, e14], ⟨by simp [gt, e0], by simp [gt, e1], by simp [gt, e2], by simp [gt, e3], by simp [gt, e9]⟩⟩, hI, hBd, fun d hd => by omega, (fun j h => by cases h), hS⟩ ?_
    clear hI hBd
    rintro F' H' ⟨c, ts, w, sv, c1, e20, e19, e18, e15, ⟨e11, e14, ⟨e0, e1, e2, e3, e9⟩⟩, hI, hBd, hdn, hsv, hS⟩
    by_cases hc : c < n
    · have d1 : decide ((c : Int) < (n : Int)) = true := decide_eq_true (by omega)
      have d2 : (0 : Int) ≤ (c : Int) := by omega
      have d3 : (c : Int) < (n : Int) := by omega
      have wc : w64 ((c : Int) + 1) = ((c + 1 : Nat) : Int) := by rw [w64_eq (by omega) (by omega)]; omega
      obtain ⟨t1, t2, -⟩ := hI.wf c hc
      have hll := Sc.left_le t1 (by rw [t2]; show (0 : Int) ≤ 1; decide)
      rw [t2] at hll
      have hll : (ts c).left ≤ 33 * 1 := hll
      simp only [e20, e19, e18, e15, e11, e14, e0, e1, e2, e3, e9, d1, ↓D0, ↓D1, ↓D2, ↓D3, ↓D4, ↓D5, ↓D6, ↓D7, ↓D8, ↓D9, U0, U1, U2, U3, U4, U5, U6, U7, U8, U9, U10, ↓reduceIte, Nat.reduceAdd, Nat.reduceMul, Nat.reduceSub, Nat.reduceEqDiff, Nat.reduceBEq, Nat.reduceLeDiff, Nat.reduceLT, Int.reduceAdd, Int.reduceMul, Int.reduceSub, Int.reduceLT, Int.reduceLE, Int.reduceToNat, Int.reduceEq, Int.reduceNe, Int.reduceBEq, Int.reduceBNe, ne_eq, eq_self]
      refine loop_intro (nmE a cap g ks b s sb c ts sv K m n n2 cap2 a2 x (sg x (.cells #[.int .i64 1, .int .i64 (n : Int), .int .i64 0] 57 (0, 0)) :: h :: l)) (fun F' _ => (40 - iv (gt F' 21)).toNat)
        ⟨0, ts, w, by omega, by omega, by simp [gt], by simp [gt, e20], by simp [gt, e19], by simp [gt, e18], by simp [gt, e15], ⟨by simp [gt, e11], by simp [gt, e14], ⟨by simp [gt, e0], by simp [gt, e1], by simp [gt, e2], by simp [gt, e3], by simp [gt, e9]⟩⟩, hI, hBd, fun _ _ => rfl, by omega, hS⟩ ?_
      rintro F' H' ⟨i, ts', w', i0, i1, e21, e20, e19, e18, e15, ⟨e11, e14, ⟨e0, e1, e2, e3, e9⟩⟩, hI', hBd', hsame, hlf, hS⟩
      have hL := hS.tail.tail.tail.drop
      obtain ⟨t1, t2, -⟩ := hI'.wf c hc
      obtain ⟨zb, rfl, hrz⟩ := hG.rd hS (by simp) (i := c) hc
      by_cases hi : i < 40
      · have d4 : decide (i < 40) = true := decide_eq_true hi
        have wi : w64 (i + 1) = i + 1 := w64_eq (by omega) (by omega)
        have hl2 := Sc.left_step (w := w') t1 hlf
        simp only [e21, e20, e19, e18, e15, e11, e14, e0, e1, e2, e3, e9, d2, d3, d4, hrz, Nat.zero_add, Int.toNat_natCast, ↓D0, ↓D1, ↓D2, ↓D3, ↓D4, ↓D5, ↓D6, ↓D7, ↓D8, ↓D9, U0, U1, U2, U3, U4, U5, U6, U7, U8, U9, U10, ↓reduceIte, Nat.reduceAdd, Nat.reduceMul, Nat.reduceSub, Nat.reduceEqDiff, Nat.reduceBEq, Nat.reduceLeDiff, Nat.reduceLT, Int.reduceAdd, Int.reduceMul, Int.reduceSub, Int.reduceLT, Int.reduceLE, Int.reduceToNat, Int.reduceEq, Int.reduceNe, Int.reduceBEq, Int.reduceBNe, ne_eq, eq_self]
        refine callT_of (c_scstep t1 (fun _ => by rw [t2]; exact hI'.of) (hS.pick3 hc)) ?_
        rintro v H' ⟨rfl, hS⟩
        simp only [e21, e20, e19, e18, e15, e11, e14, e0, e1, e2, e3, e9, wrap_w64, wi, ↓D0, ↓D1, ↓D2, ↓D3, ↓D4, ↓D5, ↓D6, ↓D7, ↓D8, ↓D9, U0, U1, U2, U3, U4, U5, U6, U7, U8, U9, U10, ↓reduceIte, Nat.reduceAdd, Nat.reduceMul, Nat.reduceSub, Nat.reduceEqDiff, Nat.reduceBEq, Nat.reduceLeDiff, Nat.reduceLT, Int.reduceAdd, Int.reduceMul, Int.reduceSub, Int.reduceLT, Int.reduceLE, Int.reduceToNat, Int.reduceEq, Int.reduceNe, Int.reduceBEq, Int.reduceBNe, ne_eq, eq_self]
        refine ⟨⟨i + 1, _, _, by omega, by omega, by simp [gt], by simp [gt, e20], by simp [gt, e19], by simp [gt, e18], by simp [gt, e15], ⟨by simp [gt, e11], by simp [gt, e14], ⟨by simp [gt, e0], by simp [gt, e1], by simp [gt, e2], by simp [gt, e3], by simp [gt, e9]⟩⟩, hI'.step hc, fun d => ?_, fun d hd => by rw [upT_ne _ _ hd]; exact hsame d hd, by rw [upT_same]; omega, hS.back3 hc (by rw [upT_same]) (fun d hd => by rw [upT_ne _ _ hd])⟩, by simp [gt, iv, e21]; omega⟩
        by_cases ec : d = c
        · rw [ec, upT_same]; exact (hBd' _).step t1
        · rw [upT_ne _ _ ec]; exact hBd' d
      have d4 : decide (i < 40) = false := decide_eq_false hi
      have hd : (ts' c).dn = true := Sc.left_dn t1 (by have := Sc.left_nn t1; omega)
      have hdn' : ∀ d, d < c + 1 → (ts' d).dn = true := fun d hd' => by
        by_cases e : d = c
        · rw [e]; exact hd
        · rw [hsame d e]; exact hdn d (by omega)
      have hcnt : cnt (fun d => (ts d).fd) c = cnt (fun d => (ts' d).fd) c := cnt_congr fun d hd' => by rw [hsame d (by omega)]
      have hsv' : ∀ j : Nat, sv j = true → ∃ d, d < c ∧ (ts' d).fd = true ∧ (ts' d).i = j := fun j hj => by
        obtain ⟨d, g1, g2, g3⟩ := hsv j hj
        rw [← hsame d (by omega)] at g2 g3
        exact ⟨d, g1, g2, g3⟩
      have hback : ∀ {H9 : Hp} {R : List Hp}, Sep (scB (ks c) (ts' c) :: wB b s w' :: wR s w' :: g :: (famBut n c (fun c => scB (ks c) (ts' c)) ++ R)) H9 → Sep (g :: wB b s w' :: wR s w' :: (fam n (fun c => scB (ks c) (ts' c)) ++ R)) H9 := fun h => h.back3 hc rfl (fun _ _ => rfl)
      simp only [e21, e20, e19, e18, e15, e11, e14, e0, e1, e2, e3, e9, d2, d3, d4, hrz, Nat.zero_add, Int.toNat_natCast, ↓D0, ↓D1, ↓D2, ↓D3, ↓D4, ↓D5, ↓D6, ↓D7, ↓D8, ↓D9, U0, U1, U2, U3, U4, U5, U6, U7, U8, U9, U10, ↓reduceIte, Nat.reduceAdd, Nat.reduceMul, Nat.reduceSub, Nat.reduceEqDiff, Nat.reduceBEq, Nat.reduceLeDiff, Nat.reduceLT, Int.reduceAdd, Int.reduceMul, Int.reduceSub, Int.reduceLT, Int.reduceLE, Int.reduceToNat, Int.reduceEq, Int.reduceNe, Int.reduceBEq, Int.reduceBNe, ne_eq, eq_self]
      refine callT_of (c_scfound (fun _ => (hBd' c).fd) (hS.pick3 hc)) ?_
      rintro v H' ⟨rfl, hS⟩
      have hS := hback hS
      obtain ⟨zb2, hz2, hrz⟩ := hG.rd hS (by simp) (i := c) hc
      cases hz2
      simp only [e21, e20, e19, e18, e15, e11, e14, e0, e1, e2, e3, e9, d2, d3, hrz, Nat.zero_add, Int.toNat_natCast, ↓D0, ↓D1, ↓D2, ↓D3, ↓D4, ↓D5, ↓D6, ↓D7, ↓D8, ↓D9, U0, U1, U2, U3, U4, U5, U6, U7, U8, U9, U10, ↓reduceIte, Nat.reduceAdd, Nat.reduceMul, Nat.reduceSub, Nat.reduceEqDiff, Nat.reduceBEq, Nat.reduceLeDiff, Nat.reduceLT, Int.reduceAdd, Int.reduceMul, Int.reduceSub, Int.reduceLT, Int.reduceLE, Int.reduceToNat, Int.reduceEq, Int.reduceNe, Int.reduceBEq, Int.reduceBNe, ne_eq, eq_self]
      refine callT_of (c_scdone (hS.pick3 hc)) ?_
      rintro v H' ⟨rfl, hS⟩
      have hS := hback hS
      cases hok : (ts' c).fd
      · have hc2 : cnt (fun d => (ts' d).fd) (c + 1) = cnt (fun d => (ts d).fd) c := by show _ + (if (ts' c).fd = true then 1 else 0) = _; rw [hok, hcnt]; rfl
        simp only [e21, e20, e19, e18, e15, e11, e14, e0, e1, e2, e3, e9, hd, hok, wrap_w64, wc, ↓D0, ↓D1, ↓D2, ↓D3, ↓D4, ↓D5, ↓D6, ↓D7, ↓D8, ↓D9, U0, U1, U2, U3, U4, U5, U6, U7, U8, U9, U10, ↓reduceIte, Nat.reduceAdd, Nat.reduceMul, Nat.reduceSub, Nat.reduceEqDiff, Nat.reduceBEq, Nat.reduceLeDiff, Nat.reduceLT, Int.reduceAdd, Int.reduceMul, Int.reduceSub, Int.reduceLT, Int.reduceLE, Int.reduceToNat, Int.reduceEq, Int.reduceNe, Int.reduceBEq, Int.reduceBNe, ne_eq, eq_self]
        exact ⟨⟨c + 1, ts', w', sv, by omega, by simp [gt], by rw [hc2]; simp [gt, e19], by simp [gt, e18], by simp [gt, e15], ⟨by simp [gt, e11], by simp [gt, e14], ⟨by simp [gt, e0], by simp [gt, e1], by simp [gt, e2], by simp [gt, e3], by simp [gt, e9]⟩⟩, hI', hBd', hdn', fun j hj => by obtain ⟨d, g1, g2, g3⟩ := hsv' j hj; exact ⟨d, by omega, g2, g3⟩, hS⟩, by simp [gt, iv, e20]; omega⟩
      · have hc2 : cnt (fun d => (ts' d).fd) (c + 1) = cnt (fun d => (ts d).fd) c + 1 := by show _ + (if (ts' c).fd = true then 1 else 0) = _; rw [hok, hcnt]; rfl
        obtain ⟨o1, o2, o3, o4⟩ := hI'.own c hc hok
        obtain ⟨q, hq⟩ : ∃ q, (ts' c).i = q := ⟨_, rfl⟩
        rw [hq] at o1 o2 o3 o4
        have o4 : w'.get ((n : Int) + 1 + q) = way c := o4
        have o3 : obit m q.toNat = true := o3
        have hsq : sv q.toNat = false := by
          cases hb : sv q.toNat
          · rfl
          · exfalso
            obtain ⟨d, g1, g2, g3⟩ := hsv' _ hb
            have := hI'.one (by omega : d < n) hc g2 hok (by rw [g3, hq]; omega)
            omega
        have hL := hS.tail.tail.tail.drop
        have hb1 := hL.lk 0 rfl
        have hrs : rd H' sb q.toNat = some (.bool false) := by rw [rd_of hb1, brow_at (by omega), hsq]
        have q16 : q < 16 := by omega
        have q16n : q < ((16 : Nat) : Int) := by omega
        have q16t : q.toNat < 16 := by omega
        have hbn : (bits BinOp.and IntKind.u16 (m.fdiv (2 ^ min q.toNat IntKind.u16.bits)) 1 == 0) = false := by rw [obit_not, o3]; rfl
        have wuq : wu q = q := wu_eq (by omega) (by omega)
        have lk0 : (0 : Int) ≤ (n : Int) + 1 + q := by omega
        have hwn : (w'.n : Int) = N := by rw [hI'.of.n]; exact hN
        have lk1 : (n : Int) + 1 + q < (w'.n : Int) := by omega
        have wn1 : w64 ((n : Int) + 1) = (n : Int) + 1 := w64_eq (by omega) (by omega)
        have wn2 : w64 ((n : Int) + 1 + q) = (n : Int) + 1 + q := w64_eq (by omega) (by omega)
        have q4 : (w'.get ((n : Int) + 1 + q) != putSl 2 c) = false := by rw [o4]; simp [way]
        have wg : w64 ((cnt (fun d => (ts d).fd) c : Nat) + 1 : Int) = ((cnt (fun d => (ts' d).fd) (c + 1) : Nat) : Int) := by
          have := cnt_le (fun d => (ts d).fd) c
          rw [hc2, w64_eq (by omega) (by omega)]; omega
        simp only [e21, e20, e19, e18, e15, e11, e14, e0, e1, e2, e3, e9, hd, hok, hq, o1, q16, q16n, hrs, wrap_wu, wuq, hbn, wrap_w64, wn1, wn2, Nat.zero_add, ↓D0, ↓D1, ↓D2, ↓D3, ↓D4, ↓D5, ↓D6, ↓D7, ↓D8, ↓D9, U0, U1, U2, U3, U4, U5, U6, U7, U8, U9, U10, ↓reduceIte, Nat.reduceAdd, Nat.reduceMul, Nat.reduceSub, Nat.reduceEqDiff, Nat.reduceBEq, Nat.reduceLeDiff, Nat.reduceLT, Int.reduceAdd, Int.reduceMul, Int.reduceSub, Int.reduceLT, Int.reduceLE, Int.reduceToNat, Int.reduceEq, Int.reduceNe, Int.reduceBEq, Int.reduceBNe, ne_eq, eq_self]
        refine callT_of (c_look ((n : Int) + 1 + q) lk0 lk1 hS.r2) ?_
        rintro v H' ⟨rfl, hS⟩
        have hS := hS.p2
        have hb1 := hS.tail.tail.tail.drop.lk 0 rfl
        have hS2 := (unmid hS).set (.cells (brow 16 fun j => if j = q.toNat then true else sv j) 4 (0, 0))
        have hS3 := mid hS2.r3
        simp only [e21, e20, e19, e18, e15, e11, e14, e0, e1, e2, e3, e9, hok, hq, o1, q16, q16n, q16t, q4, hb1, brow_size, brow_set, u_putsl, wrap_w64, wc, wg, Nat.zero_add, ↓D0, ↓D1, ↓D2, ↓D3, ↓D4, ↓D5, ↓D6, ↓D7, ↓D8, ↓D9, U0, U1, U2, U3, U4, U5, U6, U7, U8, U9, U10, ↓reduceIte, Nat.reduceAdd, Nat.reduceMul, Nat.reduceSub, Nat.reduceEqDiff, Nat.reduceBEq, Nat.reduceLeDiff, Nat.reduceLT, Int.reduceAdd, Int.reduceMul, Int.reduceSub, Int.reduceLT, Int.reduceLE, Int.reduceToNat, Int.reduceEq, Int.reduceNe, Int.reduceBEq, Int.reduceBNe, ne_eq, eq_self]
        exact ⟨⟨c + 1, ts', w', _, by omega, by simp [gt], by simp [gt], by simp [gt, e18], by simp [gt, e15], ⟨by simp [gt, e11], by simp [gt, e14], ⟨by simp [gt, e0], by simp [gt, e1], by simp [gt, e2], by simp [gt, e3], by simp [gt, e9]⟩⟩, hI', hBd', hdn', fun j hj => by
          by_cases ej : j = q.toNat
          · exact ⟨c, by omega, hok, by rw [hq]; omega⟩
          · rw [if_neg ej] at hj
            obtain ⟨d, g1, g2, g3⟩ := hsv' j hj
            exact ⟨d, by omega, g2, g3⟩, hS3⟩, by simp [gt, iv, e20]; omega⟩
    have hcn : c = n := by omega
    have d1 : decide ((c : Int) < (n : Int)) = false := decide_eq_false (by omega)
    rw [hcn] at e19 hdn
    have hfin := hI.count (S := (slots K).toNat) (B := obit m) (by omega) (fun q hq => by simp) hdn
    have heq : (((cnt (fun d => (ts d).fd) n : Nat) : Int) == if (n : Int) < ((cnt (obit m) (slots K).toNat : Nat) : Int) then (n : Int) else ((cnt (obit m) (slots K).toNat : Nat) : Int)) = true := by
      refine beq_iff_eq.2 ?_
      rw [hfin]
      split <;> omega
    simp only [e20, e19, e18, e15, e11, e14, e0, e1, e2, e3, e9, d1, heq, ↓D0, ↓D1, ↓D2, ↓D3, ↓D4, ↓D5, ↓D6, ↓D7, ↓D8, ↓D9, U0, U1, U2, U3, U4, U5, U6, U7, U8, U9, U10, ↓reduceIte, Nat.reduceAdd, Nat.reduceMul, Nat.reduceSub, Nat.reduceEqDiff, Nat.reduceBEq, Nat.reduceLeDiff, Nat.reduceLT, Int.reduceAdd, Int.reduceMul, Int.reduceSub, Int.reduceLT, Int.reduceLE, Int.reduceToNat, Int.reduceEq, Int.reduceNe, Int.reduceBEq, Int.reduceBNe, ne_eq, eq_self]
    exact hS.tail.tail.tail.drop.tail.tail
  · have e1d : decide ((i : Int) < (n2 : Int)) = false := decide_eq_false (by omega)
    simp only [e17, e15, e11, e14, e0, e1, e2, e3, e9, e1d, ↓D0, ↓D1, ↓D2, ↓D3, ↓D4, ↓D5, ↓D6, ↓D7, ↓D8, ↓D9, U0, U1, U2, U3, U4, U5, U6, U7, U8, U9, U10, ↓reduceIte, Nat.reduceAdd, Nat.reduceMul, Nat.reduceSub, Nat.reduceEqDiff, Nat.reduceBEq, Nat.reduceLeDiff, Nat.reduceLT, Int.reduceAdd, Int.reduceMul, Int.reduceSub, Int.reduceLT, Int.reduceLE, Int.reduceToNat, Int.reduceEq, Int.reduceNe, Int.reduceBEq, Int.reduceBNe, ne_eq, eq_self]
    refine newB_intro fun sb hsb f7 f8 => ?_
    have hS := (hS.new f7 (.cells (brow 16 fun _ => false) 4 (0, 0))).r3
    have eb := brow_zero 16
    simp only [eb, ↓D0, ↓D1, ↓D2, ↓D3, ↓D4, ↓D5, ↓D6, ↓D7, ↓D8, ↓D9, U0, U1, U2, U3, U4, U5, U6, U7, U8, U9, U10, ↓reduceIte, Nat.reduceAdd, Nat.reduceMul, Nat.reduceSub, Nat.reduceEqDiff, Nat.reduceBEq, Nat.reduceLeDiff, Nat.reduceLT, Int.reduceAdd, Int.reduceMul, Int.reduceSub, Int.reduceLT, Int.reduceLE, Int.reduceToNat, Int.reduceEq, Int.reduceNe, Int.reduceBEq, Int.reduceBNe, ne_eq, eq_self]
    have hS := mid hS
    refine loop_intro (nmD a cap g ks b s sb K m n n2 cap2 a2 x (sg x (.cells #[.int .i64 1, .int .i64 (n : Int), .int .i64 0] 57 (0, 0)) :: h :: l)) (fun F' _ => (n - iv (gt F' 20)).toNat)
      ⟨0, ts, w, fun _ => false, by omega, by simp [gt], by simp [gt, cnt], by simp [gt], by simp [gt, e15], ⟨by simp [gt, e11], by simp [gt, e14], ⟨by simp [gt, e0], by simp [gt, e1], by simp [gt, e2], by simp [gt, e3], by simp [gt, e9]⟩⟩, hI, hBd, fun d hd => by omega, (fun j h => by cases h), hS⟩ ?_
    clear hI hBd
    rintro F' H' ⟨c, ts, w, sv, c1, e20, e19, e18, e15, ⟨e11, e14, ⟨e0, e1, e2, e3, e9⟩⟩, hI, hBd, hdn, hsv, hS⟩
    by_cases hc : c < n
    · have d1 : decide ((c : Int) < (n : Int)) = true := decide_eq_true (by omega)
      have d2 : (0 : Int) ≤ (c : Int) := by omega
      have d3 : (c : Int) < (n : Int) := by omega
      have wc : w64 ((c : Int) + 1) = ((c + 1 : Nat) : Int) := by rw [w64_eq (by omega) (by omega)]; omega
      obtain ⟨t1, t2, -⟩ := hI.wf c hc
      have hll := Sc.left_le t1 (by rw [t2]; show (0 : Int) ≤ 1; decide)
      rw [t2] at hll
      have hll : (ts c).left ≤ 33 * 1 := hll
      simp only [e20, e19, e18, e15, e11, e14, e0, e1, e2, e3, e9, d1, ↓D0, ↓D1, ↓D2, ↓D3, ↓D4, ↓D5, ↓D6, ↓D7, ↓D8, ↓D9, U0, U1, U2, U3, U4, U5, U6, U7, U8, U9, U10, ↓reduceIte, Nat.reduceAdd, Nat.reduceMul, Nat.reduceSub, Nat.reduceEqDiff, Nat.reduceBEq, Nat.reduceLeDiff, Nat.reduceLT, Int.reduceAdd, Int.reduceMul, Int.reduceSub, Int.reduceLT, Int.reduceLE, Int.reduceToNat, Int.reduceEq, Int.reduceNe, Int.reduceBEq, Int.reduceBNe, ne_eq, eq_self]
      refine loop_intro (nmE a cap g ks b s sb c ts sv K m n n2 cap2 a2 x (sg x (.cells #[.int .i64 1, .int .i64 (n : Int), .int .i64 0] 57 (0, 0)) :: h :: l)) (fun F' _ => (40 - iv (gt F' 21)).toNat)
        ⟨0, ts, w, by omega, by omega, by simp [gt], by simp [gt, e20], by simp [gt, e19], by simp [gt, e18], by simp [gt, e15], ⟨by simp [gt, e11], by simp [gt, e14], ⟨by simp [gt, e0], by simp [gt, e1], by simp [gt, e2], by simp [gt, e3], by simp [gt, e9]⟩⟩, hI, hBd, fun _ _ => rfl, by omega, hS⟩ ?_
      rintro F' H' ⟨i, ts', w', i0, i1, e21, e20, e19, e18, e15, ⟨e11, e14, ⟨e0, e1, e2, e3, e9⟩⟩, hI', hBd', hsame, hlf, hS⟩
      have hL := hS.tail.tail.tail.drop
      obtain ⟨t1, t2, -⟩ := hI'.wf c hc
      obtain ⟨zb, rfl, hrz⟩ := hG.rd hS (by simp) (i := c) hc
      by_cases hi : i < 40
      · have d4 : decide (i < 40) = true := decide_eq_true hi
        have wi : w64 (i + 1) = i + 1 := w64_eq (by omega) (by omega)
        have hl2 := Sc.left_step (w := w') t1 hlf
        simp only [e21, e20, e19, e18, e15, e11, e14, e0, e1, e2, e3, e9, d2, d3, d4, hrz, Nat.zero_add, Int.toNat_natCast, ↓D0, ↓D1, ↓D2, ↓D3, ↓D4, ↓D5, ↓D6, ↓D7, ↓D8, ↓D9, U0, U1, U2, U3, U4, U5, U6, U7, U8, U9, U10, ↓reduceIte, Nat.reduceAdd, Nat.reduceMul, Nat.reduceSub, Nat.reduceEqDiff, Nat.reduceBEq, Nat.reduceLeDiff, Nat.reduceLT, Int.reduceAdd, Int.reduceMul, Int.reduceSub, Int.reduceLT, Int.reduceLE, Int.reduceToNat, Int.reduceEq, Int.reduceNe, Int.reduceBEq, Int.reduceBNe, ne_eq, eq_self]
        refine callT_of (c_scstep t1 (fun _ => by rw [t2]; exact hI'.of) (hS.pick3 hc)) ?_
        rintro v H' ⟨rfl, hS⟩
        simp only [e21, e20, e19, e18, e15, e11, e14, e0, e1, e2, e3, e9, wrap_w64, wi, ↓D0, ↓D1, ↓D2, ↓D3, ↓D4, ↓D5, ↓D6, ↓D7, ↓D8, ↓D9, U0, U1, U2, U3, U4, U5, U6, U7, U8, U9, U10, ↓reduceIte, Nat.reduceAdd, Nat.reduceMul, Nat.reduceSub, Nat.reduceEqDiff, Nat.reduceBEq, Nat.reduceLeDiff, Nat.reduceLT, Int.reduceAdd, Int.reduceMul, Int.reduceSub, Int.reduceLT, Int.reduceLE, Int.reduceToNat, Int.reduceEq, Int.reduceNe, Int.reduceBEq, Int.reduceBNe, ne_eq, eq_self]
        refine ⟨⟨i + 1, _, _, by omega, by omega, by simp [gt], by simp [gt, e20], by simp [gt, e19], by simp [gt, e18], by simp [gt, e15], ⟨by simp [gt, e11], by simp [gt, e14], ⟨by simp [gt, e0], by simp [gt, e1], by simp [gt, e2], by simp [gt, e3], by simp [gt, e9]⟩⟩, hI'.step hc, fun d => ?_, fun d hd => by rw [upT_ne _ _ hd]; exact hsame d hd, by rw [upT_same]; omega, hS.back3 hc (by rw [upT_same]) (fun d hd => by rw [upT_ne _ _ hd])⟩, by simp [gt, iv, e21]; omega⟩
        by_cases ec : d = c
        · rw [ec, upT_same]; exact (hBd' _).step t1
        · rw [upT_ne _ _ ec]; exact hBd' d
      have d4 : decide (i < 40) = false := decide_eq_false hi
      have hd : (ts' c).dn = true := Sc.left_dn t1 (by have := Sc.left_nn t1; omega)
      have hdn' : ∀ d, d < c + 1 → (ts' d).dn = true := fun d hd' => by
        by_cases e : d = c
        · rw [e]; exact hd
        · rw [hsame d e]; exact hdn d (by omega)
      have hcnt : cnt (fun d => (ts d).fd) c = cnt (fun d => (ts' d).fd) c := cnt_congr fun d hd' => by rw [hsame d (by omega)]
      have hsv' : ∀ j : Nat, sv j = true → ∃ d, d < c ∧ (ts' d).fd = true ∧ (ts' d).i = j := fun j hj => by
        obtain ⟨d, g1, g2, g3⟩ := hsv j hj
        rw [← hsame d (by omega)] at g2 g3
        exact ⟨d, g1, g2, g3⟩
      have hback : ∀ {H9 : Hp} {R : List Hp}, Sep (scB (ks c) (ts' c) :: wB b s w' :: wR s w' :: g :: (famBut n c (fun c => scB (ks c) (ts' c)) ++ R)) H9 → Sep (g :: wB b s w' :: wR s w' :: (fam n (fun c => scB (ks c) (ts' c)) ++ R)) H9 := fun h => h.back3 hc rfl (fun _ _ => rfl)
      simp only [e21, e20, e19, e18, e15, e11, e14, e0, e1, e2, e3, e9, d2, d3, d4, hrz, Nat.zero_add, Int.toNat_natCast, ↓D0, ↓D1, ↓D2, ↓D3, ↓D4, ↓D5, ↓D6, ↓D7, ↓D8, ↓D9, U0, U1, U2, U3, U4, U5, U6, U7, U8, U9, U10, ↓reduceIte, Nat.reduceAdd, Nat.reduceMul, Nat.reduceSub, Nat.reduceEqDiff, Nat.reduceBEq, Nat.reduceLeDiff, Nat.reduceLT, Int.reduceAdd, Int.reduceMul, Int.reduceSub, Int.reduceLT, Int.reduceLE, Int.reduceToNat, Int.reduceEq, Int.reduceNe, Int.reduceBEq, Int.reduceBNe, ne_eq, eq_self]
      refine callT_of (c_scfound (fun _ => (hBd' c).fd) (hS.pick3 hc)) ?_
      rintro v H' ⟨rfl, hS⟩
      have hS := hback hS
      obtain ⟨zb2, hz2, hrz⟩ := hG.rd hS (by simp) (i := c) hc
      cases hz2
      simp only [e21, e20, e19, e18, e15, e11, e14, e0, e1, e2, e3, e9, d2, d3, hrz, Nat.zero_add, Int.toNat_natCast, ↓D0, ↓D1, ↓D2, ↓D3, ↓D4, ↓D5, ↓D6, ↓D7, ↓D8, ↓D9, U0, U1, U2, U3, U4, U5, U6, U7, U8, U9, U10, ↓reduceIte, Nat.reduceAdd, Nat.reduceMul, Nat.reduceSub, Nat.reduceEqDiff, Nat.reduceBEq, Nat.reduceLeDiff, Nat.reduceLT, Int.reduceAdd, Int.reduceMul, Int.reduceSub, Int.reduceLT, Int.reduceLE, Int.reduceToNat, Int.reduceEq, Int.reduceNe, Int.reduceBEq, Int.reduceBNe, ne_eq, eq_self]
      refine callT_of (c_scdone (hS.pick3 hc)) ?_
      rintro v H' ⟨rfl, hS⟩
      have hS := hback hS
      cases hok : (ts' c).fd
      · have hc2 : cnt (fun d => (ts' d).fd) (c + 1) = cnt (fun d => (ts d).fd) c := by show _ + (if (ts' c).fd = true then 1 else 0) = _; rw [hok, hcnt]; rfl
        simp only [e21, e20, e19, e18, e15, e11, e14, e0, e1, e2, e3, e9, hd, hok, wrap_w64, wc, ↓D0, ↓D1, ↓D2, ↓D3, ↓D4, ↓D5, ↓D6, ↓D7, ↓D8, ↓D9, U0, U1, U2, U3, U4, U5, U6, U7, U8, U9, U10, ↓reduceIte, Nat.reduceAdd, Nat.reduceMul, Nat.reduceSub, Nat.reduceEqDiff, Nat.reduceBEq, Nat.reduceLeDiff, Nat.reduceLT, Int.reduceAdd, Int.reduceMul, Int.reduceSub, Int.reduceLT, Int.reduceLE, Int.reduceToNat, Int.reduceEq, Int.reduceNe, Int.reduceBEq, Int.reduceBNe, ne_eq, eq_self]
        exact ⟨⟨c + 1, ts', w', sv, by omega, by simp [gt], by rw [hc2]; simp [gt, e19], by simp [gt, e18], by simp [gt, e15], ⟨by simp [gt, e11], by simp [gt, e14], ⟨by simp [gt, e0], by simp [gt, e1], by simp [gt, e2], by simp [gt, e3], by simp [gt, e9]⟩⟩, hI', hBd', hdn', fun j hj => by obtain ⟨d, g1, g2, g3⟩ := hsv' j hj; exact ⟨d, by omega, g2, g3⟩, hS⟩, by simp [gt, iv, e20]; omega⟩
      · have hc2 : cnt (fun d => (ts' d).fd) (c + 1) = cnt (fun d => (ts d).fd) c + 1 := by show _ + (if (ts' c).fd = true then 1 else 0) = _; rw [hok, hcnt]; rfl
        obtain ⟨o1, o2, o3, o4⟩ := hI'.own c hc hok
        obtain ⟨q, hq⟩ : ∃ q, (ts' c).i = q := ⟨_, rfl⟩
        rw [hq] at o1 o2 o3 o4
        have o4 : w'.get ((n : Int) + 1 + q) = way c := o4
        have o3 : obit m q.toNat = true := o3
        have hsq : sv q.toNat = false := by
          cases hb : sv q.toNat
          · rfl
          · exfalso
            obtain ⟨d, g1, g2, g3⟩ := hsv' _ hb
            have := hI'.one (by omega : d < n) hc g2 hok (by rw [g3, hq]; omega)
            omega
        have hL := hS.tail.tail.tail.drop
        have hb1 := hL.lk 0 rfl
        have hrs : rd H' sb q.toNat = some (.bool false) := by rw [rd_of hb1, brow_at (by omega), hsq]
        have q16 : q < 16 := by omega
        have q16n : q < ((16 : Nat) : Int) := by omega
        have q16t : q.toNat < 16 := by omega
        have hbn : (bits BinOp.and IntKind.u16 (m.fdiv (2 ^ min q.toNat IntKind.u16.bits)) 1 == 0) = false := by rw [obit_not, o3]; rfl
        have wuq : wu q = q := wu_eq (by omega) (by omega)
        have lk0 : (0 : Int) ≤ (n : Int) + 1 + q := by omega
        have hwn : (w'.n : Int) = N := by rw [hI'.of.n]; exact hN
        have lk1 : (n : Int) + 1 + q < (w'.n : Int) := by omega
        have wn1 : w64 ((n : Int) + 1) = (n : Int) + 1 := w64_eq (by omega) (by omega)
        have wn2 : w64 ((n : Int) + 1 + q) = (n : Int) + 1 + q := w64_eq (by omega) (by omega)
        have q4 : (w'.get ((n : Int) + 1 + q) != putSl 2 c) = false := by rw [o4]; simp [way]
        have wg : w64 ((cnt (fun d => (ts d).fd) c : Nat) + 1 : Int) = ((cnt (fun d => (ts' d).fd) (c + 1) : Nat) : Int) := by
          have := cnt_le (fun d => (ts d).fd) c
          rw [hc2, w64_eq (by omega) (by omega)]; omega
        simp only [e21, e20, e19, e18, e15, e11, e14, e0, e1, e2, e3, e9, hd, hok, hq, o1, q16, q16n, hrs, wrap_wu, wuq, hbn, wrap_w64, wn1, wn2, Nat.zero_add, ↓D0, ↓D1, ↓D2, ↓D3, ↓D4, ↓D5, ↓D6, ↓D7, ↓D8, ↓D9, U0, U1, U2, U3, U4, U5, U6, U7, U8, U9, U10, ↓reduceIte, Nat.reduceAdd, Nat.reduceMul, Nat.reduceSub, Nat.reduceEqDiff, Nat.reduceBEq, Nat.reduceLeDiff, Nat.reduceLT, Int.reduceAdd, Int.reduceMul, Int.reduceSub, Int.reduceLT, Int.reduceLE, Int.reduceToNat, Int.reduceEq, Int.reduceNe, Int.reduceBEq, Int.reduceBNe, ne_eq, eq_self]
        refine callT_of (c_look ((n : Int) + 1 + q) lk0 lk1 hS.r2) ?_
        rintro v H' ⟨rfl, hS⟩
        have hS := hS.p2
        have hb1 := hS.tail.tail.tail.drop.lk 0 rfl
        have hS2 := (unmid hS).set (.cells (brow 16 fun j => if j = q.toNat then true else sv j) 4 (0, 0))
        have hS3 := mid hS2.r3
        simp only [e21, e20, e19, e18, e15, e11, e14, e0, e1, e2, e3, e9, hok, hq, o1, q16, q16n, q16t, q4, hb1, brow_size, brow_set, u_putsl, wrap_w64, wc, wg, Nat.zero_add, ↓D0, ↓D1, ↓D2, ↓D3, ↓D4, ↓D5, ↓D6, ↓D7, ↓D8, ↓D9, U0, U1, U2, U3, U4, U5, U6, U7, U8, U9, U10, ↓reduceIte, Nat.reduceAdd, Nat.reduceMul, Nat.reduceSub, Nat.reduceEqDiff, Nat.reduceBEq, Nat.reduceLeDiff, Nat.reduceLT, Int.reduceAdd, Int.reduceMul, Int.reduceSub, Int.reduceLT, Int.reduceLE, Int.reduceToNat, Int.reduceEq, Int.reduceNe, Int.reduceBEq, Int.reduceBNe, ne_eq, eq_self]
        exact ⟨⟨c + 1, ts', w', _, by omega, by simp [gt], by simp [gt], by simp [gt, e18], by simp [gt, e15], ⟨by simp [gt, e11], by simp [gt, e14], ⟨by simp [gt, e0], by simp [gt, e1], by simp [gt, e2], by simp [gt, e3], by simp [gt, e9]⟩⟩, hI', hBd', hdn', fun j hj => by
          by_cases ej : j = q.toNat
          · exact ⟨c, by omega, hok, by rw [hq]; omega⟩
          · rw [if_neg ej] at hj
            obtain ⟨d, g1, g2, g3⟩ := hsv' j hj
            exact ⟨d, by omega, g2, g3⟩, hS3⟩, by simp [gt, iv, e20]; omega⟩
    have hcn : c = n := by omega
    have d1 : decide ((c : Int) < (n : Int)) = false := decide_eq_false (by omega)
    rw [hcn] at e19 hdn
    have hfin := hI.count (S := (slots K).toNat) (B := obit m) (by omega) (fun q hq => by simp) hdn
    have heq : (((cnt (fun d => (ts d).fd) n : Nat) : Int) == if (n : Int) < ((cnt (obit m) (slots K).toNat : Nat) : Int) then (n : Int) else ((cnt (obit m) (slots K).toNat : Nat) : Int)) = true := by
      refine beq_iff_eq.2 ?_
      rw [hfin]
      split <;> omega
    simp only [e20, e19, e18, e15, e11, e14, e0, e1, e2, e3, e9, d1, heq, ↓D0, ↓D1, ↓D2, ↓D3, ↓D4, ↓D5, ↓D6, ↓D7, ↓D8, ↓D9, U0, U1, U2, U3, U4, U5, U6, U7, U8, U9, U10, ↓reduceIte, Nat.reduceAdd, Nat.reduceMul, Nat.reduceSub, Nat.reduceEqDiff, Nat.reduceBEq, Nat.reduceLeDiff, Nat.reduceLT, Int.reduceAdd, Int.reduceMul, Int.reduceSub, Int.reduceLT, Int.reduceLE, Int.reduceToNat, Int.reduceEq, Int.reduceNe, Int.reduceBEq, Int.reduceBNe, ne_eq, eq_self]
    exact hS.tail.tail.tail.drop.tail.tail
end

section
variable {W : World} {H h : Hp} {l : List Hp} {n2 cap2 : Nat} {a2 : Option Addr} {tt : Nat → Int}
theorem c_slotmany {m g0 g1 : Int} (m0 : 0 ≤ m) (m1 : m ≤ 65535) (hg0 : 0 ≤ g0) (hg1 : g0 ≤ 255) (hk0 : 0 ≤ g1) (hk1 : g1 ≤ 255) (hr2 : RowV h a2 n2 (fun i => .int .u8 (tt i))) (hn2 : n2 ≤ 9223372036854775807) (ht : ∀ i, i < n2 → 0 ≤ tt i ∧ tt i ≤ 255) (hS : Sep (h :: l) H) :
    CallP Try.prog W 22 #[.int .u16 m, .agg #[.int .u8 g0, .int .u8 g1], .slice a2 n2 cap2] H fun v H' => v = .bool true ∧ Sep (h :: l) H' := by
  refine CallP.of mixed Try.func22 tr22 (by show 3 ≤ _; decide) fun W _ => ?_
  simp only [↓D0, ↓D1, ↓D2, ↓D3, ↓D4, ↓D5, ↓D6, ↓D7, ↓D8, ↓D9, U0, U1, U2, U3, U4, U5, U6, U7, U8, U9, U10, ↓reduceIte, Nat.reduceAdd, Nat.reduceMul, Nat.reduceSub, Nat.reduceEqDiff, Nat.reduceBEq, Nat.reduceLeDiff, Nat.reduceLT, Int.reduceAdd, Int.reduceMul, Int.reduceSub, Int.reduceLT, Int.reduceLE, Int.reduceToNat, Int.reduceEq, Int.reduceNe, Int.reduceBEq, Int.reduceBNe, ne_eq, eq_self]
  refine newB_intro fun z hz f1 f2 => ?_
  have hS := (hS.new f1 (.cells #[.int .u8 g0, .int .u8 g1] 54 (0, 0)))
  simp only [↓D0, ↓D1, ↓D2, ↓D3, ↓D4, ↓D5, ↓D6, ↓D7, ↓D8, ↓D9, U0, U1, U2, U3, U4, U5, U6, U7, U8, U9, U10, ↓reduceIte, Nat.reduceAdd, Nat.reduceMul, Nat.reduceSub, Nat.reduceEqDiff, Nat.reduceBEq, Nat.reduceLeDiff, Nat.reduceLT, Int.reduceAdd, Int.reduceMul, Int.reduceSub, Int.reduceLT, Int.reduceLE, Int.reduceToNat, Int.reduceEq, Int.reduceNe, Int.reduceBEq, Int.reduceBNe, ne_eq, eq_self]
  refine callT_of (c_awake9 hS) ?_
  rintro v H' ⟨rfl, hS⟩
  have hz1 := hS.look
  have rz := fun o => rd_of hz1 o
  have i0 : (0 : Int) < ((2 : Nat) : Int) := by decide
  have i1 : (1 : Int) < ((2 : Nat) : Int) := by decide
  have eg0 : w64 g0 = g0 := w64_eq (by omega) (by omega)
  have eg1 : w64 g1 = g1 := w64_eq (by omega) (by omega)
  have em0 : g0.tmod 4 = g0 % 4 := Int.tmod_eq_emod_of_nonneg hg0
  have em1 : g1.tmod 10 = g1 % 10 := Int.tmod_eq_emod_of_nonneg hk0
  have ww0 : w64 (g0 % 4) = g0 % 4 := w64_eq (by omega) (by omega)
  have ww1 : w64 (g1 % 10) = g1 % 10 := w64_eq (by omega) (by omega)
  obtain ⟨n, hn⟩ : ∃ n : Nat, 1 + g1 % 10 = (n : Int) := ⟨(1 + g1 % 10).toNat, by omega⟩
  have ww2 : w64 (n : Int) = (n : Int) := w64_eq (by omega) (by omega)
  simp only [hz1, rz, i0, i1, wrap_w64, eg0, eg1, em0, em1, ww0, ww1, hn, ww2, ↓D0, ↓D1, ↓D2, ↓D3, ↓D4, ↓D5, ↓D6, ↓D7, ↓D8, ↓D9, U0, U1, U2, U3, U4, U5, U6, U7, U8, U9, U10, ↓reduceIte, Nat.reduceAdd, Nat.reduceMul, Nat.reduceSub, Nat.reduceEqDiff, Nat.reduceBEq, Nat.reduceLeDiff, Nat.reduceLT, Int.reduceAdd, Int.reduceMul, Int.reduceSub, Int.reduceLT, Int.reduceLE, Int.reduceToNat, Int.reduceEq, Int.reduceNe, Int.reduceBEq, Int.reduceBNe, ne_eq, eq_self]
  refine callT_of (c_many (by omega) (by omega) m0 m1 (by omega) (by omega) hr2 hn2 ht hS.p1) ?_
  rintro v H' ⟨rfl, hS⟩
  simp only [↓D0, ↓D1, ↓D2, ↓D3, ↓D4, ↓D5, ↓D6, ↓D7, ↓D8, ↓D9, U0, U1, U2, U3, U4, U5, U6, U7, U8, U9, U10, ↓reduceIte, Nat.reduceAdd, Nat.reduceMul, Nat.reduceSub, Nat.reduceEqDiff, Nat.reduceBEq, Nat.reduceLeDiff, Nat.reduceLT, Int.reduceAdd, Int.reduceMul, Int.reduceSub, Int.reduceLT, Int.reduceLE, Int.reduceToNat, Int.reduceEq, Int.reduceNe, Int.reduceBEq, Int.reduceBNe, ne_eq, eq_self]
  exact hS.p1.tail
end
theorem l_slotmany {W : World} {n2 cap2 : Nat} {a2 : Option Addr} {tt : Nat → Int} (m : Int) (hm : 0 ≤ m ∧ m ≤ 65535) (g0 g1 : Int) (hg : 0 ≤ g0 ∧ g0 ≤ 255) (hk : 0 ≤ g1 ∧ g1 ≤ 255) (hn2 : n2 ≤ 9223372036854775807) (hr2 : RowV (memOf W) a2 n2 (fun i => .int .u8 (tt i))) (ht : ∀ i, i < n2 → IntKind.u8.has (tt i)) :
    CallP Try.prog W 22 #[.int .u16 m, .agg #[.int .u8 g0, .int .u8 g1], .slice a2 n2 cap2] (memOf W) fun v H' => v = .bool true ∧ Sub (memOf W) H' :=
  (c_slotmany hm.1 hm.2 hg.1 hg.2 hk.1 hk.2 hr2 hn2 (fun i hi => u8_bd (ht i hi)) (Sep.one _)).mono fun v H' ⟨h1, h2⟩ => ⟨h1, h2.head⟩
end Go.Proofs.Ytfapipblclikbaa
