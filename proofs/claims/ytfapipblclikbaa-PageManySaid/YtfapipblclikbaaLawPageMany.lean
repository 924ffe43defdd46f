/-
  PageMany, walked: many claimers of pages that take turns. Conditions: none.
-/
import Derived.Test.YtfapipblclikbaaPageK
import Derived.Test.YtfapipblclikbaaGrow
import Derived.Test.YtfapipblclikbaaRowB
import Derived.Test.YtfapipblclikbaaFam
import Derived.Test.YtfapipblclikbaaMaMany4
set_option linter.unusedVariables false
set_option linter.unusedSimpArgs false
set_option maxRecDepth 8000
namespace Go.Proofs.Ytfapipblclikbaa
open Go Go.Ev Go.Pl Go.Ma

/-- The words as they are laid: pages that are full. -/
def mwF (n : Nat) (B : Nat → Bool) (i : Nat) : Nat → Int := fun j => if n ≤ j ∧ j - n < i ∧ B (j - n) = true then putPg 3 1 0 else 0
theorem mwF_U (n : Nat) (B : Nat → Bool) (i j : Nat) : U (mwF n B i j) := by unfold mwF; split; exact U_putPg ..; exact U_0
theorem mwF_yes {n : Nat} {B : Nat → Bool} {i : Nat} (h : B i = true) : (fun j => if j = n + i then putPg 3 1 0 else mwF n B i j) = mwF n B (i + 1) := by
  funext j
  unfold mwF
  by_cases e : j = n + i
  · subst e; rw [if_pos rfl, if_pos ⟨by omega, by omega, by rw [show n + i - n = i by omega]; exact h⟩]
  · rw [if_neg e]
    by_cases e2 : n ≤ j ∧ j - n < i ∧ B (j - n) = true
    · rw [if_pos e2, if_pos ⟨e2.1, by omega, e2.2.2⟩]
    · rw [if_neg e2, if_neg (fun e3 => e2 ⟨e3.1, by omega, e3.2.2⟩)]
theorem mwF_no {n : Nat} {B : Nat → Bool} {i : Nat} (h : B i = false) : mwF n B i = mwF n B (i + 1) := by
  funext j
  unfold mwF
  by_cases e2 : n ≤ j ∧ j - n < i ∧ B (j - n) = true
  · rw [if_pos e2, if_pos ⟨e2.1, by omega, e2.2.2⟩]
  · rw [if_neg e2, if_neg (fun e3 => e2 ⟨e3.1, by
      have : j - n ≠ i := fun e => by rw [e, h] at e3; cases e3.2.2
      omega, e3.2.2⟩)]
section
variable {W : World} {H h : Hp} {l : List Hp} {P n1 n2 cap0 cap1 cap2 : Nat} {a0 a1 a2 : Option Addr} {B : Nat → Bool} {fs tt : Nat → Int}

def pmG (P n1 n2 cap0 cap1 cap2 : Nat) (a0 a1 a2 : Option Addr) (x : Nat) (F' : Fr) : Prop := gt F' 0 = .slice a0 P cap0 ∧ gt F' 1 = .slice a1 n1 cap1 ∧ gt F' 2 = .slice a2 n2 cap2 ∧ gt F' 7 = .int .i64 (n1 : Int) ∧ gt F' 8 = .pointer (some ⟨x, 0, none⟩)
def pmA (B : Nat → Bool) (N y : Nat) (P n1 n2 cap0 cap1 cap2 : Nat) (a0 a1 a2 : Option Addr) (x : Nat) (L : List Hp) (F' : Fr) (H' : Hp) : Prop :=
  ∃ i : Nat, i ≤ P ∧ gt F' 11 = .int .i64 (i : Int) ∧ gt F' 10 = .int .i64 (cnt (fun q => !B q) i : Nat) ∧ gt F' 9 = .slice (some ⟨y, 0, none⟩) N N ∧ pmG P n1 n2 cap0 cap1 cap2 a0 a1 a2 x F' ∧ Sep (sg y (.cells (urow N (mwF n1 B i)) 26 (0, 0)) :: L) H'
def pmN (B : Nat → Bool) (b : Nat) (P n1 n2 cap0 cap1 cap2 : Nat) (a0 a1 a2 : Option Addr) (x : Nat) (F' : Fr) : Prop := gt F' 10 = .int .i64 (cnt (fun q => !B q) P : Nat) ∧ gt F' 12 = .pointer (some ⟨b, 0, none⟩) ∧ pmG P n1 n2 cap0 cap1 cap2 a0 a1 a2 x F'
def pmB (B : Nat → Bool) (fs : Nat → Int) (w0 : Wd) (b s : Nat) (P n1 n2 cap0 cap1 cap2 : Nat) (a0 a1 a2 : Option Addr) (x : Nat) (L : List Hp) (F' : Fr) (H' : Hp) : Prop :=
  ∃ (i : Nat) (a : Option Addr) (cap : Nat) (g : Hp) (ks : Nat → Nat), i ≤ n1 ∧ gt F' 14 = .int .i64 (i : Int) ∧ gt F' 13 = .slice a i cap ∧ pmN B b P n1 n2 cap0 cap1 cap2 a0 a1 a2 x F' ∧ Gr 59 a i cap (fun j => .pointer (some ⟨ks j, 0, none⟩)) g ∧
    Sep (g :: wB b s w0 :: wR s w0 :: (fam i (fun c => pcB (ks c) (Pc.new ⟨P, n1, 0⟩ c (fs c % P))) ++ L)) H'
def pmC (B : Nat → Bool) (a : Option Addr) (cap : Nat) (g : Hp) (ks : Nat → Nat) (b s : Nat) (P n1 n2 cap0 cap1 cap2 : Nat) (a0 a1 a2 : Option Addr) (x : Nat) (L : List Hp) (F' : Fr) (H' : Hp) : Prop :=
  ∃ (i : Nat) (ts : Nat → Pc) (w : Wd), i ≤ n2 ∧ gt F' 15 = .int .i64 (i : Int) ∧ gt F' 13 = .slice a n1 cap ∧ pmN B b P n1 n2 cap0 cap1 cap2 a0 a1 a2 x F' ∧ PgInv n1 ⟨P, n1, 0⟩ (fun q => B q.toNat = true) ts w ∧ (∀ c, (ts c).Bd) ∧
    Sep (g :: wB b s w :: wR s w :: (fam n1 (fun c => pcB (ks c) (ts c)) ++ L)) H'
def pmD (B : Nat → Bool) (a : Option Addr) (cap : Nat) (g : Hp) (ks : Nat → Nat) (b s sb : Nat) (P n1 n2 cap0 cap1 cap2 : Nat) (a0 a1 a2 : Option Addr) (x : Nat) (L : List Hp) (F' : Fr) (H' : Hp) : Prop :=
  ∃ (c : Nat) (ts : Nat → Pc) (w : Wd) (sv : Nat → Bool), c ≤ n1 ∧ gt F' 18 = .int .i64 (c : Int) ∧ gt F' 17 = .int .i64 (cnt (fun d => (ts d).fd) c : Nat) ∧ gt F' 16 = .slice (some ⟨sb, 0, none⟩) P P ∧ gt F' 13 = .slice a n1 cap ∧ pmN B b P n1 n2 cap0 cap1 cap2 a0 a1 a2 x F' ∧
    PgInv n1 ⟨P, n1, 0⟩ (fun q => B q.toNat = true) ts w ∧ (∀ c, (ts c).Bd) ∧ (∀ d, d < c → (ts d).dn = true) ∧ (∀ j : Nat, sv j = true → ∃ d, d < c ∧ (ts d).fd = true ∧ (ts d).pg = j) ∧
    Sep (g :: wB b s w :: wR s w :: (fam n1 (fun c => pcB (ks c) (ts c)) ++ (sg sb (.cells (brow P sv) 4 (0, 0)) :: L))) H'
def pmE (B : Nat → Bool) (a : Option Addr) (cap : Nat) (g : Hp) (ks : Nat → Nat) (b s sb : Nat) (c : Nat) (ts0 : Nat → Pc) (sv : Nat → Bool) (P n1 n2 cap0 cap1 cap2 : Nat) (a0 a1 a2 : Option Addr) (x : Nat) (L : List Hp) (F' : Fr) (H' : Hp) : Prop :=
  ∃ (i : Int) (ts : Nat → Pc) (w : Wd), 0 ≤ i ∧ i ≤ 2 * (P : Int) + 2 ∧ gt F' 19 = .int .i64 i ∧ gt F' 18 = .int .i64 (c : Int) ∧ gt F' 17 = .int .i64 (cnt (fun d => (ts0 d).fd) c : Nat) ∧ gt F' 16 = .slice (some ⟨sb, 0, none⟩) P P ∧ gt F' 13 = .slice a n1 cap ∧ pmN B b P n1 n2 cap0 cap1 cap2 a0 a1 a2 x F' ∧
    PgInv n1 ⟨P, n1, 0⟩ (fun q => B q.toNat = true) ts w ∧ (∀ c, (ts c).Bd) ∧ (∀ d, d ≠ c → ts d = ts0 d) ∧ (ts c).left ≤ max 0 (2 * (P : Int) - i) ∧
    Sep (g :: wB b s w :: wR s w :: (fam n1 (fun c => pcB (ks c) (ts c)) ++ (sg sb (.cells (brow P sv) 4 (0, 0)) :: L))) H'

theorem c_pagemany (hr0 : RowV h a0 P (fun i => .bool (B i))) (hr1 : RowV h a1 n1 (fun i => .int .u8 (fs i))) (hr2 : RowV h a2 n2 (fun i => .int .u8 (tt i))) (hf : ∀ i, i < n1 → 0 ≤ fs i ∧ fs i ≤ 255) (ht : ∀ i, i < n2 → 0 ≤ tt i ∧ tt i ≤ 255) (hS : Sep (h :: l) H) :
    CallP Try.prog W 9 #[.slice a0 P cap0, .slice a1 n1 cap1, .slice a2 n2 cap2] H fun v H' => v = .bool true ∧ Sep (h :: l) H' := by
  refine CallP.of mixed Try.func9 tr9 (by show 3 ≤ _; decide) fun W _ => ?_
  simp only [↓D0, ↓D1, ↓D2, ↓D3, ↓D4, ↓D5, ↓D6, ↓D7, ↓D8, ↓D9, U0, U1, U2, U3, U4, U5, U6, U7, U8, U9, U10, ↓reduceIte, Nat.reduceAdd, Nat.reduceMul, Nat.reduceSub, Nat.reduceEqDiff, Nat.reduceBEq, Nat.reduceLeDiff, Nat.reduceLT, Int.reduceAdd, Int.reduceMul, Int.reduceSub, Int.reduceLT, Int.reduceLE, Int.reduceToNat, Int.reduceEq, Int.reduceNe, Int.reduceBEq, Int.reduceBNe, ne_eq, eq_self]
  refine callT_of (c_awake10 hS) ?_
  rintro v H' ⟨rfl, hS⟩
  by_cases b1 : n1 = 0
  · have g1 : ((n1 : Int) == 0) = true := beq_iff_eq.2 (by omega)
    simp only [g1, ↓D0, ↓D1, ↓D2, ↓D3, ↓D4, ↓D5, ↓D6, ↓D7, ↓D8, ↓D9, U0, U1, U2, U3, U4, U5, U6, U7, U8, U9, U10, ↓reduceIte, Nat.reduceAdd, Nat.reduceMul, Nat.reduceSub, Nat.reduceEqDiff, Nat.reduceBEq, Nat.reduceLeDiff, Nat.reduceLT, Int.reduceAdd, Int.reduceMul, Int.reduceSub, Int.reduceLT, Int.reduceLE, Int.reduceToNat, Int.reduceEq, Int.reduceNe, Int.reduceBEq, Int.reduceBNe, ne_eq, eq_self]
    exact hS
  have g1 : ((n1 : Int) == 0) = false := beq_eq_false_iff_ne.2 (by omega)
  by_cases b2 : 10 < n1
  · have g2 : decide (10 < (n1 : Int)) = true := decide_eq_true (by omega)
    simp only [g1, g2, ↓D0, ↓D1, ↓D2, ↓D3, ↓D4, ↓D5, ↓D6, ↓D7, ↓D8, ↓D9, U0, U1, U2, U3, U4, U5, U6, U7, U8, U9, U10, ↓reduceIte, Nat.reduceAdd, Nat.reduceMul, Nat.reduceSub, Nat.reduceEqDiff, Nat.reduceBEq, Nat.reduceLeDiff, Nat.reduceLT, Int.reduceAdd, Int.reduceMul, Int.reduceSub, Int.reduceLT, Int.reduceLE, Int.reduceToNat, Int.reduceEq, Int.reduceNe, Int.reduceBEq, Int.reduceBNe, ne_eq, eq_self]
    exact hS
  have g2 : decide (10 < (n1 : Int)) = false := decide_eq_false (by omega)
  by_cases b3 : P = 0
  · have g3 : ((P : Int) == 0) = true := beq_iff_eq.2 (by omega)
    simp only [g1, g2, g3, ↓D0, ↓D1, ↓D2, ↓D3, ↓D4, ↓D5, ↓D6, ↓D7, ↓D8, ↓D9, U0, U1, U2, U3, U4, U5, U6, U7, U8, U9, U10, ↓reduceIte, Nat.reduceAdd, Nat.reduceMul, Nat.reduceSub, Nat.reduceEqDiff, Nat.reduceBEq, Nat.reduceLeDiff, Nat.reduceLT, Int.reduceAdd, Int.reduceMul, Int.reduceSub, Int.reduceLT, Int.reduceLE, Int.reduceToNat, Int.reduceEq, Int.reduceNe, Int.reduceBEq, Int.reduceBNe, ne_eq, eq_self]
    exact hS
  have g3 : ((P : Int) == 0) = false := beq_eq_false_iff_ne.2 (by omega)
  by_cases b4 : 20 < P
  · have g4 : decide (20 < (P : Int)) = true := decide_eq_true (by omega)
    simp only [g1, g2, g3, g4, ↓D0, ↓D1, ↓D2, ↓D3, ↓D4, ↓D5, ↓D6, ↓D7, ↓D8, ↓D9, U0, U1, U2, U3, U4, U5, U6, U7, U8, U9, U10, ↓reduceIte, Nat.reduceAdd, Nat.reduceMul, Nat.reduceSub, Nat.reduceEqDiff, Nat.reduceBEq, Nat.reduceLeDiff, Nat.reduceLT, Int.reduceAdd, Int.reduceMul, Int.reduceSub, Int.reduceLT, Int.reduceLE, Int.reduceToNat, Int.reduceEq, Int.reduceNe, Int.reduceBEq, Int.reduceBNe, ne_eq, eq_self]
    exact hS
  have g4 : decide (20 < (P : Int)) = false := decide_eq_false (by omega)
  by_cases b5 : 1000 < n2
  · have g5 : decide (1000 < (n2 : Int)) = true := decide_eq_true (by omega)
    simp only [g1, g2, g3, g4, g5, ↓D0, ↓D1, ↓D2, ↓D3, ↓D4, ↓D5, ↓D6, ↓D7, ↓D8, ↓D9, U0, U1, U2, U3, U4, U5, U6, U7, U8, U9, U10, ↓reduceIte, Nat.reduceAdd, Nat.reduceMul, Nat.reduceSub, Nat.reduceEqDiff, Nat.reduceBEq, Nat.reduceLeDiff, Nat.reduceLT, Int.reduceAdd, Int.reduceMul, Int.reduceSub, Int.reduceLT, Int.reduceLE, Int.reduceToNat, Int.reduceEq, Int.reduceNe, Int.reduceBEq, Int.reduceBNe, ne_eq, eq_self]
    exact hS
  have g5 : decide (1000 < (n2 : Int)) = false := decide_eq_false (by omega)
  simp only [g1, g2, g3, g4, g5, ↓D0, ↓D1, ↓D2, ↓D3, ↓D4, ↓D5, ↓D6, ↓D7, ↓D8, ↓D9, U0, U1, U2, U3, U4, U5, U6, U7, U8, U9, U10, ↓reduceIte, Nat.reduceAdd, Nat.reduceMul, Nat.reduceSub, Nat.reduceEqDiff, Nat.reduceBEq, Nat.reduceLeDiff, Nat.reduceLT, Int.reduceAdd, Int.reduceMul, Int.reduceSub, Int.reduceLT, Int.reduceLE, Int.reduceToNat, Int.reduceEq, Int.reduceNe, Int.reduceBEq, Int.reduceBNe, ne_eq, eq_self]
  refine newB_intro fun x hx f3 f4 => ?_
  have hS := hS.new f3 (.cells #[.int .i64 0, .int .i64 0, .int .i64 0] 57 (0, 0))
  have hS := hS.set (.cells #[.int .i64 (P : Int), .int .i64 (n1 : Int), .int .i64 0] 57 (0, 0))
  rw [Ev.upd_upd] at hS
  have hx1 := hS.look
  have r1 := fun o n => rdn_of hx1 o n
  have hm : may P n1 0 = true := (may_iff _ _ _).2 (by omega)
  obtain ⟨N, hN⟩ : ∃ N : Nat, words P n1 0 = (N : Int) := ⟨(words P n1 0).toNat, by have := words_le hm; omega⟩
  have hNb := words_le hm
  have hN2 : N ≤ 2000 := by omega
  have hNw : (N : Int) = n1 + P + P * 16 := by rw [← hN]; unfold words; rw [if_pos hm]; omega
  have n0 : (0 : Int) ≤ (N : Int) := by omega
  have n8 : 8 * (N : Int) ≤ 281474976710656 := by omega
  have n9 : (N : Int) ≤ 9223372036854775807 := by omega
  have nle : (N : Int) ≤ (N : Int) := Int.le_refl _
  simp only [Ev.upd_upd, hx1, r1, u_words, hN, n0, n8, n9, nle, Int.toNat_natCast, ↓D0, ↓D1, ↓D2, ↓D3, ↓D4, ↓D5, ↓D6, ↓D7, ↓D8, ↓D9, U0, U1, U2, U3, U4, U5, U6, U7, U8, U9, U10, ↓reduceIte, Nat.reduceAdd, Nat.reduceMul, Nat.reduceSub, Nat.reduceEqDiff, Nat.reduceBEq, Nat.reduceLeDiff, Nat.reduceLT, Int.reduceAdd, Int.reduceMul, Int.reduceSub, Int.reduceLT, Int.reduceLE, Int.reduceToNat, Int.reduceEq, Int.reduceNe, Int.reduceBEq, Int.reduceBNe, ne_eq, eq_self]
  refine newB_intro fun y hy f5 f6 => ?_
  have hS := hS.new f5 (.cells (urow N fun _ => 0) 26 (0, 0))
  have ez : (fun _ => 0 : Nat → Int) = mwF n1 B 0 := by funext j; unfold mwF; rw [if_neg (by omega)]
  rw [ez] at hS
  simp only [urow_zero, urow_size, ↓D0, ↓D1, ↓D2, ↓D3, ↓D4, ↓D5, ↓D6, ↓D7, ↓D8, ↓D9, U0, U1, U2, U3, U4, U5, U6, U7, U8, U9, U10, ↓reduceIte, Nat.reduceAdd, Nat.reduceMul, Nat.reduceSub, Nat.reduceEqDiff, Nat.reduceBEq, Nat.reduceLeDiff, Nat.reduceLT, Int.reduceAdd, Int.reduceMul, Int.reduceSub, Int.reduceLT, Int.reduceLE, Int.reduceToNat, Int.reduceEq, Int.reduceNe, Int.reduceBEq, Int.reduceBNe, ne_eq, eq_self]
  refine loop_intro (pmA B N y P n1 n2 cap0 cap1 cap2 a0 a1 a2 x (sg x (.cells #[.int .i64 (P : Int), .int .i64 (n1 : Int), .int .i64 0] 57 (0, 0)) :: h :: l)) (fun F' _ => (P - iv (gt F' 11)).toNat)
    ⟨0, by omega, rfl, rfl, rfl, ⟨rfl, rfl, rfl, rfl, rfl⟩, by rw [ez]; exact hS⟩ ?_
  rintro F' H' ⟨i, i1, e11, e10, e9, ⟨e0, e1, e2, e7, e8⟩, hS⟩
  have hx1 := hS.lk 1 rfl
  have r0 := fun o => rd_of hx1 o
  have r1 := fun o n => rdn_of hx1 o n
  by_cases hi : i < P
  · have d1 : decide ((i : Int) < (P : Int)) = true := decide_eq_true (by omega)
    have d2 : (0 : Int) ≤ (i : Int) := by omega
    have d3 : (i : Int) < (P : Int) := by omega
    have wi : w64 ((i : Int) + 1) = ((i + 1 : Nat) : Int) := by rw [w64_eq (by omega) (by omega)]; omega
    obtain ⟨fb, fo, rfl, hrd⟩ := (hr0.sub (hS.sb h (by simp))).at' hi
    cases hB : B i
    · rw [hB] at hrd
      have hc : cnt (fun q => !B q) (i + 1) = cnt (fun q => !B q) i + 1 := by show _ + (if (!B i) = true then 1 else 0) = _; rw [hB]; rfl
      have hcl := cnt_le (fun q => !B q) i
      have wc : w64 ((cnt (fun q => !B q) i : Nat) + 1 : Int) = ((cnt (fun q => !B q) (i + 1) : Nat) : Int) := by rw [hc, w64_eq (by omega) (by omega)]; omega
      simp only [e11, e10, e9, e0, e1, e2, e7, e8, d1, d2, d3, hx1, r0, hrd, wrap_w64, wi, wc, Int.toNat_natCast, ↓D0, ↓D1, ↓D2, ↓D3, ↓D4, ↓D5, ↓D6, ↓D7, ↓D8, ↓D9, U0, U1, U2, U3, U4, U5, U6, U7, U8, U9, U10, ↓reduceIte, Nat.reduceAdd, Nat.reduceMul, Nat.reduceSub, Nat.reduceEqDiff, Nat.reduceBEq, Nat.reduceLeDiff, Nat.reduceLT, Int.reduceAdd, Int.reduceMul, Int.reduceSub, Int.reduceLT, Int.reduceLE, Int.reduceToNat, Int.reduceEq, Int.reduceNe, Int.reduceBEq, Int.reduceBNe, ne_eq, eq_self]
      exact ⟨⟨i + 1, by omega, by simp [gt], by simp [gt], by simp [gt, e9], ⟨by simp [gt, e0], by simp [gt, e1], by simp [gt, e2], by simp [gt, e7], by simp [gt, e8]⟩, by rw [← mwF_no hB]; exact hS⟩, by simp [gt, iv, e11]; omega⟩
    · rw [hB] at hrd
      have hc : cnt (fun q => !B q) (i + 1) = cnt (fun q => !B q) i := by show _ + (if (!B i) = true then 1 else 0) = _; rw [hB]; rfl
      have hpa : page P n1 0 i = (n1 : Int) + i := page_yes hm d2 d3
      have q0 : (0 : Int) ≤ (n1 : Int) + i := by omega
      have q1 : (n1 : Int) + i < (N : Int) := by omega
      have q2 : ((n1 : Int) + i).toNat = n1 + i := by omega
      have hset := hS.set (.cells (urow N (mwF n1 B (i + 1))) 26 (0, 0))
      have hy1 := hS.look
      have nyx := hS.neq 0 1 (by decide) rfl rfl
      have nxy := hS.qen 0 1 (by decide) rfl rfl
      simp only [e11, e10, e9, e0, e1, e2, e7, e8, d1, d2, d3, hx1, hy1, nyx, nxy, r0, r1, hrd, u_page, hpa, u_putpg, q0, q1, q2, urow_size, urow_set, mwF_yes hB, wrap_w64, wi, Int.toNat_natCast, ↓D0, ↓D1, ↓D2, ↓D3, ↓D4, ↓D5, ↓D6, ↓D7, ↓D8, ↓D9, U0, U1, U2, U3, U4, U5, U6, U7, U8, U9, U10, ↓reduceIte, Nat.reduceAdd, Nat.reduceMul, Nat.reduceSub, Nat.reduceEqDiff, Nat.reduceBEq, Nat.reduceLeDiff, Nat.reduceLT, Int.reduceAdd, Int.reduceMul, Int.reduceSub, Int.reduceLT, Int.reduceLE, Int.reduceToNat, Int.reduceEq, Int.reduceNe, Int.reduceBEq, Int.reduceBNe, ne_eq, eq_self]
      exact ⟨by omega, ⟨i + 1, by omega, by simp [gt], by rw [hc]; simp [gt, e10], by simp [gt, e9], ⟨by simp [gt, e0], by simp [gt, e1], by simp [gt, e2], by simp [gt, e7], by simp [gt, e8]⟩, hset⟩, by simp [gt, iv, e11]; omega⟩
  have d1 : decide ((i : Int) < (P : Int)) = false := decide_eq_false (by omega)
  have hiP : i = P := by omega
  rw [hiP] at e10 hS
  simp only [e11, e10, e9, e0, e1, e2, e7, e8, d1, hx1, r0, ↓D0, ↓D1, ↓D2, ↓D3, ↓D4, ↓D5, ↓D6, ↓D7, ↓D8, ↓D9, U0, U1, U2, U3, U4, U5, U6, U7, U8, U9, U10, ↓reduceIte, Nat.reduceAdd, Nat.reduceMul, Nat.reduceSub, Nat.reduceEqDiff, Nat.reduceBEq, Nat.reduceLeDiff, Nat.reduceLT, Int.reduceAdd, Int.reduceMul, Int.reduceSub, Int.reduceLT, Int.reduceLE, Int.reduceToNat, Int.reduceEq, Int.reduceNe, Int.reduceBEq, Int.reduceBNe, ne_eq, eq_self]
  refine callT_of (c_fill (n := N) hN2 (RowU.own y N _ _ _) hS) ?_
  rintro v H' ⟨b, s, rfl, hS⟩
  have hS := hS.p2.tail
  have pn0 : ((P : Int) = 0) = False := eq_false (by omega)
  have mdP := fun z : Int => mod_bd (a := z) (p := (P : Int)) (by omega)
  obtain ⟨w0, hw0⟩ : ∃ w0, w0 = rowW N (mwF n1 B P) := ⟨_, rfl⟩
  rw [← hw0] at hS
  have hof0 : w0.of ⟨P, n1, 0⟩ := by rw [hw0]; exact rowW_of hN.symm fun i _ => mwF_U n1 B P i
  simp only [e11, e10, e9, e0, e1, e2, e7, e8, ↓D0, ↓D1, ↓D2, ↓D3, ↓D4, ↓D5, ↓D6, ↓D7, ↓D8, ↓D9, U0, U1, U2, U3, U4, U5, U6, U7, U8, U9, U10, ↓reduceIte, Nat.reduceAdd, Nat.reduceMul, Nat.reduceSub, Nat.reduceEqDiff, Nat.reduceBEq, Nat.reduceLeDiff, Nat.reduceLT, Int.reduceAdd, Int.reduceMul, Int.reduceSub, Int.reduceLT, Int.reduceLE, Int.reduceToNat, Int.reduceEq, Int.reduceNe, Int.reduceBEq, Int.reduceBNe, ne_eq, eq_self]
  refine loop_intro (pmB B fs w0 b s P n1 n2 cap0 cap1 cap2 a0 a1 a2 x (sg x (.cells #[.int .i64 (P : Int), .int .i64 (n1 : Int), .int .i64 0] 57 (0, 0)) :: h :: l)) (fun F' _ => (n1 - iv (gt F' 14)).toNat)
    ⟨0, none, 0, _, fun _ => 0, by omega, rfl, rfl, ⟨by simp [gt, e10], by simp [gt], ⟨by simp [gt, e0], by simp [gt, e1], by simp [gt, e2], by simp [gt, e7], by simp [gt, e8]⟩⟩, Gr.none _ _, hS.nothing⟩ ?_
  rintro F' H' ⟨i, a, cap, g, ks, i1, e14, e13, ⟨e10, e12, ⟨e0, e1, e2, e7, e8⟩⟩, hG, hS⟩
  have hL := hS.tail.tail.tail.drop
  have hx1 := hL.lk 0 rfl
  have r0 := fun o => rd_of hx1 o
  have r1 := fun o n => rdn_of hx1 o n
  by_cases hi : i < n1
  · have d1 : decide ((i : Int) < (n1 : Int)) = true := decide_eq_true (by omega)
    have d2 : (0 : Int) ≤ (i : Int) := by omega
    have d3 : (i : Int) < (n1 : Int) := by omega
    have wi : w64 ((i : Int) + 1) = ((i + 1 : Nat) : Int) := by rw [w64_eq (by omega) (by omega)]; omega
    obtain ⟨fb, fo, hfa, hrd0⟩ := hr1.at' hi
    obtain ⟨fc, fT, ff, hfh, hfc⟩ := rd_cells4 hrd0
    subst hfa
    have hfm : H' fb = some (.cells fc fT ff) := hL.sb h (by simp) fb _ hfh
    have hrd : rd H' fb (fo + i) = some (.int .u8 (fs i)) := by rw [rd_of hfm]; exact hfc
    obtain ⟨nxf, nfx⟩ := Sep_far hL (i := 0) (j := 1) (by decide) rfl rfl hfh
    have hfi := hf i hi
    have ef : w64 (fs i) = fs i := w64_eq (by omega) (by omega)
    have et : (fs i).tmod P = fs i % P := Int.tmod_eq_emod_of_nonneg hfi.1
    have mdi := mdP (fs i)
    have wq : w64 (fs i % P) = fs i % P := w64_eq (by omega) (by omega)
    simp only [e14, e13, e10, e12, e0, e1, e2, e7, e8, d1, ↓D0, ↓D1, ↓D2, ↓D3, ↓D4, ↓D5, ↓D6, ↓D7, ↓D8, ↓D9, U0, U1, U2, U3, U4, U5, U6, U7, U8, U9, U10, ↓reduceIte, Nat.reduceAdd, Nat.reduceMul, Nat.reduceSub, Nat.reduceEqDiff, Nat.reduceBEq, Nat.reduceLeDiff, Nat.reduceLT, Int.reduceAdd, Int.reduceMul, Int.reduceSub, Int.reduceLT, Int.reduceLE, Int.reduceToNat, Int.reduceEq, Int.reduceNe, Int.reduceBEq, Int.reduceBNe, ne_eq, eq_self]
    refine draw_intro [(x, #[.int .i64 (P : Int), .int .i64 (n1 : Int), .int .i64 0], []), (fb, fc, [])] (by simp only [hx1, hfm, ↓D0, ↓D1, ↓D2, ↓D3, ↓D4, ↓D5, ↓D6, ↓D7, ↓D8, ↓D9, U0, U1, U2, U3, U4, U5, U6, U7, U8, U9, U10, ↓reduceIte, Nat.reduceAdd, Nat.reduceMul, Nat.reduceSub, Nat.reduceEqDiff, Nat.reduceBEq, Nat.reduceLeDiff, Nat.reduceLT, Int.reduceAdd, Int.reduceMul, Int.reduceSub, Int.reduceLT, Int.reduceLE, Int.reduceToNat, Int.reduceEq, Int.reduceNe, Int.reduceBEq, Int.reduceBNe, ne_eq, eq_self]) ?_
    simp only [e14, e13, e10, e12, e0, e1, e2, e7, e8, d1, d2, d3, hx1, hfm, r0, r1, nxf, nfx, hrd, hfc, pn0, wrap_w64, ef, et, wq, Int.toNat_natCast, ↓D0, ↓D1, ↓D2, ↓D3, ↓D4, ↓D5, ↓D6, ↓D7, ↓D8, ↓D9, U0, U1, U2, U3, U4, U5, U6, U7, U8, U9, U10, ↓reduceIte, Nat.reduceAdd, Nat.reduceMul, Nat.reduceSub, Nat.reduceEqDiff, Nat.reduceBEq, Nat.reduceLeDiff, Nat.reduceLT, Int.reduceAdd, Int.reduceMul, Int.reduceSub, Int.reduceLT, Int.reduceLE, Int.reduceToNat, Int.reduceEq, Int.reduceNe, Int.reduceBEq, Int.reduceBNe, ne_eq, eq_self]
    refine callT_of (c_pcnew (sh := ⟨P, n1, 0⟩) hS) ?_
    rintro v H' ⟨k, rfl, hS⟩
    have hL := hS.tail.tail.tail.tail.drop
    have hx1 := hL.lk 0 rfl
    have hfm : H' fb = some (.cells fc fT ff) := hL.sb h (by simp) fb _ hfh
    simp only [hx1, hfm, ↓D0, ↓D1, ↓D2, ↓D3, ↓D4, ↓D5, ↓D6, ↓D7, ↓D8, ↓D9, U0, U1, U2, U3, U4, U5, U6, U7, U8, U9, U10, ↓reduceIte, Nat.reduceAdd, Nat.reduceMul, Nat.reduceSub, Nat.reduceEqDiff, Nat.reduceBEq, Nat.reduceLeDiff, Nat.reduceLT, Int.reduceAdd, Int.reduceMul, Int.reduceSub, Int.reduceLT, Int.reduceLE, Int.reduceToNat, Int.reduceEq, Int.reduceNe, Int.reduceBEq, Int.reduceBNe, ne_eq, eq_self]
    refine newB_intro fun y2 hy2 f5 f6 => ?_
    have hS2 := hS.new f5 (.cells #[.pointer (some ⟨k, 0, none⟩)] 59 (0, 0))
    have hL2 := hS2.tail.tail.tail.tail.tail.drop
    have hx2 := hL2.lk 0 rfl
    have hfm2 := hL2.sb h (by simp) fb _ hfh
    have ha : rds (upd H' y2 (.cells #[.pointer (some ⟨k, 0, none⟩)] 59 (0, 0))) (some ⟨y2, 0, none⟩) 1 = some #[.pointer (some ⟨k, 0, none⟩)] := by
      simp only [rds, ↓D0, ↓D1, ↓D2, ↓D3, ↓D4, ↓D5, ↓D6, ↓D7, ↓D8, ↓D9, U0, U1, U2, U3, U4, U5, U6, U7, U8, U9, U10, ↓reduceIte, Nat.reduceAdd, Nat.reduceMul, Nat.reduceSub, Nat.reduceEqDiff, Nat.reduceBEq, Nat.reduceLeDiff, Nat.reduceLT, Int.reduceAdd, Int.reduceMul, Int.reduceSub, Int.reduceLT, Int.reduceLE, Int.reduceToNat, Int.reduceEq, Int.reduceNe, Int.reduceBEq, Int.reduceBNe, ne_eq, eq_self]
    simp only [hx2, hfm2, ha, e13, ↓D0, ↓D1, ↓D2, ↓D3, ↓D4, ↓D5, ↓D6, ↓D7, ↓D8, ↓D9, U0, U1, U2, U3, U4, U5, U6, U7, U8, U9, U10, ↓reduceIte, Nat.reduceAdd, Nat.reduceMul, Nat.reduceSub, Nat.reduceEqDiff, Nat.reduceBEq, Nat.reduceLeDiff, Nat.reduceLT, Int.reduceAdd, Int.reduceMul, Int.reduceSub, Int.reduceLT, Int.reduceLE, Int.reduceToNat, Int.reduceEq, Int.reduceNe, Int.reduceBEq, Int.reduceBNe, ne_eq, eq_self]
    refine grow (z0 := .pointer none) (bytes := 8) (v := .pointer (some ⟨k, 0, none⟩)) hG rfl (by omega) (by decide) (hS2.p2) (fun g2 H2 hG2 hS3 => ?_) (fun old cap2 b2 hG2 hS3 => ?_)
    all_goals
      have hL3 := hS3.tail.tail.tail.tail.tail.drop
      have hx3 := hL3.lk 0 rfl
      have hfm3 := hL3.sb h (by simp) fb _ hfh
      simp only [e14, e13, e10, e12, e0, e1, e2, e7, e8, hx3, hfm3, wrap_w64, wi, ↓D0, ↓D1, ↓D2, ↓D3, ↓D4, ↓D5, ↓D6, ↓D7, ↓D8, ↓D9, U0, U1, U2, U3, U4, U5, U6, U7, U8, U9, U10, ↓reduceIte, Nat.reduceAdd, Nat.reduceMul, Nat.reduceSub, Nat.reduceEqDiff, Nat.reduceBEq, Nat.reduceLeDiff, Nat.reduceLT, Int.reduceAdd, Int.reduceMul, Int.reduceSub, Int.reduceLT, Int.reduceLE, Int.reduceToNat, Int.reduceEq, Int.reduceNe, Int.reduceBEq, Int.reduceBNe, ne_eq, eq_self]
      have e : (fun j => Value.pointer (some ⟨if j = i then k else ks j, 0, none⟩)) = fun j => if j = i then Value.pointer (some ⟨k, 0, none⟩) else Value.pointer (some ⟨ks j, 0, none⟩) := by funext j; split <;> rfl
      rw [← e] at hG2
      exact ⟨⟨i + 1, _, _, _, fun j => if j = i then k else ks j, by omega, by simp [gt], by simp [gt], ⟨by simp [gt, e10], by simp [gt, e12], ⟨by simp [gt, e0], by simp [gt, e1], by simp [gt, e2], by simp [gt, e7], by simp [gt, e8]⟩⟩, hG2, Sep.more3 (hS3.p1.tail.p1) (by simp) (fun d hd => by simp [show d ≠ i by omega])⟩, by simp [gt, iv, e14]; omega⟩
  have d1 : decide ((i : Int) < (n1 : Int)) = false := decide_eq_false (by omega)
  have hin : i = n1 := by omega
  rw [hin] at e13 hG hS
  simp only [e14, e13, e10, e12, e0, e1, e2, e7, e8, d1, ↓D0, ↓D1, ↓D2, ↓D3, ↓D4, ↓D5, ↓D6, ↓D7, ↓D8, ↓D9, U0, U1, U2, U3, U4, U5, U6, U7, U8, U9, U10, ↓reduceIte, Nat.reduceAdd, Nat.reduceMul, Nat.reduceSub, Nat.reduceEqDiff, Nat.reduceBEq, Nat.reduceLeDiff, Nat.reduceLT, Int.reduceAdd, Int.reduceMul, Int.reduceSub, Int.reduceLT, Int.reduceLE, Int.reduceToNat, Int.reduceEq, Int.reduceNe, Int.reduceBEq, Int.reduceBNe, ne_eq, eq_self]
  have hinit : PgInv n1 ⟨P, n1, 0⟩ (fun q => B q.toNat = true) (fun c => Pc.new ⟨P, n1, 0⟩ c (fs c % P)) w0 :=
    PgInv.init (f := fun c => fs c % P) hof0 hm (by show (n1 : Int) ≤ n1; omega) (fun c hc => mdP (fs c)) (fun q q0 q1 hq => by
      have q1 : q < P := q1
      rw [hw0]
      show (if ((n1 : Int) + q).toNat < N then mwF n1 B P ((n1 : Int) + q).toNat else 0) ≠ 0
      rw [if_pos (by omega)]
      unfold mwF
      rw [if_pos ⟨by omega, by omega, by rw [show ((n1 : Int) + q).toNat - n1 = q.toNat by omega]; exact hq⟩]
      decide) (fun q q0 q1 hq => by
      have q1 : q < P := q1
      rw [hw0]
      show (if ((n1 : Int) + q).toNat < N then mwF n1 B P ((n1 : Int) + q).toNat else 0) = 0
      rw [if_pos (by omega)]
      unfold mwF
      rw [if_neg (fun h => hq (by have := h.2.2; rw [show ((n1 : Int) + q).toNat - n1 = q.toNat by omega] at this; exact this))])
  have n10 : ((n1 : Int) = 0) = False := eq_false (by omega)
  refine loop_intro (pmC B a cap g ks b s P n1 n2 cap0 cap1 cap2 a0 a1 a2 x (sg x (.cells #[.int .i64 (P : Int), .int .i64 (n1 : Int), .int .i64 0] 57 (0, 0)) :: h :: l)) (fun F' _ => (n2 - iv (gt F' 15)).toNat)
    ⟨0, _, _, by omega, by simp [gt], by simp [gt, e13], ⟨by simp [gt, e10], by simp [gt, e12], ⟨by simp [gt, e0], by simp [gt, e1], by simp [gt, e2], by simp [gt, e7], by simp [gt, e8]⟩⟩, hinit, fun c => Pc.Bd.new (by show (0 : Int) < P; omega) (mdP _).1 (by have := mdP (fs c); omega), hS⟩ ?_
  rintro F' H' ⟨i, ts, w, i1, e15, e13, ⟨e10, e12, ⟨e0, e1, e2, e7, e8⟩⟩, hI, hBd, hS⟩
  have hL := hS.tail.tail.tail.drop
  by_cases hi : i < n2
  · have d1 : decide ((i : Int) < (n2 : Int)) = true := decide_eq_true (by omega)
    have d2 : (0 : Int) ≤ (i : Int) := by omega
    have d3 : (i : Int) < (n2 : Int) := by omega
    have wi : w64 ((i : Int) + 1) = ((i + 1 : Nat) : Int) := by rw [w64_eq (by omega) (by omega)]; omega
    obtain ⟨tb, to, rfl, hrd⟩ := (hr2.sub (hL.sb h (by simp))).at' hi
    have hti := ht i hi
    have ef : w64 (tt i) = tt i := w64_eq (by omega) (by omega)
    have et : (tt i).tmod n1 = tt i % n1 := Int.tmod_eq_emod_of_nonneg hti.1
    have mdi := mod_bd (a := tt i) (p := (n1 : Int)) (by omega)
    obtain ⟨q, hq⟩ : ∃ q, tt i % n1 = q := ⟨_, rfl⟩
    rw [hq] at mdi et
    obtain ⟨q0, q1⟩ := mdi
    have wq : w64 q = q := w64_eq (by omega) (by omega)
    have hqn : q.toNat < n1 := by omega
    obtain ⟨zb, rfl, hrz⟩ := hG.rd hS (by simp) (i := q.toNat) hqn
    obtain ⟨t1, t2, -⟩ := hI.wf q.toNat hqn
    simp only [e15, e13, e10, e12, e0, e1, e2, e7, e8, d1, d2, d3, hrd, n10, wrap_w64, ef, et, wq, q0, q1, hrz, Nat.zero_add, Int.toNat_natCast, ↓D0, ↓D1, ↓D2, ↓D3, ↓D4, ↓D5, ↓D6, ↓D7, ↓D8, ↓D9, U0, U1, U2, U3, U4, U5, U6, U7, U8, U9, U10, ↓reduceIte, Nat.reduceAdd, Nat.reduceMul, Nat.reduceSub, Nat.reduceEqDiff, Nat.reduceBEq, Nat.reduceLeDiff, Nat.reduceLT, Int.reduceAdd, Int.reduceMul, Int.reduceSub, Int.reduceLT, Int.reduceLE, Int.reduceToNat, Int.reduceEq, Int.reduceNe, Int.reduceBEq, Int.reduceBNe, ne_eq, eq_self]
    refine callT_of (c_pcstep t1 (fun _ => by rw [t2]; exact hI.of) (hS.pick3 hqn)) ?_
    rintro v H' ⟨rfl, hS⟩
    simp only [e15, e13, e10, e12, e0, e1, e2, e7, e8, wrap_w64, wi, ↓D0, ↓D1, ↓D2, ↓D3, ↓D4, ↓D5, ↓D6, ↓D7, ↓D8, ↓D9, U0, U1, U2, U3, U4, U5, U6, U7, U8, U9, U10, ↓reduceIte, Nat.reduceAdd, Nat.reduceMul, Nat.reduceSub, Nat.reduceEqDiff, Nat.reduceBEq, Nat.reduceLeDiff, Nat.reduceLT, Int.reduceAdd, Int.reduceMul, Int.reduceSub, Int.reduceLT, Int.reduceLE, Int.reduceToNat, Int.reduceEq, Int.reduceNe, Int.reduceBEq, Int.reduceBNe, ne_eq, eq_self]
    refine ⟨⟨i + 1, _, _, by omega, by simp [gt], by simp [gt, e13], ⟨by simp [gt, e10], by simp [gt, e12], ⟨by simp [gt, e0], by simp [gt, e1], by simp [gt, e2], by simp [gt, e7], by simp [gt, e8]⟩⟩, hI.step hqn, fun c => ?_, ?_⟩, by simp [gt, iv, e15]; omega⟩
    · by_cases ec : c = q.toNat
      · rw [ec, upT_same]; exact (hBd _).step t1
      · rw [upT_ne _ _ ec]; exact hBd c
    · exact hS.back3 hqn (by rw [upT_same]) (fun d hd => by rw [upT_ne _ _ hd])
  have d1 : decide ((i : Int) < (n2 : Int)) = false := decide_eq_false (by omega)
  have hx1 := hL.lk 0 rfl
  have r0 := fun o => rd_of hx1 o
  have p0 : (0 : Int) ≤ (P : Int) := by omega
  have p1 : (P : Int) ≤ 281474976710656 := by omega
  have p2 : (P : Int) ≤ 9223372036854775807 := by omega
  have ple : (P : Int) ≤ (P : Int) := Int.le_refl _
  simp only [e15, e13, e10, e12, e0, e1, e2, e7, e8, d1, hx1, r0, p0, p1, p2, ple, Int.one_mul, Int.mul_one, Int.toNat_natCast, ↓D0, ↓D1, ↓D2, ↓D3, ↓D4, ↓D5, ↓D6, ↓D7, ↓D8, ↓D9, U0, U1, U2, U3, U4, U5, U6, U7, U8, U9, U10, ↓reduceIte, Nat.reduceAdd, Nat.reduceMul, Nat.reduceSub, Nat.reduceEqDiff, Nat.reduceBEq, Nat.reduceLeDiff, Nat.reduceLT, Int.reduceAdd, Int.reduceMul, Int.reduceSub, Int.reduceLT, Int.reduceLE, Int.reduceToNat, Int.reduceEq, Int.reduceNe, Int.reduceBEq, Int.reduceBNe, ne_eq, eq_self]
  refine newB_intro fun sb hsb f7 f8 => ?_
  have hS := (hS.new f7 (.cells (brow P fun _ => false) 4 (0, 0))).r3
  have eb := brow_zero P
  simp only [eb, ↓D0, ↓D1, ↓D2, ↓D3, ↓D4, ↓D5, ↓D6, ↓D7, ↓D8, ↓D9, U0, U1, U2, U3, U4, U5, U6, U7, U8, U9, U10, ↓reduceIte, Nat.reduceAdd, Nat.reduceMul, Nat.reduceSub, Nat.reduceEqDiff, Nat.reduceBEq, Nat.reduceLeDiff, Nat.reduceLT, Int.reduceAdd, Int.reduceMul, Int.reduceSub, Int.reduceLT, Int.reduceLE, Int.reduceToNat, Int.reduceEq, Int.reduceNe, Int.reduceBEq, Int.reduceBNe, ne_eq, eq_self]
  have mid : ∀ {A : List Hp} {x1 x2 x3 z1 : Hp} {R : List Hp} {H9 : Hp}, Sep (x1 :: x2 :: x3 :: z1 :: (A ++ R)) H9 → Sep (x1 :: x2 :: x3 :: (A ++ z1 :: R)) H9 := fun h => h.perm (((List.perm_middle.symm.cons _).cons _).cons _)
  have unmid : ∀ {A : List Hp} {x1 x2 x3 z1 : Hp} {R : List Hp} {H9 : Hp}, Sep (x1 :: x2 :: x3 :: (A ++ z1 :: R)) H9 → Sep (z1 :: x1 :: x2 :: x3 :: (A ++ R)) H9 := fun h => (h.perm (((List.perm_middle.cons _).cons _).cons _)).p3
  have hS := mid hS
  have wm1 : w64 (2 * (P : Int)) = 2 * (P : Int) := w64_eq (by omega) (by omega)
  have wm2 : w64 (2 * (P : Int) + 2) = 2 * (P : Int) + 2 := w64_eq (by omega) (by omega)
  refine loop_intro (pmD B a cap g ks b s sb P n1 n2 cap0 cap1 cap2 a0 a1 a2 x (sg x (.cells #[.int .i64 (P : Int), .int .i64 (n1 : Int), .int .i64 0] 57 (0, 0)) :: h :: l)) (fun F' _ => (n1 - iv (gt F' 18)).toNat)
    ⟨0, ts, w, fun _ => false, by omega, by simp [gt], by simp [gt, cnt], by simp [gt], by simp [gt, e13], ⟨by simp [gt, e10], by simp [gt, e12], ⟨by simp [gt, e0], by simp [gt, e1], by simp [gt, e2], by simp [gt, e7], by simp [gt, e8]⟩⟩, hI, hBd, fun d hd => by omega, (fun j h => by cases h), hS⟩ ?_
  rintro F' H' ⟨c, ts, w, sv, c1, e18, e17, e16, e13, ⟨e10, e12, ⟨e0, e1, e2, e7, e8⟩⟩, hI, hBd, hdn, hsv, hS⟩
  by_cases hc : c < n1
  · have d1 : decide ((c : Int) < (n1 : Int)) = true := decide_eq_true (by omega)
    have d2 : (0 : Int) ≤ (c : Int) := by omega
    have d3 : (c : Int) < (n1 : Int) := by omega
    have wc : w64 ((c : Int) + 1) = ((c + 1 : Nat) : Int) := by rw [w64_eq (by omega) (by omega)]; omega
    obtain ⟨t1, t2, -⟩ := hI.wf c hc
    have hll := Pc.left_le t1 (by rw [t2]; show (0 : Int) ≤ P; omega)
    rw [t2] at hll
    have hll : (ts c).left ≤ 2 * (P : Int) := hll
    simp only [e18, e17, e16, e13, e10, e12, e0, e1, e2, e7, e8, d1, ↓D0, ↓D1, ↓D2, ↓D3, ↓D4, ↓D5, ↓D6, ↓D7, ↓D8, ↓D9, U0, U1, U2, U3, U4, U5, U6, U7, U8, U9, U10, ↓reduceIte, Nat.reduceAdd, Nat.reduceMul, Nat.reduceSub, Nat.reduceEqDiff, Nat.reduceBEq, Nat.reduceLeDiff, Nat.reduceLT, Int.reduceAdd, Int.reduceMul, Int.reduceSub, Int.reduceLT, Int.reduceLE, Int.reduceToNat, Int.reduceEq, Int.reduceNe, Int.reduceBEq, Int.reduceBNe, ne_eq, eq_self]
    refine loop_intro (pmE B a cap g ks b s sb c ts sv P n1 n2 cap0 cap1 cap2 a0 a1 a2 x (sg x (.cells #[.int .i64 (P : Int), .int .i64 (n1 : Int), .int .i64 0] 57 (0, 0)) :: h :: l)) (fun F' _ => (2 * (P : Int) + 2 - iv (gt F' 19)).toNat)
      ⟨0, ts, w, by omega, by omega, by simp [gt], by simp [gt, e18], by simp [gt, e17], by simp [gt, e16], by simp [gt, e13], ⟨by simp [gt, e10], by simp [gt, e12], ⟨by simp [gt, e0], by simp [gt, e1], by simp [gt, e2], by simp [gt, e7], by simp [gt, e8]⟩⟩, hI, hBd, fun _ _ => rfl, by omega, hS⟩ ?_
    rintro F' H' ⟨i, ts', w', i0, i1, e19, e18, e17, e16, e13, ⟨e10, e12, ⟨e0, e1, e2, e7, e8⟩⟩, hI', hBd', hsame, hlf, hS⟩
    have hL := hS.tail.tail.tail.drop
    have hx1 := hL.lk 1 rfl
    have r0 := fun o => rd_of hx1 o
    obtain ⟨t1, t2, -⟩ := hI'.wf c hc
    obtain ⟨zb, rfl, hrz⟩ := hG.rd hS (by simp) (i := c) hc
    by_cases hi : i < 2 * (P : Int) + 2
    · have d4 : decide (i < 2 * (P : Int) + 2) = true := decide_eq_true hi
      have wi : w64 (i + 1) = i + 1 := w64_eq (by omega) (by omega)
      have hl2 : ((ts' c).step w').1.left ≤ max 0 (2 * (P : Int) - i - 1) := by
        cases hd : (ts' c).dn
        · have := Pc.step_left (w := w') t1 hd; omega
        · rw [Pc.step_dn hd]
          have : (ts' c).left = 0 := by unfold Pc.left; rw [hd]; rfl
          show (ts' c).left ≤ _; omega
      simp only [e19, e18, e17, e16, e13, e10, e12, e0, e1, e2, e7, e8, d2, d3, d4, hx1, r0, hrz, wrap_w64, wm1, wm2, Nat.zero_add, Int.toNat_natCast, ↓D0, ↓D1, ↓D2, ↓D3, ↓D4, ↓D5, ↓D6, ↓D7, ↓D8, ↓D9, U0, U1, U2, U3, U4, U5, U6, U7, U8, U9, U10, ↓reduceIte, Nat.reduceAdd, Nat.reduceMul, Nat.reduceSub, Nat.reduceEqDiff, Nat.reduceBEq, Nat.reduceLeDiff, Nat.reduceLT, Int.reduceAdd, Int.reduceMul, Int.reduceSub, Int.reduceLT, Int.reduceLE, Int.reduceToNat, Int.reduceEq, Int.reduceNe, Int.reduceBEq, Int.reduceBNe, ne_eq, eq_self]
      refine callT_of (c_pcstep t1 (fun _ => by rw [t2]; exact hI'.of) (hS.pick3 hc)) ?_
      rintro v H' ⟨rfl, hS⟩
      simp only [e19, e18, e17, e16, e13, e10, e12, e0, e1, e2, e7, e8, wrap_w64, wi, ↓D0, ↓D1, ↓D2, ↓D3, ↓D4, ↓D5, ↓D6, ↓D7, ↓D8, ↓D9, U0, U1, U2, U3, U4, U5, U6, U7, U8, U9, U10, ↓reduceIte, Nat.reduceAdd, Nat.reduceMul, Nat.reduceSub, Nat.reduceEqDiff, Nat.reduceBEq, Nat.reduceLeDiff, Nat.reduceLT, Int.reduceAdd, Int.reduceMul, Int.reduceSub, Int.reduceLT, Int.reduceLE, Int.reduceToNat, Int.reduceEq, Int.reduceNe, Int.reduceBEq, Int.reduceBNe, ne_eq, eq_self]
      refine ⟨⟨i + 1, _, _, by omega, by omega, by simp [gt], by simp [gt, e18], by simp [gt, e17], by simp [gt, e16], by simp [gt, e13], ⟨by simp [gt, e10], by simp [gt, e12], ⟨by simp [gt, e0], by simp [gt, e1], by simp [gt, e2], by simp [gt, e7], by simp [gt, e8]⟩⟩, hI'.step hc, fun d => ?_, fun d hd => by rw [upT_ne _ _ hd]; exact hsame d hd, by rw [upT_same]; omega, hS.back3 hc (by rw [upT_same]) (fun d hd => by rw [upT_ne _ _ hd])⟩, by simp [gt, iv, e19]; omega⟩
      by_cases ec : d = c
      · rw [ec, upT_same]; exact (hBd' _).step t1
      · rw [upT_ne _ _ ec]; exact hBd' d
    have d4 : decide (i < 2 * (P : Int) + 2) = false := decide_eq_false hi
    have hd : (ts' c).dn = true := Pc.left_dn t1 (by have := Pc.left_nn t1; omega)
    have hdn' : ∀ d, d < c + 1 → (ts' d).dn = true := fun d hd' => by
      by_cases e : d = c
      · rw [e]; exact hd
      · rw [hsame d e]; exact hdn d (by omega)
    have hcnt : cnt (fun d => (ts d).fd) c = cnt (fun d => (ts' d).fd) c := cnt_congr fun d hd' => by rw [hsame d (by omega)]
    have hsv' : ∀ j : Nat, sv j = true → ∃ d, d < c ∧ (ts' d).fd = true ∧ (ts' d).pg = j := fun j hj => by
      obtain ⟨d, g1, g2, g3⟩ := hsv j hj
      rw [← hsame d (by omega)] at g2 g3
      exact ⟨d, g1, g2, g3⟩
    have hback : ∀ {H9 : Hp} {R : List Hp}, Sep (pcB (ks c) (ts' c) :: wB b s w' :: wR s w' :: g :: (famBut n1 c (fun c => pcB (ks c) (ts' c)) ++ R)) H9 → Sep (g :: wB b s w' :: wR s w' :: (fam n1 (fun c => pcB (ks c) (ts' c)) ++ R)) H9 := fun h => h.back3 hc rfl (fun _ _ => rfl)
    simp only [e19, e18, e17, e16, e13, e10, e12, e0, e1, e2, e7, e8, d2, d3, d4, hx1, r0, hrz, wrap_w64, wm1, wm2, Nat.zero_add, Int.toNat_natCast, ↓D0, ↓D1, ↓D2, ↓D3, ↓D4, ↓D5, ↓D6, ↓D7, ↓D8, ↓D9, U0, U1, U2, U3, U4, U5, U6, U7, U8, U9, U10, ↓reduceIte, Nat.reduceAdd, Nat.reduceMul, Nat.reduceSub, Nat.reduceEqDiff, Nat.reduceBEq, Nat.reduceLeDiff, Nat.reduceLT, Int.reduceAdd, Int.reduceMul, Int.reduceSub, Int.reduceLT, Int.reduceLE, Int.reduceToNat, Int.reduceEq, Int.reduceNe, Int.reduceBEq, Int.reduceBNe, ne_eq, eq_self]
    refine callT_of (c_pcfound (fun _ => (hBd' c).fd) (hS.pick3 hc)) ?_
    rintro v H' ⟨rfl, hS⟩
    have hS := hback hS
    obtain ⟨zb2, hz2, hrz⟩ := hG.rd hS (by simp) (i := c) hc
    cases hz2
    simp only [e19, e18, e17, e16, e13, e10, e12, e0, e1, e2, e7, e8, d2, d3, hrz, Nat.zero_add, Int.toNat_natCast, ↓D0, ↓D1, ↓D2, ↓D3, ↓D4, ↓D5, ↓D6, ↓D7, ↓D8, ↓D9, U0, U1, U2, U3, U4, U5, U6, U7, U8, U9, U10, ↓reduceIte, Nat.reduceAdd, Nat.reduceMul, Nat.reduceSub, Nat.reduceEqDiff, Nat.reduceBEq, Nat.reduceLeDiff, Nat.reduceLT, Int.reduceAdd, Int.reduceMul, Int.reduceSub, Int.reduceLT, Int.reduceLE, Int.reduceToNat, Int.reduceEq, Int.reduceNe, Int.reduceBEq, Int.reduceBNe, ne_eq, eq_self]
    refine callT_of (c_pcdone (hS.pick3 hc)) ?_
    rintro v H' ⟨rfl, hS⟩
    have hS := hback hS
    cases hok : (ts' c).fd
    · have hc2 : cnt (fun d => (ts' d).fd) (c + 1) = cnt (fun d => (ts d).fd) c := by show _ + (if (ts' c).fd = true then 1 else 0) = _; rw [hok, hcnt]; rfl
      simp only [e19, e18, e17, e16, e13, e10, e12, e0, e1, e2, e7, e8, hd, hok, wrap_w64, wc, ↓D0, ↓D1, ↓D2, ↓D3, ↓D4, ↓D5, ↓D6, ↓D7, ↓D8, ↓D9, U0, U1, U2, U3, U4, U5, U6, U7, U8, U9, U10, ↓reduceIte, Nat.reduceAdd, Nat.reduceMul, Nat.reduceSub, Nat.reduceEqDiff, Nat.reduceBEq, Nat.reduceLeDiff, Nat.reduceLT, Int.reduceAdd, Int.reduceMul, Int.reduceSub, Int.reduceLT, Int.reduceLE, Int.reduceToNat, Int.reduceEq, Int.reduceNe, Int.reduceBEq, Int.reduceBNe, ne_eq, eq_self]
      exact ⟨⟨c + 1, ts', w', sv, by omega, by simp [gt], by rw [hc2]; simp [gt, e17], by simp [gt, e16], by simp [gt, e13], ⟨by simp [gt, e10], by simp [gt, e12], ⟨by simp [gt, e0], by simp [gt, e1], by simp [gt, e2], by simp [gt, e7], by simp [gt, e8]⟩⟩, hI', hBd', hdn', fun j hj => by obtain ⟨d, g1, g2, g3⟩ := hsv' j hj; exact ⟨d, by omega, g2, g3⟩, hS⟩, by simp [gt, iv, e18]; omega⟩
    · have hc2 : cnt (fun d => (ts' d).fd) (c + 1) = cnt (fun d => (ts d).fd) c + 1 := by show _ + (if (ts' c).fd = true then 1 else 0) = _; rw [hok, hcnt]; rfl
      obtain ⟨o1, o2, o3, o4⟩ := hI'.own c hc hok
      obtain ⟨q, hq⟩ : ∃ q, (ts' c).pg = q := ⟨_, rfl⟩
      rw [hq] at o1 o2 o3 o4
      have o2 : q < (P : Int) := o2
      have o4 : w'.get ((n1 : Int) + q) = held c := o4
      have hBq : B q.toNat = false := by
        cases hb : B q.toNat
        · rfl
        · exact absurd hb o3
      have hsq : sv q.toNat = false := by
        cases hb : sv q.toNat
        · rfl
        · exfalso
          obtain ⟨d, g1, g2, g3⟩ := hsv' _ hb
          have := hI'.one (by omega : d < n1) hc g2 hok (by rw [g3, hq]; omega)
          omega
      have hL := hS.tail.tail.tail.drop
      have hb1 := hL.lk 0 rfl
      have hx1 := hL.lk 1 rfl
      have r1 := fun o n => rdn_of hx1 o n
      obtain ⟨fb, fo, rfl, hrd⟩ := (hr0.sub (hL.sb h (by simp))).at' (i := q.toNat) (by omega)
      rw [hBq] at hrd
      have hrs : rd H' sb q.toNat = some (.bool false) := by rw [rd_of hb1, brow_at (by omega), hsq]
      have hpa : page P n1 0 q = (n1 : Int) + q := page_yes hm o1 o2
      have lk0 : (0 : Int) ≤ (n1 : Int) + q := by omega
      have hwn : (w'.n : Int) = N := by rw [hI'.of.n]; exact hN
      have lk1 : (n1 : Int) + q < (w'.n : Int) := by omega
      have q4 : (w'.get ((n1 : Int) + q) != putPg 1 c 0) = false := by rw [o4]; simp [held]
      have wg : w64 ((cnt (fun d => (ts d).fd) c : Nat) + 1 : Int) = ((cnt (fun d => (ts' d).fd) (c + 1) : Nat) : Int) := by
        have := cnt_le (fun d => (ts d).fd) c
        rw [hc2, w64_eq (by omega) (by omega)]; omega
      simp only [e19, e18, e17, e16, e13, e10, e12, e0, e1, e2, e7, e8, hd, hok, hq, o1, o2, hrd, hrs, hx1, r1, u_page, hpa, Nat.zero_add, ↓D0, ↓D1, ↓D2, ↓D3, ↓D4, ↓D5, ↓D6, ↓D7, ↓D8, ↓D9, U0, U1, U2, U3, U4, U5, U6, U7, U8, U9, U10, ↓reduceIte, Nat.reduceAdd, Nat.reduceMul, Nat.reduceSub, Nat.reduceEqDiff, Nat.reduceBEq, Nat.reduceLeDiff, Nat.reduceLT, Int.reduceAdd, Int.reduceMul, Int.reduceSub, Int.reduceLT, Int.reduceLE, Int.reduceToNat, Int.reduceEq, Int.reduceNe, Int.reduceBEq, Int.reduceBNe, ne_eq, eq_self]
      refine callT_of (c_look ((n1 : Int) + q) lk0 lk1 hS.r2) ?_
      rintro v H' ⟨rfl, hS⟩
      have hS := hS.p2
      have hb1 := hS.tail.tail.tail.drop.lk 0 rfl
      have hS2 := (unmid hS).set (.cells (brow P fun j => if j = q.toNat then true else sv j) 4 (0, 0))
      have hS3 := mid hS2.r3
      simp only [e19, e18, e17, e16, e13, e10, e12, e0, e1, e2, e7, e8, hok, hq, o1, o2, q4, hb1, brow_size, brow_set, u_putpg, wrap_w64, wc, wg, Nat.zero_add, ↓D0, ↓D1, ↓D2, ↓D3, ↓D4, ↓D5, ↓D6, ↓D7, ↓D8, ↓D9, U0, U1, U2, U3, U4, U5, U6, U7, U8, U9, U10, ↓reduceIte, Nat.reduceAdd, Nat.reduceMul, Nat.reduceSub, Nat.reduceEqDiff, Nat.reduceBEq, Nat.reduceLeDiff, Nat.reduceLT, Int.reduceAdd, Int.reduceMul, Int.reduceSub, Int.reduceLT, Int.reduceLE, Int.reduceToNat, Int.reduceEq, Int.reduceNe, Int.reduceBEq, Int.reduceBNe, ne_eq, eq_self]
      exact ⟨by omega, ⟨c + 1, ts', w', _, by omega, by simp [gt], by simp [gt], by simp [gt, e16], by simp [gt, e13], ⟨by simp [gt, e10], by simp [gt, e12], ⟨by simp [gt, e0], by simp [gt, e1], by simp [gt, e2], by simp [gt, e7], by simp [gt, e8]⟩⟩, hI', hBd', hdn', fun j hj => by
        by_cases ej : j = q.toNat
        · exact ⟨c, by omega, hok, by rw [hq]; omega⟩
        · rw [if_neg ej] at hj
          obtain ⟨d, g1, g2, g3⟩ := hsv' j hj
          exact ⟨d, by omega, g2, g3⟩, hS3⟩, by simp [gt, iv, e18]; omega⟩
  have hcn : c = n1 := by omega
  have d1 : decide ((c : Int) < (n1 : Int)) = false := decide_eq_false (by omega)
  rw [hcn] at e17 hdn
  have hfin := hI.count (P := P) (B := B) rfl (fun q hq => by simp) hdn
  have heq : (((cnt (fun d => (ts d).fd) n1 : Nat) : Int) == if (n1 : Int) < ((cnt (fun q => !B q) P : Nat) : Int) then (n1 : Int) else ((cnt (fun q => !B q) P : Nat) : Int)) = true := by
    refine beq_iff_eq.2 ?_
    rw [hfin]
    split <;> omega
  simp only [e18, e17, e16, e13, e10, e12, e0, e1, e2, e7, e8, d1, heq, ↓D0, ↓D1, ↓D2, ↓D3, ↓D4, ↓D5, ↓D6, ↓D7, ↓D8, ↓D9, U0, U1, U2, U3, U4, U5, U6, U7, U8, U9, U10, ↓reduceIte, Nat.reduceAdd, Nat.reduceMul, Nat.reduceSub, Nat.reduceEqDiff, Nat.reduceBEq, Nat.reduceLeDiff, Nat.reduceLT, Int.reduceAdd, Int.reduceMul, Int.reduceSub, Int.reduceLT, Int.reduceLE, Int.reduceToNat, Int.reduceEq, Int.reduceNe, Int.reduceBEq, Int.reduceBNe, ne_eq, eq_self]
  exact hS.tail.tail.tail.drop.tail.tail
end

theorem l_pagemany {W : World} {P n1 n2 cap0 cap1 cap2 : Nat} {a0 a1 a2 : Option Addr} {B : Nat → Bool} {fs tt : Nat → Int} (hn0 : P ≤ 9223372036854775807) (hr0 : RowV (memOf W) a0 P (fun i => .bool (B i))) (hn1 : n1 ≤ 9223372036854775807) (hr1 : RowV (memOf W) a1 n1 (fun i => .int .u8 (fs i))) (hf : ∀ i, i < n1 → IntKind.u8.has (fs i)) (hn2 : n2 ≤ 9223372036854775807) (hr2 : RowV (memOf W) a2 n2 (fun i => .int .u8 (tt i))) (ht : ∀ i, i < n2 → IntKind.u8.has (tt i)) :
    CallP Try.prog W 9 #[.slice a0 P cap0, .slice a1 n1 cap1, .slice a2 n2 cap2] (memOf W) fun v H' => v = .bool true ∧ Sub (memOf W) H' :=
  (c_pagemany hr0 hr1 hr2 (fun i hi => u8_bd (hf i hi)) (fun i hi => u8_bd (ht i hi)) (Sep.one _)).mono fun v H' ⟨h1, h2⟩ => ⟨h1, h2.head⟩
end Go.Proofs.Ytfapipblclikbaa
