/-
  StripMany, walked: many strippers of one page that take turns. Conditions: none.
-/
import Derived.Test.YtfapipblclikbaaStripK
import Derived.Test.YtfapipblclikbaaGrow
import Derived.Test.YtfapipblclikbaaRowB
import Derived.Test.YtfapipblclikbaaFam
import Derived.Test.YtfapipblclikbaaMaMany2
import Derived.Test.YtfapipblclikbaaMaBd
set_option linter.unusedVariables false
set_option linter.unusedSimpArgs false
set_option maxRecDepth 8000
namespace Go.Proofs.Ytfapipblclikbaa
open Go Go.Ev Go.Pl Go.Ma

def soF (n : Nat) (K : Int) (i : Nat) : Nat → Int := fun j => if n + 1 ≤ j ∧ j - (n + 1) < i then opn K else if j = n then putPg 2 K 0 else 0
theorem soF_U (n : Nat) (K : Int) (i j : Nat) : U (soF n K i j) := by
  unfold soF; split
  · exact U_opn _
  · split; exact U_putPg ..; exact U_0
theorem soF_zero (n : Nat) (K : Int) : (fun j => if j = n then putPg 2 K 0 else 0) = soF n K 0 := by
  funext j; unfold soF
  rw [if_neg (show ¬ (n + 1 ≤ j ∧ j - (n + 1) < 0) by omega)]
theorem soF_next {n : Nat} {K : Int} {i : Nat} : (fun j => if j = n + 1 + i then opn K else soF n K i j) = soF n K (i + 1) := by
  funext j
  unfold soF
  by_cases e : j = n + 1 + i
  · subst e
    rw [if_pos rfl, if_pos (show n + 1 ≤ n + 1 + i ∧ n + 1 + i - (n + 1) < i + 1 from ⟨by omega, by omega⟩)]
  · rw [if_neg e]
    by_cases e2 : n + 1 ≤ j ∧ j - (n + 1) < i
    · rw [if_pos e2, if_pos (show n + 1 ≤ j ∧ j - (n + 1) < i + 1 from ⟨e2.1, by omega⟩)]
    · rw [if_neg e2, if_neg (show ¬ (n + 1 ≤ j ∧ j - (n + 1) < i + 1) by omega)]
theorem RowU_congr2 {h : Hp} {a : Option Addr} {n : Nat} {ws ws' : Nat → Int} (hr : RowU h a n ws) (he : ∀ i, i < n → ws i = ws' i) : RowU h a n ws' := by
  rcases hr with hr | ⟨b, o, e, hr⟩
  · exact .inl hr
  · exact .inr ⟨b, o, e, fun i hi => by rw [← he i hi]; exact hr i hi⟩
theorem cnt_one {p : Nat → Bool} {n : Nat} (h : ∀ i j, i < n → j < n → p i = true → p j = true → i = j) : cnt p n ≤ 1 :=
  cnt_inj (f := fun _ => 0) (m := 1) (q := fun _ => true) (fun _ _ _ => ⟨by decide, rfl⟩) (fun i j hi hj h1 h2 _ => h i j hi hj h1 h2)
section
variable {W : World} {H h : Hp} {l : List Hp} {n2 cap2 : Nat} {a2 : Option Addr} {tt : Nat → Int}

def gmG (K : Int) (n n2 cap2 N : Nat) (a2 : Option Addr) (x y : Nat) (F' : Fr) : Prop := gt F' 2 = .slice a2 n2 cap2 ∧ gt F' 7 = .int .i64 K ∧ gt F' 8 = .int .i64 (n : Int) ∧ gt F' 9 = .pointer (some ⟨x, 0, none⟩) ∧ gt F' 10 = .slice (some ⟨y, 0, none⟩) N N
def gmA (K : Int) (n n2 cap2 N : Nat) (a2 : Option Addr) (x y : Nat) (L : List Hp) (F' : Fr) (H' : Hp) : Prop :=
  ∃ i : Nat, (i : Int) ≤ slots K ∧ gt F' 11 = .int .i64 (i : Int) ∧ gmG K n n2 cap2 N a2 x y F' ∧ Sep (sg y (.cells (urow N (soF n K i)) 26 (0, 0)) :: L) H'
def gmN (b : Nat) (K : Int) (n n2 cap2 N : Nat) (a2 : Option Addr) (x y : Nat) (F' : Fr) : Prop := gt F' 12 = .pointer (some ⟨b, 0, none⟩) ∧ gmG K n n2 cap2 N a2 x y F'
def gmB (w0 : Wd) (b s : Nat) (K : Int) (n n2 cap2 N : Nat) (a2 : Option Addr) (x y : Nat) (L : List Hp) (F' : Fr) (H' : Hp) : Prop :=
  ∃ (i : Nat) (a : Option Addr) (cap : Nat) (g : Hp) (ks : Nat → Nat), i ≤ n ∧ gt F' 14 = .int .i64 (i : Int) ∧ gt F' 13 = .slice a i cap ∧ gmN b K n n2 cap2 N a2 x y F' ∧ Gr 90 a i cap (fun j => .pointer (some ⟨ks j, 0, none⟩)) g ∧
    Sep (g :: wB b s w0 :: wR s w0 :: (fam i (fun c => stB (ks c) (St.new ⟨1, n, 0⟩ c 0 K)) ++ L)) H'
def gmC (w0 : Wd) (a : Option Addr) (cap : Nat) (g : Hp) (ks : Nat → Nat) (b s : Nat) (K : Int) (n n2 cap2 N : Nat) (a2 : Option Addr) (x y : Nat) (L : List Hp) (F' : Fr) (H' : Hp) : Prop :=
  ∃ (i : Nat) (ts : Nat → St) (w : Wd), i ≤ n2 ∧ gt F' 15 = .int .i64 (i : Int) ∧ gt F' 13 = .slice a n cap ∧ gmN b K n n2 cap2 N a2 x y F' ∧ StInv n ⟨1, n, 0⟩ K w0 ts w ∧ (∀ c, c < n → (ts c).left ≤ max 0 34) ∧
    Sep (g :: wB b s w :: wR s w :: (fam n (fun c => stB (ks c) (ts c)) ++ L)) H'
def gmD (w0 : Wd) (a : Option Addr) (cap : Nat) (g : Hp) (ks : Nat → Nat) (b s : Nat) (K : Int) (n n2 cap2 N : Nat) (a2 : Option Addr) (x y : Nat) (L : List Hp) (F' : Fr) (H' : Hp) : Prop :=
  ∃ (c : Nat) (ts : Nat → St) (w : Wd), c ≤ n ∧ gt F' 17 = .int .i64 (c : Int) ∧ gt F' 16 = .int .i64 (cnt (fun d => (ts d).hd) c : Nat) ∧ gt F' 13 = .slice a n cap ∧ gmN b K n n2 cap2 N a2 x y F' ∧
    StInv n ⟨1, n, 0⟩ K w0 ts w ∧ (∀ c, c < n → (ts c).left ≤ max 0 34) ∧ (∀ d, d < c → (ts d).dn = true) ∧
    Sep (g :: wB b s w :: wR s w :: (fam n (fun c => stB (ks c) (ts c)) ++ L)) H'
def gmE (w0 : Wd) (a : Option Addr) (cap : Nat) (g : Hp) (ks : Nat → Nat) (b s : Nat) (c : Nat) (ts0 : Nat → St) (K : Int) (n n2 cap2 N : Nat) (a2 : Option Addr) (x y : Nat) (L : List Hp) (F' : Fr) (H' : Hp) : Prop :=
  ∃ (i : Int) (ts : Nat → St) (w : Wd), 0 ≤ i ∧ i ≤ 40 ∧ gt F' 18 = .int .i64 i ∧ gt F' 17 = .int .i64 (c : Int) ∧ gt F' 16 = .int .i64 (cnt (fun d => (ts0 d).hd) c : Nat) ∧ gt F' 13 = .slice a n cap ∧ gmN b K n n2 cap2 N a2 x y F' ∧
    StInv n ⟨1, n, 0⟩ K w0 ts w ∧ (∀ c, c < n → (ts c).left ≤ max 0 34) ∧ (∀ d, d ≠ c → ts d = ts0 d) ∧ (ts c).left ≤ max 0 (34 - i) ∧
    Sep (g :: wB b s w :: wR s w :: (fam n (fun c => stB (ks c) (ts c)) ++ L)) H'

theorem c_stripmany {g0 g1 : Int} (hg0 : 0 ≤ g0) (hg1 : g0 ≤ 255) (hk0 : 0 ≤ g1) (hk1 : g1 ≤ 255) (hr2 : RowV h a2 n2 (fun i => .int .u8 (tt i))) (ht : ∀ i, i < n2 → 0 ≤ tt i ∧ tt i ≤ 255) (hS : Sep (h :: l) H) :
    CallP Try.prog W 14 #[.int .u8 g0, .int .u8 g1, .slice a2 n2 cap2] H fun v H' => v = .bool true ∧ Sep (h :: l) H' := by
  refine CallP.of mixed Try.func14 tr14 (by show 3 ≤ _; decide) fun W _ => ?_
  simp only [↓D0, ↓D1, ↓D2, ↓D3, ↓D4, ↓D5, ↓D6, ↓D7, ↓D8, ↓D9, U0, U1, U2, U3, U4, U5, U6, U7, U8, U9, U10, ↓reduceIte, Nat.reduceAdd, Nat.reduceMul, Nat.reduceSub, Nat.reduceEqDiff, Nat.reduceBEq, Nat.reduceLeDiff, Nat.reduceLT, Int.reduceAdd, Int.reduceMul, Int.reduceSub, Int.reduceLT, Int.reduceLE, Int.reduceToNat, Int.reduceEq, Int.reduceNe, Int.reduceBEq, Int.reduceBNe, ne_eq, eq_self]
  refine callT_of (c_awake11 hS) ?_
  rintro v H' ⟨rfl, hS⟩
  have eg0 : w64 g0 = g0 := w64_eq (by omega) (by omega)
  have eg1 : w64 g1 = g1 := w64_eq (by omega) (by omega)
  have em0 : g0.tmod 4 = g0 % 4 := Int.tmod_eq_emod_of_nonneg hg0
  have em1 : g1.tmod 10 = g1 % 10 := Int.tmod_eq_emod_of_nonneg hk0
  have ww1 : w64 (g1 % 10) = g1 % 10 := w64_eq (by omega) (by omega)
  obtain ⟨K, hK⟩ : ∃ K, g0 % 4 = K := ⟨_, rfl⟩
  have k0 : 0 ≤ K := by omega
  have k3 : K ≤ 3 := by omega
  have ww0 : w64 K = K := w64_eq (by omega) (by omega)
  obtain ⟨n, hn⟩ : ∃ n : Nat, 1 + g1 % 10 = (n : Int) := ⟨(1 + g1 % 10).toNat, by omega⟩
  have ww2 : w64 (n : Int) = (n : Int) := w64_eq (by omega) (by omega)
  have nn0 : 1 ≤ n := by omega
  have nn1 : n ≤ 10 := by omega
  have sb0 := slots_bd K
  have sp := slots_pos k0 k3
  simp only [wrap_w64, eg0, eg1, em0, em1, hK, ww0, ww1, hn, ww2, ↓D0, ↓D1, ↓D2, ↓D3, ↓D4, ↓D5, ↓D6, ↓D7, ↓D8, ↓D9, U0, U1, U2, U3, U4, U5, U6, U7, U8, U9, U10, ↓reduceIte, Nat.reduceAdd, Nat.reduceMul, Nat.reduceSub, Nat.reduceEqDiff, Nat.reduceBEq, Nat.reduceLeDiff, Nat.reduceLT, Int.reduceAdd, Int.reduceMul, Int.reduceSub, Int.reduceLT, Int.reduceLE, Int.reduceToNat, Int.reduceEq, Int.reduceNe, Int.reduceBEq, Int.reduceBNe, ne_eq, eq_self]
  refine newB_intro fun x hx f3 f4 => ?_
  have hS := hS.new f3 (.cells #[.int .i64 0, .int .i64 0, .int .i64 0] 57 (0, 0))
  have hS := hS.set (.cells #[.int .i64 1, .int .i64 (n : Int), .int .i64 0] 57 (0, 0))
  rw [Ev.upd_upd] at hS
  have hx1 := hS.look
  have r1 := fun o n => rdn_of hx1 o n
  have hm : may 1 n 0 = true := (may_iff _ _ _).2 (by omega)
  obtain ⟨N, hN⟩ : ∃ N : Nat, words 1 n 0 = (N : Int) := ⟨(words 1 n 0).toNat, by have := words_le hm; omega⟩
  have hNb := words_le hm
  have hN2 : N ≤ 2000 := by omega
  have hNw : (N : Int) = n + 1 + 16 := by rw [← hN]; unfold words; rw [if_pos hm]; omega
  have n0 : (0 : Int) ≤ (N : Int) := by omega
  have n8 : 8 * (N : Int) ≤ 281474976710656 := by omega
  have n9 : (N : Int) ≤ 9223372036854775807 := by omega
  have nle : (N : Int) ≤ (N : Int) := Int.le_refl _
  simp only [Ev.upd_upd, hx1, r1, u_words, hN, n0, n8, n9, nle, Int.toNat_natCast, ↓D0, ↓D1, ↓D2, ↓D3, ↓D4, ↓D5, ↓D6, ↓D7, ↓D8, ↓D9, U0, U1, U2, U3, U4, U5, U6, U7, U8, U9, U10, ↓reduceIte, Nat.reduceAdd, Nat.reduceMul, Nat.reduceSub, Nat.reduceEqDiff, Nat.reduceBEq, Nat.reduceLeDiff, Nat.reduceLT, Int.reduceAdd, Int.reduceMul, Int.reduceSub, Int.reduceLT, Int.reduceLE, Int.reduceToNat, Int.reduceEq, Int.reduceNe, Int.reduceBEq, Int.reduceBNe, ne_eq, eq_self]
  refine newB_intro fun y hy f5 f6 => ?_
  have hS := hS.new f5 (.cells (urow N fun _ => 0) 26 (0, 0))
  have hS1 := hS.set (.cells (urow N (soF n K 0)) 26 (0, 0))
  rw [Ev.upd_upd] at hS1
  have hy1 := hS.look
  have q0 : (0 : Int) ≤ (n : Int) := by omega
  have q1 : (n : Int) < (N : Int) := by omega
  have q1' : n < N := by omega
  simp only [urow_zero, urow_size, urow_set, u_putpg, q0, q1, q1', Int.toNat_natCast, soF_zero n K, Ev.upd_upd, ↓D0, ↓D1, ↓D2, ↓D3, ↓D4, ↓D5, ↓D6, ↓D7, ↓D8, ↓D9, U0, U1, U2, U3, U4, U5, U6, U7, U8, U9, U10, ↓reduceIte, Nat.reduceAdd, Nat.reduceMul, Nat.reduceSub, Nat.reduceEqDiff, Nat.reduceBEq, Nat.reduceLeDiff, Nat.reduceLT, Int.reduceAdd, Int.reduceMul, Int.reduceSub, Int.reduceLT, Int.reduceLE, Int.reduceToNat, Int.reduceEq, Int.reduceNe, Int.reduceBEq, Int.reduceBNe, ne_eq, eq_self]
  refine loop_intro (gmA K n n2 cap2 N a2 x y (sg x (.cells #[.int .i64 1, .int .i64 (n : Int), .int .i64 0] 57 (0, 0)) :: h :: l)) (fun F' _ => (16 - iv (gt F' 11)).toNat)
    ⟨0, by omega, by simp [gt], ⟨rfl, rfl, rfl, rfl, rfl⟩, hS1⟩ ?_
  rintro F' H' ⟨i, i1, e11, ⟨e2, e7, e8, e9, e10⟩, hS⟩
  by_cases hi : (i : Int) < slots K
  · have d1 : decide ((i : Int) < slots K) = true := decide_eq_true hi
    have wi : w64 ((i : Int) + 1) = ((i + 1 : Nat) : Int) := by rw [w64_eq (by omega) (by omega)]; omega
    have wn1 : w64 ((n : Int) + 1) = (n : Int) + 1 := w64_eq (by omega) (by omega)
    have wn2 : w64 ((n : Int) + 1 + (i : Int)) = (n : Int) + 1 + (i : Int) := w64_eq (by omega) (by omega)
    have p0 : (0 : Int) ≤ (n : Int) + 1 + (i : Int) := by omega
    have p1 : (n : Int) + 1 + (i : Int) < (N : Int) := by omega
    have p2 : ((n : Int) + 1 + (i : Int)).toNat = n + 1 + i := by omega
    have p3 : n + 1 + i < N := by omega
    simp only [e11, e2, e7, e8, e9, e10, u_slots, d1, wrap_w64, wn1, wn2, ↓D0, ↓D1, ↓D2, ↓D3, ↓D4, ↓D5, ↓D6, ↓D7, ↓D8, ↓D9, U0, U1, U2, U3, U4, U5, U6, U7, U8, U9, U10, ↓reduceIte, Nat.reduceAdd, Nat.reduceMul, Nat.reduceSub, Nat.reduceEqDiff, Nat.reduceBEq, Nat.reduceLeDiff, Nat.reduceLT, Int.reduceAdd, Int.reduceMul, Int.reduceSub, Int.reduceLT, Int.reduceLE, Int.reduceToNat, Int.reduceEq, Int.reduceNe, Int.reduceBEq, Int.reduceBNe, ne_eq, eq_self]
    refine callT_of (c_open K hS) ?_
    rintro v H' ⟨rfl, hS⟩
    have hy0 := hS.look
    have hS3 := hS.set (.cells (urow N (soF n K (i + 1))) 26 (0, 0))
    simp only [e11, e2, e7, e8, e9, e10, hy0, wrap_w64, p0, p1, p2, p3, urow_size, urow_set, soF_next, wi, Int.toNat_natCast, ↓D0, ↓D1, ↓D2, ↓D3, ↓D4, ↓D5, ↓D6, ↓D7, ↓D8, ↓D9, U0, U1, U2, U3, U4, U5, U6, U7, U8, U9, U10, ↓reduceIte, Nat.reduceAdd, Nat.reduceMul, Nat.reduceSub, Nat.reduceEqDiff, Nat.reduceBEq, Nat.reduceLeDiff, Nat.reduceLT, Int.reduceAdd, Int.reduceMul, Int.reduceSub, Int.reduceLT, Int.reduceLE, Int.reduceToNat, Int.reduceEq, Int.reduceNe, Int.reduceBEq, Int.reduceBNe, ne_eq, eq_self]
    exact ⟨⟨i + 1, by omega, by simp [gt], ⟨by simp [gt, e2], by simp [gt, e7], by simp [gt, e8], by simp [gt, e9], by simp [gt, e10]⟩, hS3⟩, by simp [gt, iv, e11]; omega⟩
  have d1 : decide ((i : Int) < slots K) = false := decide_eq_false hi
  have hiS : i = (slots K).toNat := by omega
  rw [hiS] at hS
  simp only [e11, e2, e7, e8, e9, e10, u_slots, d1, ↓D0, ↓D1, ↓D2, ↓D3, ↓D4, ↓D5, ↓D6, ↓D7, ↓D8, ↓D9, U0, U1, U2, U3, U4, U5, U6, U7, U8, U9, U10, ↓reduceIte, Nat.reduceAdd, Nat.reduceMul, Nat.reduceSub, Nat.reduceEqDiff, Nat.reduceBEq, Nat.reduceLeDiff, Nat.reduceLT, Int.reduceAdd, Int.reduceMul, Int.reduceSub, Int.reduceLT, Int.reduceLE, Int.reduceToNat, Int.reduceEq, Int.reduceNe, Int.reduceBEq, Int.reduceBNe, ne_eq, eq_self]
  refine callT_of (c_fill (n := N) hN2 (RowU.own y N _ _ _) hS) ?_
  rintro v H' ⟨b, s, rfl, hS⟩
  obtain ⟨w0, hw0⟩ : ∃ w0, w0 = rowW N (soF n K (slots K).toNat) := ⟨_, rfl⟩
  rw [← hw0] at hS
  have hof0 : w0.of ⟨1, n, 0⟩ := by rw [hw0]; exact rowW_of hN.symm fun i _ => soF_U n K _ i
  by_cases hbig : 1500 < n2
  · have g2 : decide (1500 < (n2 : Int)) = true := decide_eq_true (by omega)
    simp only [e11, e2, e7, e8, e9, e10, g2, ↓D0, ↓D1, ↓D2, ↓D3, ↓D4, ↓D5, ↓D6, ↓D7, ↓D8, ↓D9, U0, U1, U2, U3, U4, U5, U6, U7, U8, U9, U10, ↓reduceIte, Nat.reduceAdd, Nat.reduceMul, Nat.reduceSub, Nat.reduceEqDiff, Nat.reduceBEq, Nat.reduceLeDiff, Nat.reduceLT, Int.reduceAdd, Int.reduceMul, Int.reduceSub, Int.reduceLT, Int.reduceLE, Int.reduceToNat, Int.reduceEq, Int.reduceNe, Int.reduceBEq, Int.reduceBNe, ne_eq, eq_self]
    exact hS.tail.tail.tail.tail
  have g2 : decide (1500 < (n2 : Int)) = false := decide_eq_false (by omega)
  simp only [e11, e2, e7, e8, e9, e10, g2, ↓D0, ↓D1, ↓D2, ↓D3, ↓D4, ↓D5, ↓D6, ↓D7, ↓D8, ↓D9, U0, U1, U2, U3, U4, U5, U6, U7, U8, U9, U10, ↓reduceIte, Nat.reduceAdd, Nat.reduceMul, Nat.reduceSub, Nat.reduceEqDiff, Nat.reduceBEq, Nat.reduceLeDiff, Nat.reduceLT, Int.reduceAdd, Int.reduceMul, Int.reduceSub, Int.reduceLT, Int.reduceLE, Int.reduceToNat, Int.reduceEq, Int.reduceNe, Int.reduceBEq, Int.reduceBNe, ne_eq, eq_self]
  refine loop_intro (gmB w0 b s K n n2 cap2 N a2 x y (sg y (.cells (urow N (soF n K (slots K).toNat)) 26 (0, 0)) :: sg x (.cells #[.int .i64 1, .int .i64 (n : Int), .int .i64 0] 57 (0, 0)) :: h :: l)) (fun F' _ => (n - iv (gt F' 14)).toNat)
    ⟨0, none, 0, _, fun _ => 0, by omega, by simp [gt], by simp [gt], ⟨by simp [gt], ⟨by simp [gt, e2], by simp [gt, e7], by simp [gt, e8], by simp [gt, e9], by simp [gt, e10]⟩⟩, Gr.none _ _, hS.nothing⟩ ?_
  rintro F' H' ⟨i, a, cap, g, ks, i1, e14, e13, ⟨e12, ⟨e2, e7, e8, e9, e10⟩⟩, hG, hS⟩
  have hL := hS.tail.tail.tail.drop
  have hx1 := hL.lk 1 rfl
  have r1 := fun o n => rdn_of hx1 o n
  by_cases hi : i < n
  · have d1 : decide ((i : Int) < (n : Int)) = true := decide_eq_true (by omega)
    have wi : w64 ((i : Int) + 1) = ((i + 1 : Nat) : Int) := by rw [w64_eq (by omega) (by omega)]; omega
    simp only [e14, e13, e12, e2, e7, e8, e9, e10, d1, hx1, r1, ↓D0, ↓D1, ↓D2, ↓D3, ↓D4, ↓D5, ↓D6, ↓D7, ↓D8, ↓D9, U0, U1, U2, U3, U4, U5, U6, U7, U8, U9, U10, ↓reduceIte, Nat.reduceAdd, Nat.reduceMul, Nat.reduceSub, Nat.reduceEqDiff, Nat.reduceBEq, Nat.reduceLeDiff, Nat.reduceLT, Int.reduceAdd, Int.reduceMul, Int.reduceSub, Int.reduceLT, Int.reduceLE, Int.reduceToNat, Int.reduceEq, Int.reduceNe, Int.reduceBEq, Int.reduceBNe, ne_eq, eq_self]
    refine callT_of (c_stnew (sh := ⟨1, n, 0⟩) hS) ?_
    rintro v H' ⟨k, rfl, hS⟩
    simp only [e14, e13, e12, e2, e7, e8, e9, e10, ↓D0, ↓D1, ↓D2, ↓D3, ↓D4, ↓D5, ↓D6, ↓D7, ↓D8, ↓D9, U0, U1, U2, U3, U4, U5, U6, U7, U8, U9, U10, ↓reduceIte, Nat.reduceAdd, Nat.reduceMul, Nat.reduceSub, Nat.reduceEqDiff, Nat.reduceBEq, Nat.reduceLeDiff, Nat.reduceLT, Int.reduceAdd, Int.reduceMul, Int.reduceSub, Int.reduceLT, Int.reduceLE, Int.reduceToNat, Int.reduceEq, Int.reduceNe, Int.reduceBEq, Int.reduceBNe, ne_eq, eq_self]
    refine newB_intro fun y2 hy2 f5 f6 => ?_
    have hS2 := hS.new f5 (.cells #[.pointer (some ⟨k, 0, none⟩)] 90 (0, 0))
    have ha : rds (upd H' y2 (.cells #[.pointer (some ⟨k, 0, none⟩)] 90 (0, 0))) (some ⟨y2, 0, none⟩) 1 = some #[.pointer (some ⟨k, 0, none⟩)] := by
      simp only [rds, ↓D0, ↓D1, ↓D2, ↓D3, ↓D4, ↓D5, ↓D6, ↓D7, ↓D8, ↓D9, U0, U1, U2, U3, U4, U5, U6, U7, U8, U9, U10, ↓reduceIte, Nat.reduceAdd, Nat.reduceMul, Nat.reduceSub, Nat.reduceEqDiff, Nat.reduceBEq, Nat.reduceLeDiff, Nat.reduceLT, Int.reduceAdd, Int.reduceMul, Int.reduceSub, Int.reduceLT, Int.reduceLE, Int.reduceToNat, Int.reduceEq, Int.reduceNe, Int.reduceBEq, Int.reduceBNe, ne_eq, eq_self]
    simp only [ha, e13, ↓D0, ↓D1, ↓D2, ↓D3, ↓D4, ↓D5, ↓D6, ↓D7, ↓D8, ↓D9, U0, U1, U2, U3, U4, U5, U6, U7, U8, U9, U10, ↓reduceIte, Nat.reduceAdd, Nat.reduceMul, Nat.reduceSub, Nat.reduceEqDiff, Nat.reduceBEq, Nat.reduceLeDiff, Nat.reduceLT, Int.reduceAdd, Int.reduceMul, Int.reduceSub, Int.reduceLT, Int.reduceLE, Int.reduceToNat, Int.reduceEq, Int.reduceNe, Int.reduceBEq, Int.reduceBNe, ne_eq, eq_self]
    refine grow (z0 := .pointer none) (bytes := 8) (v := .pointer (some ⟨k, 0, none⟩)) hG rfl (by omega) (by decide) (hS2.p2) (fun g2 H2 hG2 hS3 => ?_) (fun old cap2 b2 hG2 hS3 => ?_)
    all_goals
      simp only [e14, e13, e12, e2, e7, e8, e9, e10, wrap_w64, wi, ↓D0, ↓D1, ↓D2, ↓D3, ↓D4, ↓D5, ↓D6, ↓D7, ↓D8, ↓D9, U0, U1, U2, U3, U4, U5, U6, U7, U8, U9, U10, ↓reduceIte, Nat.reduceAdd, Nat.reduceMul, Nat.reduceSub, Nat.reduceEqDiff, Nat.reduceBEq, Nat.reduceLeDiff, Nat.reduceLT, Int.reduceAdd, Int.reduceMul, Int.reduceSub, Int.reduceLT, Int.reduceLE, Int.reduceToNat, Int.reduceEq, Int.reduceNe, Int.reduceBEq, Int.reduceBNe, ne_eq, eq_self]
      have e : (fun j => Value.pointer (some ⟨if j = i then k else ks j, 0, none⟩)) = fun j => if j = i then Value.pointer (some ⟨k, 0, none⟩) else Value.pointer (some ⟨ks j, 0, none⟩) := by funext j; split <;> rfl
      rw [← e] at hG2
      exact ⟨⟨i + 1, _, _, _, fun j => if j = i then k else ks j, by omega, by simp [gt], by simp [gt], ⟨by simp [gt, e12], ⟨by simp [gt, e2], by simp [gt, e7], by simp [gt, e8], by simp [gt, e9], by simp [gt, e10]⟩⟩, hG2, Sep.more3 (hS3.p1.tail.p1) (by simp) (fun d hd => by simp [show d ≠ i by omega])⟩, by simp [gt, iv, e14]; omega⟩
  have d1 : decide ((i : Int) < (n : Int)) = false := decide_eq_false (by omega)
  have hin : i = n := by omega
  rw [hin] at e13 hG hS
  simp only [e14, e13, e12, e2, e7, e8, e9, e10, d1, ↓D0, ↓D1, ↓D2, ↓D3, ↓D4, ↓D5, ↓D6, ↓D7, ↓D8, ↓D9, U0, U1, U2, U3, U4, U5, U6, U7, U8, U9, U10, ↓reduceIte, Nat.reduceAdd, Nat.reduceMul, Nat.reduceSub, Nat.reduceEqDiff, Nat.reduceBEq, Nat.reduceLeDiff, Nat.reduceLT, Int.reduceAdd, Int.reduceMul, Int.reduceSub, Int.reduceLT, Int.reduceLE, Int.reduceToNat, Int.reduceEq, Int.reduceNe, Int.reduceBEq, Int.reduceBNe, ne_eq, eq_self]
  have hget : ∀ j : Int, 0 ≤ j → j < slots K → w0.get ((n : Int) + 1 + j) = opn K := fun j j0 j1 => by
    rw [hw0]
    show (if ((n : Int) + 1 + j).toNat < N then soF n K (slots K).toNat ((n : Int) + 1 + j).toNat else 0) = _
    rw [if_pos (by omega)]
    unfold soF
    rw [if_pos (show n + 1 ≤ ((n : Int) + 1 + j).toNat ∧ ((n : Int) + 1 + j).toNat - (n + 1) < (slots K).toNat from ⟨by omega, by omega⟩)]
  have hinit : StInv n ⟨1, n, 0⟩ K w0 (fun c => St.new ⟨1, n, 0⟩ c 0 K) w0 :=
    StInv.init hof0 hm rfl (by show (n : Int) ≤ n; omega) sp (fun j j0 j1 => hget j j0 j1)
  have n10 : ((n : Int) = 0) = False := eq_false (by omega)
  refine loop_intro (gmC w0 a cap g ks b s K n n2 cap2 N a2 x y (sg y (.cells (urow N (soF n K (slots K).toNat)) 26 (0, 0)) :: sg x (.cells #[.int .i64 1, .int .i64 (n : Int), .int .i64 0] 57 (0, 0)) :: h :: l)) (fun F' _ => (n2 - iv (gt F' 15)).toNat)
    ⟨0, _, _, by omega, by simp [gt], by simp [gt, e13], ⟨by simp [gt, e12], ⟨by simp [gt, e2], by simp [gt, e7], by simp [gt, e8], by simp [gt, e9], by simp [gt, e10]⟩⟩, hinit, fun c _ => by have := St.new_left ⟨1, n, 0⟩ c 0 K; omega, hS⟩ ?_
  rintro F' H' ⟨i, ts, w, i1, e15, e13, ⟨e12, ⟨e2, e7, e8, e9, e10⟩⟩, hI, hll, hS⟩
  have hL := hS.tail.tail.tail.drop
  by_cases hi : i < n2
  · have d1 : decide ((i : Int) < (n2 : Int)) = true := decide_eq_true (by omega)
    have d2 : (0 : Int) ≤ (i : Int) := by omega
    have d3 : (i : Int) < (n2 : Int) := by omega
    have wi : w64 ((i : Int) + 1) = ((i + 1 : Nat) : Int) := by rw [w64_eq (by omega) (by omega)]; omega
    obtain ⟨tb, to, rfl, hrd⟩ := (hr2.sub (hL.sb h (by simp))).at' hi
    have hti := ht i hi
    have ef : w64 (tt i) = tt i := w64_eq (by omega) (by omega)
    have et : (tt i).tmod n = tt i % n := Int.tmod_eq_emod_of_nonneg hti.1
    have mdi := mod_bd (a := tt i) (p := (n : Int)) (by omega)
    obtain ⟨q, hq⟩ : ∃ q, tt i % n = q := ⟨_, rfl⟩
    rw [hq] at mdi et
    obtain ⟨q0, q1⟩ := mdi
    have wq : w64 q = q := w64_eq (by omega) (by omega)
    have hqn : q.toNat < n := by omega
    obtain ⟨zb, rfl, hrz⟩ := hG.rd hS (by simp) (i := q.toNat) hqn
    obtain ⟨t1, t2, -⟩ := hI.wf q.toNat hqn
    simp only [e15, e13, e12, e2, e7, e8, e9, e10, d1, d2, d3, hrd, n10, wrap_w64, ef, et, wq, q0, q1, hrz, Nat.zero_add, Int.toNat_natCast, ↓D0, ↓D1, ↓D2, ↓D3, ↓D4, ↓D5, ↓D6, ↓D7, ↓D8, ↓D9, U0, U1, U2, U3, U4, U5, U6, U7, U8, U9, U10, ↓reduceIte, Nat.reduceAdd, Nat.reduceMul, Nat.reduceSub, Nat.reduceEqDiff, Nat.reduceBEq, Nat.reduceLeDiff, Nat.reduceLT, Int.reduceAdd, Int.reduceMul, Int.reduceSub, Int.reduceLT, Int.reduceLE, Int.reduceToNat, Int.reduceEq, Int.reduceNe, Int.reduceBEq, Int.reduceBNe, ne_eq, eq_self]
    refine callT_of (c_ststep t1 (fun _ => by rw [t2]; exact hI.of) (hS.pick3 hqn)) ?_
    rintro v H' ⟨rfl, hS⟩
    simp only [e15, e13, e12, e2, e7, e8, e9, e10, wrap_w64, wi, ↓D0, ↓D1, ↓D2, ↓D3, ↓D4, ↓D5, ↓D6, ↓D7, ↓D8, ↓D9, U0, U1, U2, U3, U4, U5, U6, U7, U8, U9, U10, ↓reduceIte, Nat.reduceAdd, Nat.reduceMul, Nat.reduceSub, Nat.reduceEqDiff, Nat.reduceBEq, Nat.reduceLeDiff, Nat.reduceLT, Int.reduceAdd, Int.reduceMul, Int.reduceSub, Int.reduceLT, Int.reduceLE, Int.reduceToNat, Int.reduceEq, Int.reduceNe, Int.reduceBEq, Int.reduceBNe, ne_eq, eq_self]
    refine ⟨⟨i + 1, _, _, by omega, by simp [gt], by simp [gt, e13], ⟨by simp [gt, e12], ⟨by simp [gt, e2], by simp [gt, e7], by simp [gt, e8], by simp [gt, e9], by simp [gt, e10]⟩⟩, hI.step hqn, fun c hc => ?_, ?_⟩, by simp [gt, iv, e15]; omega⟩
    · by_cases ec : c = q.toNat
      · rw [ec, upT_same]; have := St.left_step (w := w) t1 (hll _ hqn); omega
      · rw [upT_ne _ _ ec]; exact hll c hc
    · exact hS.back3 hqn (by rw [upT_same]) (fun d hd => by rw [upT_ne _ _ hd])
  have d1 : decide ((i : Int) < (n2 : Int)) = false := decide_eq_false (by omega)
  simp only [e15, e13, e12, e2, e7, e8, e9, e10, d1, ↓D0, ↓D1, ↓D2, ↓D3, ↓D4, ↓D5, ↓D6, ↓D7, ↓D8, ↓D9, U0, U1, U2, U3, U4, U5, U6, U7, U8, U9, U10, ↓reduceIte, Nat.reduceAdd, Nat.reduceMul, Nat.reduceSub, Nat.reduceEqDiff, Nat.reduceBEq, Nat.reduceLeDiff, Nat.reduceLT, Int.reduceAdd, Int.reduceMul, Int.reduceSub, Int.reduceLT, Int.reduceLE, Int.reduceToNat, Int.reduceEq, Int.reduceNe, Int.reduceBEq, Int.reduceBNe, ne_eq, eq_self]
  refine loop_intro (gmD w0 a cap g ks b s K n n2 cap2 N a2 x y (sg y (.cells (urow N (soF n K (slots K).toNat)) 26 (0, 0)) :: sg x (.cells #[.int .i64 1, .int .i64 (n : Int), .int .i64 0] 57 (0, 0)) :: h :: l)) (fun F' _ => (n - iv (gt F' 17)).toNat)
    ⟨0, ts, w, by omega, by simp [gt], by simp [gt, cnt], by simp [gt, e13], ⟨by simp [gt, e12], ⟨by simp [gt, e2], by simp [gt, e7], by simp [gt, e8], by simp [gt, e9], by simp [gt, e10]⟩⟩, hI, hll, fun d hd => by omega, hS⟩ ?_
  clear hI hll
  rintro F' H' ⟨c, ts, w, c1, e17, e16, e13, ⟨e12, ⟨e2, e7, e8, e9, e10⟩⟩, hI, hll, hdn, hS⟩
  by_cases hc : c < n
  · have d1 : decide ((c : Int) < (n : Int)) = true := decide_eq_true (by omega)
    have d2 : (0 : Int) ≤ (c : Int) := by omega
    have d3 : (c : Int) < (n : Int) := by omega
    have wc : w64 ((c : Int) + 1) = ((c + 1 : Nat) : Int) := by rw [w64_eq (by omega) (by omega)]; omega
    have hlc := hll c hc
    simp only [e17, e16, e13, e12, e2, e7, e8, e9, e10, d1, ↓D0, ↓D1, ↓D2, ↓D3, ↓D4, ↓D5, ↓D6, ↓D7, ↓D8, ↓D9, U0, U1, U2, U3, U4, U5, U6, U7, U8, U9, U10, ↓reduceIte, Nat.reduceAdd, Nat.reduceMul, Nat.reduceSub, Nat.reduceEqDiff, Nat.reduceBEq, Nat.reduceLeDiff, Nat.reduceLT, Int.reduceAdd, Int.reduceMul, Int.reduceSub, Int.reduceLT, Int.reduceLE, Int.reduceToNat, Int.reduceEq, Int.reduceNe, Int.reduceBEq, Int.reduceBNe, ne_eq, eq_self]
    refine loop_intro (gmE w0 a cap g ks b s c ts K n n2 cap2 N a2 x y (sg y (.cells (urow N (soF n K (slots K).toNat)) 26 (0, 0)) :: sg x (.cells #[.int .i64 1, .int .i64 (n : Int), .int .i64 0] 57 (0, 0)) :: h :: l)) (fun F' _ => (40 - iv (gt F' 18)).toNat)
      ⟨0, ts, w, by omega, by omega, by simp [gt], by simp [gt, e17], by simp [gt, e16], by simp [gt, e13], ⟨by simp [gt, e12], ⟨by simp [gt, e2], by simp [gt, e7], by simp [gt, e8], by simp [gt, e9], by simp [gt, e10]⟩⟩, hI, hll, fun _ _ => rfl, by omega, hS⟩ ?_
    rintro F' H' ⟨i, ts', w', i0, i1, e18, e17, e16, e13, ⟨e12, ⟨e2, e7, e8, e9, e10⟩⟩, hI', hll', hsame, hlf, hS⟩
    obtain ⟨t1, t2, -⟩ := hI'.wf c hc
    obtain ⟨zb, rfl, hrz⟩ := hG.rd hS (by simp) (i := c) hc
    by_cases hi : i < 40
    · have d4 : decide (i < 40) = true := decide_eq_true hi
      have wi : w64 (i + 1) = i + 1 := w64_eq (by omega) (by omega)
      have hl2 := St.left_step (w := w') t1 hlf
      simp only [e18, e17, e16, e13, e12, e2, e7, e8, e9, e10, d2, d3, d4, hrz, Nat.zero_add, Int.toNat_natCast, ↓D0, ↓D1, ↓D2, ↓D3, ↓D4, ↓D5, ↓D6, ↓D7, ↓D8, ↓D9, U0, U1, U2, U3, U4, U5, U6, U7, U8, U9, U10, ↓reduceIte, Nat.reduceAdd, Nat.reduceMul, Nat.reduceSub, Nat.reduceEqDiff, Nat.reduceBEq, Nat.reduceLeDiff, Nat.reduceLT, Int.reduceAdd, Int.reduceMul, Int.reduceSub, Int.reduceLT, Int.reduceLE, Int.reduceToNat, Int.reduceEq, Int.reduceNe, Int.reduceBEq, Int.reduceBNe, ne_eq, eq_self]
      refine callT_of (c_ststep t1 (fun _ => by rw [t2]; exact hI'.of) (hS.pick3 hc)) ?_
      rintro v H' ⟨rfl, hS⟩
      simp only [e18, e17, e16, e13, e12, e2, e7, e8, e9, e10, wrap_w64, wi, ↓D0, ↓D1, ↓D2, ↓D3, ↓D4, ↓D5, ↓D6, ↓D7, ↓D8, ↓D9, U0, U1, U2, U3, U4, U5, U6, U7, U8, U9, U10, ↓reduceIte, Nat.reduceAdd, Nat.reduceMul, Nat.reduceSub, Nat.reduceEqDiff, Nat.reduceBEq, Nat.reduceLeDiff, Nat.reduceLT, Int.reduceAdd, Int.reduceMul, Int.reduceSub, Int.reduceLT, Int.reduceLE, Int.reduceToNat, Int.reduceEq, Int.reduceNe, Int.reduceBEq, Int.reduceBNe, ne_eq, eq_self]
      refine ⟨⟨i + 1, _, _, by omega, by omega, by simp [gt], by simp [gt, e17], by simp [gt, e16], by simp [gt, e13], ⟨by simp [gt, e12], ⟨by simp [gt, e2], by simp [gt, e7], by simp [gt, e8], by simp [gt, e9], by simp [gt, e10]⟩⟩, hI'.step hc, fun d hdn => ?_, fun d hd => by rw [upT_ne _ _ hd]; exact hsame d hd, by rw [upT_same]; omega, hS.back3 hc (by rw [upT_same]) (fun d hd => by rw [upT_ne _ _ hd])⟩, by simp [gt, iv, e18]; omega⟩
      by_cases ec : d = c
      · rw [ec, upT_same]; omega
      · rw [upT_ne _ _ ec]; exact hll' d hdn
    have d4 : decide (i < 40) = false := decide_eq_false hi
    have hd : (ts' c).dn = true := St.left_dn t1 (by have := St.left_nn t1; omega)
    have hdn' : ∀ d, d < c + 1 → (ts' d).dn = true := fun d hd' => by
      by_cases e : d = c
      · rw [e]; exact hd
      · rw [hsame d e]; exact hdn d (by omega)
    have hcnt : cnt (fun d => (ts d).hd) c = cnt (fun d => (ts' d).hd) c := cnt_congr fun d hd' => by rw [hsame d (by omega)]
    have hback : ∀ {H9 : Hp} {R : List Hp}, Sep (stB (ks c) (ts' c) :: wB b s w' :: wR s w' :: g :: (famBut n c (fun c => stB (ks c) (ts' c)) ++ R)) H9 → Sep (g :: wB b s w' :: wR s w' :: (fam n (fun c => stB (ks c) (ts' c)) ++ R)) H9 := fun h => h.back3 hc rfl (fun _ _ => rfl)
    simp only [e18, e17, e16, e13, e12, e2, e7, e8, e9, e10, d2, d3, d4, hrz, Nat.zero_add, Int.toNat_natCast, ↓D0, ↓D1, ↓D2, ↓D3, ↓D4, ↓D5, ↓D6, ↓D7, ↓D8, ↓D9, U0, U1, U2, U3, U4, U5, U6, U7, U8, U9, U10, ↓reduceIte, Nat.reduceAdd, Nat.reduceMul, Nat.reduceSub, Nat.reduceEqDiff, Nat.reduceBEq, Nat.reduceLeDiff, Nat.reduceLT, Int.reduceAdd, Int.reduceMul, Int.reduceSub, Int.reduceLT, Int.reduceLE, Int.reduceToNat, Int.reduceEq, Int.reduceNe, Int.reduceBEq, Int.reduceBNe, ne_eq, eq_self]
    refine callT_of (c_stdone (hS.pick3 hc)) ?_
    rintro v H' ⟨rfl, hS⟩
    have hS := hback hS
    obtain ⟨zb2, hz2, hrz⟩ := hG.rd hS (by simp) (i := c) hc
    cases hz2
    simp only [e18, e17, e16, e13, e12, e2, e7, e8, e9, e10, hd, d2, d3, hrz, Nat.zero_add, Int.toNat_natCast, ↓D0, ↓D1, ↓D2, ↓D3, ↓D4, ↓D5, ↓D6, ↓D7, ↓D8, ↓D9, U0, U1, U2, U3, U4, U5, U6, U7, U8, U9, U10, ↓reduceIte, Nat.reduceAdd, Nat.reduceMul, Nat.reduceSub, Nat.reduceEqDiff, Nat.reduceBEq, Nat.reduceLeDiff, Nat.reduceLT, Int.reduceAdd, Int.reduceMul, Int.reduceSub, Int.reduceLT, Int.reduceLE, Int.reduceToNat, Int.reduceEq, Int.reduceNe, Int.reduceBEq, Int.reduceBNe, ne_eq, eq_self]
    refine callT_of (c_stheld (hS.pick3 hc)) ?_
    rintro v H' ⟨rfl, hS⟩
    have hS := hback hS
    cases hok : (ts' c).hd
    · have hc2 : cnt (fun d => (ts' d).hd) (c + 1) = cnt (fun d => (ts d).hd) c := by show _ + (if (ts' c).hd = true then 1 else 0) = _; rw [hok, hcnt]; rfl
      simp only [e18, e17, e16, e13, e12, e2, e7, e8, e9, e10, hok, wrap_w64, wc, ↓D0, ↓D1, ↓D2, ↓D3, ↓D4, ↓D5, ↓D6, ↓D7, ↓D8, ↓D9, U0, U1, U2, U3, U4, U5, U6, U7, U8, U9, U10, ↓reduceIte, Nat.reduceAdd, Nat.reduceMul, Nat.reduceSub, Nat.reduceEqDiff, Nat.reduceBEq, Nat.reduceLeDiff, Nat.reduceLT, Int.reduceAdd, Int.reduceMul, Int.reduceSub, Int.reduceLT, Int.reduceLE, Int.reduceToNat, Int.reduceEq, Int.reduceNe, Int.reduceBEq, Int.reduceBNe, ne_eq, eq_self]
      exact ⟨⟨c + 1, ts', w', by omega, by simp [gt], by rw [hc2]; simp [gt, e16], by simp [gt, e13], ⟨by simp [gt, e12], ⟨by simp [gt, e2], by simp [gt, e7], by simp [gt, e8], by simp [gt, e9], by simp [gt, e10]⟩⟩, hI', hll', hdn', hS⟩, by simp [gt, iv, e17]; omega⟩
    · have hc2 : cnt (fun d => (ts' d).hd) (c + 1) = cnt (fun d => (ts d).hd) c + 1 := by show _ + (if (ts' c).hd = true then 1 else 0) = _; rw [hok, hcnt]; rfl
      have wg : w64 ((cnt (fun d => (ts d).hd) c : Nat) + 1 : Int) = ((cnt (fun d => (ts' d).hd) (c + 1) : Nat) : Int) := by
        have := cnt_le (fun d => (ts d).hd) c
        rw [hc2, w64_eq (by omega) (by omega)]; omega
      simp only [e18, e17, e16, e13, e12, e2, e7, e8, e9, e10, hok, wrap_w64, wc, wg, ↓D0, ↓D1, ↓D2, ↓D3, ↓D4, ↓D5, ↓D6, ↓D7, ↓D8, ↓D9, U0, U1, U2, U3, U4, U5, U6, U7, U8, U9, U10, ↓reduceIte, Nat.reduceAdd, Nat.reduceMul, Nat.reduceSub, Nat.reduceEqDiff, Nat.reduceBEq, Nat.reduceLeDiff, Nat.reduceLT, Int.reduceAdd, Int.reduceMul, Int.reduceSub, Int.reduceLT, Int.reduceLE, Int.reduceToNat, Int.reduceEq, Int.reduceNe, Int.reduceBEq, Int.reduceBNe, ne_eq, eq_self]
      exact ⟨⟨c + 1, ts', w', by omega, by simp [gt], by simp [gt], by simp [gt, e13], ⟨by simp [gt, e12], ⟨by simp [gt, e2], by simp [gt, e7], by simp [gt, e8], by simp [gt, e9], by simp [gt, e10]⟩⟩, hI', hll', hdn', hS⟩, by simp [gt, iv, e17]; omega⟩
  have hcn : c = n := by omega
  have d1 : decide ((c : Int) < (n : Int)) = false := decide_eq_false (by omega)
  rw [hcn] at e16 hdn
  have h1 : cnt (fun d => (ts d).hd) n ≤ 1 := cnt_one fun i j hi hj h1 h2 => hI.once hi hj h1 h2
  rcases (by omega : cnt (fun d => (ts d).hd) n = 1 ∨ cnt (fun d => (ts d).hd) n = 0) with h2 | h2
  · rw [h2] at e16
    have e16 : gt F' 16 = .int .i64 1 := e16
    by_cases hn1 : 1 < n
    · have d5 : decide (1 < (n : Int)) = true := decide_eq_true (by omega)
      simp only [e17, e16, e13, e12, e2, e7, e8, e9, e10, d1, d5, ↓D0, ↓D1, ↓D2, ↓D3, ↓D4, ↓D5, ↓D6, ↓D7, ↓D8, ↓D9, U0, U1, U2, U3, U4, U5, U6, U7, U8, U9, U10, ↓reduceIte, Nat.reduceAdd, Nat.reduceMul, Nat.reduceSub, Nat.reduceEqDiff, Nat.reduceBEq, Nat.reduceLeDiff, Nat.reduceLT, Int.reduceAdd, Int.reduceMul, Int.reduceSub, Int.reduceLT, Int.reduceLE, Int.reduceToNat, Int.reduceEq, Int.reduceNe, Int.reduceBEq, Int.reduceBNe, ne_eq, eq_self]
      exact hS.tail.tail.tail.drop.tail.tail
    · have d5 : decide (1 < (n : Int)) = false := decide_eq_false (by omega)
      simp only [e17, e16, e13, e12, e2, e7, e8, e9, e10, d1, d5, ↓D0, ↓D1, ↓D2, ↓D3, ↓D4, ↓D5, ↓D6, ↓D7, ↓D8, ↓D9, U0, U1, U2, U3, U4, U5, U6, U7, U8, U9, U10, ↓reduceIte, Nat.reduceAdd, Nat.reduceMul, Nat.reduceSub, Nat.reduceEqDiff, Nat.reduceBEq, Nat.reduceLeDiff, Nat.reduceLT, Int.reduceAdd, Int.reduceMul, Int.reduceSub, Int.reduceLT, Int.reduceLE, Int.reduceToNat, Int.reduceEq, Int.reduceNe, Int.reduceBEq, Int.reduceBNe, ne_eq, eq_self]
      exact hS.tail.tail.tail.drop.tail.tail
  · rw [h2] at e16
    have e16 : gt F' 16 = .int .i64 0 := e16
    have hno : ∀ c, c < n → (ts c).hd = false := fun c hc => by
      cases hh : (ts c).hd
      · rfl
      · have := cnt_pos (p := fun d => (ts d).hd) hc hh; omega
    have hn1 : 1 < n := by
      rcases (by omega : 1 < n ∨ n = 1) with h | h
      · exact h
      · exfalso
        have := (hI.one h).2 (hdn 0 (by omega))
        rw [hno 0 (by omega)] at this; cases this
    have d5 : decide (1 < (n : Int)) = true := decide_eq_true (by omega)
    have hsm := hI.same hdn hno
    have hwn : w.n = N := by rw [hI.nn, hw0]; rfl
    have hws : ∀ j, j < N → w.ws j = soF n K (slots K).toNat j := fun j hj => by
      have := hsm (j : Int) (by omega)
      have this : w.ws j = w0.ws j := this
      rw [this, hw0]
      show (if j < N then _ else _) = _
      rw [if_pos hj]
    simp only [e17, e16, e13, e12, e2, e7, e8, e9, e10, d1, d5, ↓D0, ↓D1, ↓D2, ↓D3, ↓D4, ↓D5, ↓D6, ↓D7, ↓D8, ↓D9, U0, U1, U2, U3, U4, U5, U6, U7, U8, U9, U10, ↓reduceIte, Nat.reduceAdd, Nat.reduceMul, Nat.reduceSub, Nat.reduceEqDiff, Nat.reduceBEq, Nat.reduceLeDiff, Nat.reduceLT, Int.reduceAdd, Int.reduceMul, Int.reduceSub, Int.reduceLT, Int.reduceLE, Int.reduceToNat, Int.reduceEq, Int.reduceNe, Int.reduceBEq, Int.reduceBNe, ne_eq, eq_self]
    refine callT_of (c_all (by omega) hS.tail) ?_
    rintro v H' ⟨a3, cap3, h3, rfl, hr3, hS⟩
    rw [hwn] at hr3
    have hLy := hS.tail.tail.tail.drop
    simp only [e17, e16, e13, e12, e2, e7, e8, e9, e10, hwn, ↓D0, ↓D1, ↓D2, ↓D3, ↓D4, ↓D5, ↓D6, ↓D7, ↓D8, ↓D9, U0, U1, U2, U3, U4, U5, U6, U7, U8, U9, U10, ↓reduceIte, Nat.reduceAdd, Nat.reduceMul, Nat.reduceSub, Nat.reduceEqDiff, Nat.reduceBEq, Nat.reduceLeDiff, Nat.reduceLT, Int.reduceAdd, Int.reduceMul, Int.reduceSub, Int.reduceLT, Int.reduceLE, Int.reduceToNat, Int.reduceEq, Int.reduceNe, Int.reduceBEq, Int.reduceBNe, ne_eq, eq_self]
    refine callT_of (c_same (h := h3) (h' := sg y (.cells (urow N (soF n K (slots K).toNat)) 26 (0, 0))) (RowU_congr2 hr3 hws) (RowU.own y N _ _ _) hN2 hS (by simp) (by simp)) ?_
    rintro v H' ⟨rfl, hS⟩
    simp only [e17, e16, e13, e12, e2, e7, e8, e9, e10, d1, d5, ↓D0, ↓D1, ↓D2, ↓D3, ↓D4, ↓D5, ↓D6, ↓D7, ↓D8, ↓D9, U0, U1, U2, U3, U4, U5, U6, U7, U8, U9, U10, ↓reduceIte, Nat.reduceAdd, Nat.reduceMul, Nat.reduceSub, Nat.reduceEqDiff, Nat.reduceBEq, Nat.reduceLeDiff, Nat.reduceLT, Int.reduceAdd, Int.reduceMul, Int.reduceSub, Int.reduceLT, Int.reduceLE, Int.reduceToNat, Int.reduceEq, Int.reduceNe, Int.reduceBEq, Int.reduceBNe, ne_eq, eq_self]
    exact hS.tail.tail.tail.drop.tail.tail
end

theorem l_stripmany {W : World} {n2 cap2 : Nat} {a2 : Option Addr} {tt : Nat → Int} (g0 : Int) (hg : 0 ≤ g0 ∧ g0 ≤ 255) (g1 : Int) (hk : 0 ≤ g1 ∧ g1 ≤ 255) (hn2 : n2 ≤ 9223372036854775807) (hr2 : RowV (memOf W) a2 n2 (fun i => .int .u8 (tt i))) (ht : ∀ i, i < n2 → IntKind.u8.has (tt i)) :
    CallP Try.prog W 14 #[.int .u8 g0, .int .u8 g1, .slice a2 n2 cap2] (memOf W) fun v H' => v = .bool true ∧ Sub (memOf W) H' :=
  (c_stripmany hg.1 hg.2 hk.1 hk.2 hr2 (fun i hi => u8_bd (ht i hi)) (Sep.one _)).mono fun v H' ⟨h1, h2⟩ => ⟨h1, h2.head⟩
end Go.Proofs.Ytfapipblclikbaa
