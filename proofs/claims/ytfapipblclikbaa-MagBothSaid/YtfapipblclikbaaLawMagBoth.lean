/-
  MagBoth, walked: what was put is taken again. Conditions: none.
-/
import Derived.Test.YtfapipblclikbaaMagK
import Derived.Test.YtfapipblclikbaaRowB
import Derived.Test.YtfapipblclikbaaMaBoth
set_option linter.unusedVariables false
set_option linter.unusedSimpArgs false
set_option maxRecDepth 8000
namespace Go.Proofs.Ytfapipblclikbaa
open Go Go.Ev Go.Pl Go.Ma

theorem tk_left1 (s : Sh) (c k : Int) (h : 0 ≤ s.m) : (Tk.new s c k).left ≤ s.m + 1 := by
  unfold Tk.left
  split
  · omega
  · split
    · omega
    · show s.m - 0 + 1 ≤ _; omega
theorem pu_left1 (s : Sh) (c p i k : Int) (h : 0 ≤ s.m) : (Pu.new s c p i k).left ≤ s.m + 1 := by
  unfold Pu.left
  split
  · omega
  · split
    · omega
    · show s.m - 0 + 1 ≤ _; omega
theorem tk_step1 {t : Tk} {w : Wd} {m : Int} (h : t.wf) (hl : t.left ≤ max 0 m) : (t.step w).1.left ≤ max 0 (m - 1) := by
  cases hd : t.dn
  · have := Tk.step_left (w := w) h hd; omega
  · rw [Tk.step_dn hd]
    have : t.left = 0 := by unfold Tk.left; rw [hd]; rfl
    show t.left ≤ _; omega
theorem pu_step1 {t : Pu} {w : Wd} {m : Int} (h : t.wf) (hl : t.left ≤ max 0 m) : (t.step w).1.left ≤ max 0 (m - 1) := by
  cases hd : t.dn
  · have := Pu.step_left (w := w) h hd; omega
  · rw [Pu.step_dn hd]
    have : t.left = 0 := by unfold Pu.left; rw [hd]; rfl
    show t.left ≤ _; omega
/-- The magazine's words are as its model says. -/
structure MagIs (M : Nat) (mm : Nat → Int) (w : Wd) : Prop where
  of : w.of (sh4 M)
  m1 : ∀ j : Nat, j < M → w.get (mag 4 2 M 1 j) = encM (mm j)
  bd : ∀ j : Nat, j < M → 0 ≤ mm j ∧ mm j ≤ 32
  m0 : ∀ j : Nat, j < M → w.get (mag 4 2 M 0 j) = 0
theorem may4 {M : Nat} (h : M ≤ 8) : may 4 2 M = true := (may_iff _ _ _).2 (by omega)
theorem mag4 {M : Nat} (h : M ≤ 8) {c j : Int} (c0 : 0 ≤ c) (c1 : c < 2) (j0 : 0 ≤ j) (j1 : j < M) : mag 4 2 M c j = 70 + c * M + j := by
  rw [mag_yes (may4 h) c0 c1 j0 j1]; omega
theorem MagIs.put {M : Nat} {mm : Nat → Int} {w w' : Wd} (hM : M ≤ 8) (h : MagIs M mm w) {f : Nat} {v : Int} (hf : f < M) (hv : 0 ≤ v ∧ v ≤ 32) (hof : w'.of (sh4 M)) (hg : ∀ a, 0 ≤ a → w'.get a = if a = mag 4 2 M 1 f then encM v else w.get a) : MagIs M (fun j => if j = f then v else mm j) w' := by
  have e : ∀ j : Nat, j < M → mag 4 2 M 1 j = 70 + M + j := fun j hj => by rw [mag4 hM (by decide) (by decide) (by omega) (by omega)]; omega
  have e0 : ∀ j : Nat, j < M → mag 4 2 M 0 j = 70 + j := fun j hj => by rw [mag4 hM (by decide) (by decide) (by omega) (by omega)]; omega
  refine ⟨hof, fun j hj => ?_, fun j hj => ?_, fun j hj => ?_⟩
  · rw [hg _ (by rw [e j hj]; omega), e j hj, e f hf]
    show _ = encM (if j = f then v else mm j)
    by_cases ej : j = f
    · rw [if_pos (by omega), if_pos ej]
    · rw [if_neg (by omega), if_neg ej, ← e j hj]; exact h.m1 j hj
  · show 0 ≤ (if j = f then v else mm j) ∧ (if j = f then v else mm j) ≤ 32
    split
    · exact hv
    · exact h.bd j hj
  · rw [hg _ (by rw [e0 j hj]; omega), if_neg (by rw [e0 j hj, e f hf]; omega)]; exact h.m0 j hj
theorem MagIs.same {M : Nat} {mm : Nat → Int} {w w' : Wd} (hM : M ≤ 8) (h : MagIs M mm w) (hof : w'.of (sh4 M)) (hg : ∀ a, 0 ≤ a → w'.get a = w.get a) : MagIs M mm w' := by
  have e : ∀ c : Int, 0 ≤ c → c < 2 → ∀ j : Nat, j < M → 0 ≤ mag 4 2 M c j := fun c c0 c1 j hj => by
    rw [mag4 hM c0 c1 (by omega) (by omega)]
    rcases (by omega : c = 0 ∨ c = 1) with e | e <;> rw [e] <;> omega
  exact ⟨hof, fun j hj => by rw [hg _ (e 1 (by decide) (by decide) j hj)]; exact h.m1 j hj, h.bd, fun j hj => by rw [hg _ (e 0 (by decide) (by decide) j hj)]; exact h.m0 j hj⟩
theorem Fst.congr {P Q : Int → Prop} {n want : Int} (h : Fst P n 0 want) (e : ∀ j, 0 ≤ j → j < n → (P j ↔ Q j)) : Fst Q n 0 want := by
  rcases h with ⟨h1, h2⟩ | ⟨h1, h2, h3, h4⟩
  · exact .inl ⟨h1, fun j a b => fun hq => h2 j a b ((e j a b).2 hq)⟩
  · exact .inr ⟨h1, h2, (e want h1 h2).1 h3, fun j a b => fun hq => h4 j a b ((e j a (by omega)).2 hq)⟩
theorem encM_put {p i k : Int} (p0 : 0 ≤ p) (p1 : p ≤ 3) (i0 : 0 ≤ i) (i1 : i ≤ 1) (k0 : 0 ≤ k) (k1 : k ≤ 3) : encM (1 + (p * 2 + i) * 4 + k) = putEn p i k ∧ 0 ≤ 1 + (p * 2 + i) * 4 + k ∧ 1 + (p * 2 + i) * 4 + k ≤ 32 := by
  refine ⟨?_, by omega, by omega⟩
  unfold encM
  rw [if_neg (by omega), show (1 + (p * 2 + i) * 4 + k - 1) / 8 = p by omega, show (1 + (p * 2 + i) * 4 + k - 1) / 4 % 2 = i by omega, show (1 + (p * 2 + i) * 4 + k - 1) % 4 = k by omega]
section
variable {W : World} {H h : Hp} {l : List Hp} {M n1 n3 cap1 cap3 : Nat} {a1 a3 : Option Addr} {ls vs : Nat → Int}

def mbG (M n1 n3 cap1 cap3 : Nat) (a1 a3 : Option Addr) (x b mb : Nat) (F' : Fr) : Prop := gt F' 0 = .int .i64 (M : Int) ∧ gt F' 1 = .slice a1 n1 cap1 ∧ gt F' 2 = .slice a3 n3 cap3 ∧ gt F' 7 = .pointer (some ⟨x, 0, none⟩) ∧ gt F' 8 = .pointer (some ⟨b, 0, none⟩) ∧ gt F' 9 = .slice (some ⟨mb, 0, none⟩) M M
def mbA (M n1 n3 cap1 cap3 : Nat) (a1 a3 : Option Addr) (x b mb : Nat) (s : Nat) (L : List Hp) (F' : Fr) (H' : Hp) : Prop :=
  ∃ (i : Nat) (mm : Nat → Int) (w : Wd), i ≤ n1 ∧ gt F' 10 = .int .i64 (i : Int) ∧ mbG M n1 n3 cap1 cap3 a1 a3 x b mb F' ∧ MagIs M mm w ∧ Sep (wB b s w :: wR s w :: sg mb (.cells (irow M mm) 3 (0, 0)) :: L) H'
def mbP (i : Nat) (xv : Int) (w0 : Wd) (kp : Nat) (M n1 n3 cap1 cap3 : Nat) (a1 a3 : Option Addr) (x b mb : Nat) (s : Nat) (L : List Hp) (F' : Fr) (H' : Hp) : Prop :=
  ∃ (j : Int) (t : Pu) (w : Wd), 0 ≤ j ∧ j ≤ (M : Int) + 1 ∧ gt F' 12 = .int .i64 j ∧ gt F' 10 = .int .i64 (i : Int) ∧ gt F' 11 = .pointer (some ⟨kp, 0, none⟩) ∧ mbG M n1 n3 cap1 cap3 a1 a3 x b mb F' ∧ Pu.Al (sh4 M) 1 xv w0 t w ∧ w.of (sh4 M) ∧ t.left ≤ max 0 ((M : Int) + 1 - j) ∧ Sep (puB kp t :: wB b s w :: wR s w :: L) H'
def mbF (i : Nat) (mm : Nat → Int) (kp : Nat) (M n1 n3 cap1 cap3 : Nat) (a1 a3 : Option Addr) (x b mb : Nat) (L : List Hp) (F' : Fr) (H' : Hp) : Prop :=
  ∃ (j free : Int), -1 ≤ j ∧ j < M ∧ -1 ≤ free ∧ free < M ∧ gt F' 14 = .int .i64 j ∧ gt F' 13 = .int .i64 free ∧ gt F' 10 = .int .i64 (i : Int) ∧ gt F' 11 = .pointer (some ⟨kp, 0, none⟩) ∧ mbG M n1 n3 cap1 cap3 a1 a3 x b mb F' ∧ Fst (fun j => mm j.toNat = 0) M (j + 1) free ∧ Sep L H'
def mbB (M n1 n3 cap1 cap3 : Nat) (a1 a3 : Option Addr) (x b mb : Nat) (s : Nat) (L : List Hp) (F' : Fr) (H' : Hp) : Prop :=
  ∃ (i : Nat) (mm : Nat → Int) (w : Wd), i ≤ n3 ∧ gt F' 15 = .int .i64 (i : Int) ∧ mbG M n1 n3 cap1 cap3 a1 a3 x b mb F' ∧ MagIs M mm w ∧ Sep (wB b s w :: wR s w :: sg mb (.cells (irow M mm) 3 (0, 0)) :: L) H'
def mbT (i : Nat) (k : Int) (w0 : Wd) (kp : Nat) (M n1 n3 cap1 cap3 : Nat) (a1 a3 : Option Addr) (x b mb : Nat) (s : Nat) (L : List Hp) (F' : Fr) (H' : Hp) : Prop :=
  ∃ (j : Int) (t : Tk) (w : Wd), 0 ≤ j ∧ j ≤ (M : Int) + 1 ∧ gt F' 17 = .int .i64 j ∧ gt F' 15 = .int .i64 (i : Int) ∧ gt F' 16 = .pointer (some ⟨kp, 0, none⟩) ∧ mbG M n1 n3 cap1 cap3 a1 a3 x b mb F' ∧ Tk.Al (sh4 M) 1 k w0 t w ∧ w.of (sh4 M) ∧ t.left ≤ max 0 ((M : Int) + 1 - j) ∧ Sep (tkB kp t :: wB b s w :: wR s w :: L) H'
def mbW (i : Nat) (k : Int) (mm : Nat → Int) (kp : Nat) (M n1 n3 cap1 cap3 : Nat) (a1 a3 : Option Addr) (x b mb : Nat) (L : List Hp) (F' : Fr) (H' : Hp) : Prop :=
  ∃ (j at' : Int), -1 ≤ j ∧ j < M ∧ -1 ≤ at' ∧ at' < M ∧ gt F' 19 = .int .i64 j ∧ gt F' 18 = .int .i64 at' ∧ gt F' 15 = .int .i64 (i : Int) ∧ gt F' 16 = .pointer (some ⟨kp, 0, none⟩) ∧ mbG M n1 n3 cap1 cap3 a1 a3 x b mb F' ∧ Fst (fun j => 0 < mm j.toNat ∧ (mm j.toNat - 1) % 4 = k) M (j + 1) at' ∧ Sep L H'
def mbZ (M n1 n3 cap1 cap3 : Nat) (a1 a3 : Option Addr) (x b mb : Nat) (L : List Hp) (F' : Fr) (H' : Hp) : Prop :=
  ∃ i : Nat, i ≤ M ∧ gt F' 23 = .int .i64 (i : Int) ∧ mbG M n1 n3 cap1 cap3 a1 a3 x b mb F' ∧ Sep L H'

theorem c_both (hM : M ≤ 8) (hr1 : RowV h a1 n1 (fun i => .int .u8 (ls i))) (hr3 : RowV h a3 n3 (fun i => .int .u8 (vs i))) (hl : ∀ i, i < n1 → 0 ≤ ls i ∧ ls i ≤ 255) (hv : ∀ i, i < n3 → 0 ≤ vs i ∧ vs i ≤ 255) (hS : Sep (h :: l) H) :
    CallP Try.prog W 82 #[.int .i64 (M : Int), .slice a1 n1 cap1, .slice a3 n3 cap3] H fun v H' => v = .bool true ∧ Sep (h :: l) H' := by
  refine CallP.of mixed Try.func82 tr82 (by show 3 ≤ _; decide) fun W _ => ?_
  by_cases b1 : 40 < n1
  · have g1 : decide (40 < (n1 : Int)) = true := decide_eq_true (by omega)
    simp only [g1, ↓D0, ↓D1, ↓D2, ↓D3, ↓D4, ↓D5, ↓D6, ↓D7, ↓D8, ↓D9, U0, U1, U2, U3, U4, U5, U6, U7, U8, U9, U10, ↓reduceIte, Nat.reduceAdd, Nat.reduceMul, Nat.reduceSub, Nat.reduceEqDiff, Nat.reduceBEq, Nat.reduceLeDiff, Nat.reduceLT, Int.reduceAdd, Int.reduceMul, Int.reduceSub, Int.reduceLT, Int.reduceLE, Int.reduceToNat, Int.reduceEq, Int.reduceNe, Int.reduceBEq, Int.reduceBNe, ne_eq, eq_self]
    refine callT_of (c_awake8 hS) ?_
    rintro v H' ⟨rfl, hS⟩
    simp only [↓D0, ↓D1, ↓D2, ↓D3, ↓D4, ↓D5, ↓D6, ↓D7, ↓D8, ↓D9, U0, U1, U2, U3, U4, U5, U6, U7, U8, U9, U10, ↓reduceIte, Nat.reduceAdd, Nat.reduceMul, Nat.reduceSub, Nat.reduceEqDiff, Nat.reduceBEq, Nat.reduceLeDiff, Nat.reduceLT, Int.reduceAdd, Int.reduceMul, Int.reduceSub, Int.reduceLT, Int.reduceLE, Int.reduceToNat, Int.reduceEq, Int.reduceNe, Int.reduceBEq, Int.reduceBNe, ne_eq, eq_self]
    exact hS
  have g1 : decide (40 < (n1 : Int)) = false := decide_eq_false (by omega)
  by_cases b2 : 40 < n3
  · have g2 : decide (40 < (n3 : Int)) = true := decide_eq_true (by omega)
    simp only [g1, g2, ↓D0, ↓D1, ↓D2, ↓D3, ↓D4, ↓D5, ↓D6, ↓D7, ↓D8, ↓D9, U0, U1, U2, U3, U4, U5, U6, U7, U8, U9, U10, ↓reduceIte, Nat.reduceAdd, Nat.reduceMul, Nat.reduceSub, Nat.reduceEqDiff, Nat.reduceBEq, Nat.reduceLeDiff, Nat.reduceLT, Int.reduceAdd, Int.reduceMul, Int.reduceSub, Int.reduceLT, Int.reduceLE, Int.reduceToNat, Int.reduceEq, Int.reduceNe, Int.reduceBEq, Int.reduceBNe, ne_eq, eq_self]
    refine callT_of (c_awake8 hS) ?_
    rintro v H' ⟨rfl, hS⟩
    simp only [↓D0, ↓D1, ↓D2, ↓D3, ↓D4, ↓D5, ↓D6, ↓D7, ↓D8, ↓D9, U0, U1, U2, U3, U4, U5, U6, U7, U8, U9, U10, ↓reduceIte, Nat.reduceAdd, Nat.reduceMul, Nat.reduceSub, Nat.reduceEqDiff, Nat.reduceBEq, Nat.reduceLeDiff, Nat.reduceLT, Int.reduceAdd, Int.reduceMul, Int.reduceSub, Int.reduceLT, Int.reduceLE, Int.reduceToNat, Int.reduceEq, Int.reduceNe, Int.reduceBEq, Int.reduceBNe, ne_eq, eq_self]
    exact hS
  have g2 : decide (40 < (n3 : Int)) = false := decide_eq_false (by omega)
  simp only [g1, g2, ↓D0, ↓D1, ↓D2, ↓D3, ↓D4, ↓D5, ↓D6, ↓D7, ↓D8, ↓D9, U0, U1, U2, U3, U4, U5, U6, U7, U8, U9, U10, ↓reduceIte, Nat.reduceAdd, Nat.reduceMul, Nat.reduceSub, Nat.reduceEqDiff, Nat.reduceBEq, Nat.reduceLeDiff, Nat.reduceLT, Int.reduceAdd, Int.reduceMul, Int.reduceSub, Int.reduceLT, Int.reduceLE, Int.reduceToNat, Int.reduceEq, Int.reduceNe, Int.reduceBEq, Int.reduceBNe, ne_eq, eq_self]
  refine newB_intro fun x hx f3 f4 => ?_
  have hS := hS.new f3 (.cells #[.int .i64 0, .int .i64 0, .int .i64 0] 57 (0, 0))
  have hS := hS.set (.cells #[.int .i64 4, .int .i64 2, .int .i64 (M : Int)] 57 (0, 0))
  rw [Ev.upd_upd] at hS
  have hx1 := hS.look
  have r1 := fun o n => rdn_of hx1 o n
  have hm := may4 hM
  obtain ⟨N, hN⟩ : ∃ N : Nat, words 4 2 M = (N : Int) := ⟨(words 4 2 M).toNat, by have := words_le hm; omega⟩
  have hNb := words_le hm
  have hN2 : N ≤ 2000 := by omega
  have n0 : (0 : Int) ≤ (N : Int) := by omega
  have n8 : 8 * (N : Int) ≤ 281474976710656 := by omega
  have n9 : (N : Int) ≤ 9223372036854775807 := by omega
  have nle : (N : Int) ≤ (N : Int) := Int.le_refl _
  simp only [Ev.upd_upd, hx1, r1, u_words, hN, n0, n8, n9, nle, Int.toNat_natCast, ↓D0, ↓D1, ↓D2, ↓D3, ↓D4, ↓D5, ↓D6, ↓D7, ↓D8, ↓D9, U0, U1, U2, U3, U4, U5, U6, U7, U8, U9, U10, ↓reduceIte, Nat.reduceAdd, Nat.reduceMul, Nat.reduceSub, Nat.reduceEqDiff, Nat.reduceBEq, Nat.reduceLeDiff, Nat.reduceLT, Int.reduceAdd, Int.reduceMul, Int.reduceSub, Int.reduceLT, Int.reduceLE, Int.reduceToNat, Int.reduceEq, Int.reduceNe, Int.reduceBEq, Int.reduceBNe, ne_eq, eq_self]
  refine newB_intro fun y hy f5 f6 => ?_
  have hS := hS.new f5 (.cells (urow N fun _ => 0) 26 (0, 0))
  simp only [urow_zero, urow_size, ↓D0, ↓D1, ↓D2, ↓D3, ↓D4, ↓D5, ↓D6, ↓D7, ↓D8, ↓D9, U0, U1, U2, U3, U4, U5, U6, U7, U8, U9, U10, ↓reduceIte, Nat.reduceAdd, Nat.reduceMul, Nat.reduceSub, Nat.reduceEqDiff, Nat.reduceBEq, Nat.reduceLeDiff, Nat.reduceLT, Int.reduceAdd, Int.reduceMul, Int.reduceSub, Int.reduceLT, Int.reduceLE, Int.reduceToNat, Int.reduceEq, Int.reduceNe, Int.reduceBEq, Int.reduceBNe, ne_eq, eq_self]
  refine callT_of (c_fill (n := N) hN2 (RowU.own y N _ _ _) hS) ?_
  rintro v H' ⟨b, s, rfl, hS⟩
  have hS := hS.p2.tail
  simp only [↓D0, ↓D1, ↓D2, ↓D3, ↓D4, ↓D5, ↓D6, ↓D7, ↓D8, ↓D9, U0, U1, U2, U3, U4, U5, U6, U7, U8, U9, U10, ↓reduceIte, Nat.reduceAdd, Nat.reduceMul, Nat.reduceSub, Nat.reduceEqDiff, Nat.reduceBEq, Nat.reduceLeDiff, Nat.reduceLT, Int.reduceAdd, Int.reduceMul, Int.reduceSub, Int.reduceLT, Int.reduceLE, Int.reduceToNat, Int.reduceEq, Int.reduceNe, Int.reduceBEq, Int.reduceBNe, ne_eq, eq_self]
  refine callT_of (c_awake8 hS) ?_
  rintro v H' ⟨rfl, hS⟩
  have p0 : (0 : Int) ≤ (M : Int) := by omega
  have p1 : 8 * (M : Int) ≤ 281474976710656 := by omega
  have p2 : (M : Int) ≤ 9223372036854775807 := by omega
  have ple : (M : Int) ≤ (M : Int) := Int.le_refl _
  simp only [p0, p1, p2, ple, Int.toNat_natCast, ↓D0, ↓D1, ↓D2, ↓D3, ↓D4, ↓D5, ↓D6, ↓D7, ↓D8, ↓D9, U0, U1, U2, U3, U4, U5, U6, U7, U8, U9, U10, ↓reduceIte, Nat.reduceAdd, Nat.reduceMul, Nat.reduceSub, Nat.reduceEqDiff, Nat.reduceBEq, Nat.reduceLeDiff, Nat.reduceLT, Int.reduceAdd, Int.reduceMul, Int.reduceSub, Int.reduceLT, Int.reduceLE, Int.reduceToNat, Int.reduceEq, Int.reduceNe, Int.reduceBEq, Int.reduceBNe, ne_eq, eq_self]
  refine newB_intro fun mb hmb f7 f8 => ?_
  have hS := hS.new f7 (.cells (irow M fun _ => 0) 3 (0, 0))
  have hof0 : (rowW N fun _ => 0).of (sh4 M) := rowW_of hN.symm fun _ _ => U_0
  have hz : ∀ q, (rowW N fun _ => 0).get q = 0 := fun q => by show (if _ then _ else _) = _; split <;> rfl
  have hI0 : MagIs M (fun _ => 0) (rowW N fun _ => 0) := ⟨hof0, fun j _ => by rw [hz]; rfl, fun j _ => by decide, fun j _ => hz _⟩
  have ei := irow_zero M
  simp only [ei, ↓D0, ↓D1, ↓D2, ↓D3, ↓D4, ↓D5, ↓D6, ↓D7, ↓D8, ↓D9, U0, U1, U2, U3, U4, U5, U6, U7, U8, U9, U10, ↓reduceIte, Nat.reduceAdd, Nat.reduceMul, Nat.reduceSub, Nat.reduceEqDiff, Nat.reduceBEq, Nat.reduceLeDiff, Nat.reduceLT, Int.reduceAdd, Int.reduceMul, Int.reduceSub, Int.reduceLT, Int.reduceLE, Int.reduceToNat, Int.reduceEq, Int.reduceNe, Int.reduceBEq, Int.reduceBNe, ne_eq, eq_self]
  refine loop_intro (mbA M n1 n3 cap1 cap3 a1 a3 x b mb s (sg x (.cells #[.int .i64 4, .int .i64 2, .int .i64 (M : Int)] 57 (0, 0)) :: h :: l)) (fun F' _ => (n1 - iv (gt F' 10)).toNat)
    ⟨0, _, _, by omega, by simp [gt], ⟨rfl, rfl, rfl, rfl, rfl, rfl⟩, hI0, hS.r2⟩ ?_
  rintro F' H' ⟨i, mm, w, i1, e10, ⟨e0, e1, e2, e7, e8, e9⟩, hI, hS⟩
  by_cases hi : i < n1
  · have d1 : decide ((i : Int) < (n1 : Int)) = true := decide_eq_true (by omega)
    have d2 : (0 : Int) ≤ (i : Int) := by omega
    have d3 : (i : Int) < (n1 : Int) := by omega
    have wi : w64 ((i : Int) + 1) = ((i + 1 : Nat) : Int) := by rw [w64_eq (by omega) (by omega)]; omega
    have hx1 := hS.lk 3 rfl
    have r1 := fun o n => rdn_of hx1 o n
    obtain ⟨fb, fo, hfa, hrd0⟩ := hr1.at' hi
    obtain ⟨fc, fT, ff, hfh, hfc⟩ := rd_cells4 hrd0
    subst hfa
    have hfm : H' fb = some (.cells fc fT ff) := hS.sb h (by simp) fb _ hfh
    have hrd : rd H' fb (fo + i) = some (.int .u8 (ls i)) := by rw [rd_of hfm]; exact hfc
    obtain ⟨nxf, nfx⟩ := Sep_far hS (i := 3) (j := 4) (by decide) rfl rfl hfh
    obtain ⟨nmf, nfm⟩ := Sep_far hS (i := 2) (j := 4) (by decide) rfl rfl hfh
    obtain ⟨X, hX⟩ : ∃ X, ls i = X := ⟨_, rfl⟩
    have hXb := hl i hi
    rw [hX] at hXb hrd hfc
    have em0 : (i : Int).tmod 4 = (i : Int) % 4 := Int.tmod_eq_emod_of_nonneg d2
    have ww0 : w64 ((i : Int) % 4) = (i : Int) % 4 := w64_eq (by omega) (by omega)
    have efd : X.fdiv (2 ^ min 2 IntKind.u8.bits) = X / 4 := by
      rw [show min 2 IntKind.u8.bits = 2 by decide]
      exact Int.fdiv_eq_ediv_of_nonneg _ (by decide)
    have wX : w64 X = X := w64_eq (by omega) (by omega)
    have wX4 : w64 (X / 4) = X / 4 := w64_eq (by omega) (by omega)
    have em1 : (X / 4).tmod 2 = X / 4 % 2 := Int.tmod_eq_emod_of_nonneg (by omega)
    have em2 : X.tmod 4 = X % 4 := Int.tmod_eq_emod_of_nonneg hXb.1
    obtain ⟨p, hp⟩ : ∃ p, (i : Int) % 4 = p := ⟨_, rfl⟩
    obtain ⟨q, hq⟩ : ∃ q, X / 4 % 2 = q := ⟨_, rfl⟩
    obtain ⟨k, hk⟩ : ∃ k, X % 4 = k := ⟨_, rfl⟩
    have pb : 0 ≤ p ∧ p ≤ 3 := by omega
    have qb : 0 ≤ q ∧ q ≤ 1 := by omega
    have kb : 0 ≤ k ∧ k ≤ 3 := by omega
    rw [hp] at em0 ww0
    rw [hq] at em1
    rw [hk] at em2
    have wq : w64 q = q := w64_eq (by omega) (by omega)
    have wk : w64 k = k := w64_eq (by omega) (by omega)
    simp only [e10, e0, e1, e2, e7, e8, e9, d1, ↓D0, ↓D1, ↓D2, ↓D3, ↓D4, ↓D5, ↓D6, ↓D7, ↓D8, ↓D9, U0, U1, U2, U3, U4, U5, U6, U7, U8, U9, U10, ↓reduceIte, Nat.reduceAdd, Nat.reduceMul, Nat.reduceSub, Nat.reduceEqDiff, Nat.reduceBEq, Nat.reduceLeDiff, Nat.reduceLT, Int.reduceAdd, Int.reduceMul, Int.reduceSub, Int.reduceLT, Int.reduceLE, Int.reduceToNat, Int.reduceEq, Int.reduceNe, Int.reduceBEq, Int.reduceBNe, ne_eq, eq_self]
    refine draw_intro [(x, #[.int .i64 4, .int .i64 2, .int .i64 (M : Int)], []), (fb, fc, [])] (by simp only [hx1, hfm, ↓D0, ↓D1, ↓D2, ↓D3, ↓D4, ↓D5, ↓D6, ↓D7, ↓D8, ↓D9, U0, U1, U2, U3, U4, U5, U6, U7, U8, U9, U10, ↓reduceIte, Nat.reduceAdd, Nat.reduceMul, Nat.reduceSub, Nat.reduceEqDiff, Nat.reduceBEq, Nat.reduceLeDiff, Nat.reduceLT, Int.reduceAdd, Int.reduceMul, Int.reduceSub, Int.reduceLT, Int.reduceLE, Int.reduceToNat, Int.reduceEq, Int.reduceNe, Int.reduceBEq, Int.reduceBNe, ne_eq, eq_self]) ?_
    simp only [e10, e0, e1, e2, e7, e8, e9, d1, d2, d3, hx1, hfm, r1, nxf, nfx, hrd, hfc, wrap_w64, em0, ww0, efd, wX, wX4, em1, em2, wq, wk, Int.toNat_natCast, ↓D0, ↓D1, ↓D2, ↓D3, ↓D4, ↓D5, ↓D6, ↓D7, ↓D8, ↓D9, U0, U1, U2, U3, U4, U5, U6, U7, U8, U9, U10, ↓reduceIte, Nat.reduceAdd, Nat.reduceMul, Nat.reduceSub, Nat.reduceEqDiff, Nat.reduceBEq, Nat.reduceLeDiff, Nat.reduceLT, Int.reduceAdd, Int.reduceMul, Int.reduceSub, Int.reduceLT, Int.reduceLE, Int.reduceToNat, Int.reduceEq, Int.reduceNe, Int.reduceBEq, Int.reduceBNe, ne_eq, eq_self]
    refine callT_of (c_punew (sh := ⟨4, 2, M⟩) hS) ?_
    rintro v H' ⟨kp, rfl, hS⟩
    have hx1 := hS.lk 4 rfl
    have hfm : H' fb = some (.cells fc fT ff) := hS.sb h (by simp) fb _ hfh
    simp only [hx1, hfm, ↓D0, ↓D1, ↓D2, ↓D3, ↓D4, ↓D5, ↓D6, ↓D7, ↓D8, ↓D9, U0, U1, U2, U3, U4, U5, U6, U7, U8, U9, U10, ↓reduceIte, Nat.reduceAdd, Nat.reduceMul, Nat.reduceSub, Nat.reduceEqDiff, Nat.reduceBEq, Nat.reduceLeDiff, Nat.reduceLT, Int.reduceAdd, Int.reduceMul, Int.reduceSub, Int.reduceLT, Int.reduceLE, Int.reduceToNat, Int.reduceEq, Int.reduceNe, Int.reduceBEq, Int.reduceBNe, ne_eq, eq_self]
    have sl2 : 2 ≤ slots k := by
      rcases (by omega : k = 0 ∨ k = 1 ∨ k = 2 ∨ k = 3) with e | e | e | e <;> rw [e] <;> decide
    have hdn0 : (Pu.new (sh4 M) 1 p q k).dn = false ∨ (Pu.new (sh4 M) 1 p q k).i = (Pu.new (sh4 M) 1 p q k).s.m := by
      by_cases hM0 : M = 0
      · right; show (0 : Int) = (M : Int); omega
      · left
        show (!(good (sh4 M) 1 k && decide (0 ≤ page 4 2 M p) && decide (0 ≤ q) && decide (q < slots k)) || decide ((M : Int) = 0)) = false
        unfold good
        rw [show status (sh4 M).p (sh4 M).c (sh4 M).m 1 = 1 from status_yes hm (by decide) (by show (1 : Int) < 2; decide), page_yes hm pb.1 (by omega), decide_eq_true (show (0 : Int) ≤ 1 by decide), decide_eq_true (show 0 < slots k by omega), decide_eq_true (show (0 : Int) ≤ 2 + p by omega), decide_eq_true qb.1, decide_eq_true (show q < slots k by omega), decide_eq_false (show ¬ (M : Int) = 0 by omega)]; rfl
    have hA0 : Pu.Al (sh4 M) 1 (putEn p q k) w (Pu.new (sh4 M) 1 p q k) w := Pu.Al.start (Pu.new_wf _ _ _ _ _) hdn0 rfl rfl rfl
    have hl0 := pu_left1 (sh4 M) 1 p q k (by show (0 : Int) ≤ M; omega)
    have hl0 : (Pu.new (sh4 M) 1 p q k).left ≤ (M : Int) + 1 := hl0
    have wM1 : w64 ((M : Int) + 1) = (M : Int) + 1 := w64_eq (by omega) (by omega)
    have wM2 : w64 ((M : Int) - 1) = (M : Int) - 1 := w64_eq (by omega) (by omega)
    refine loop_intro (mbP i (putEn p q k) w kp M n1 n3 cap1 cap3 (some ⟨fb, fo, none⟩) a3 x b mb s (sg mb (.cells (irow M mm) 3 (0, 0)) :: sg x (.cells #[.int .i64 4, .int .i64 2, .int .i64 (M : Int)] 57 (0, 0)) :: h :: l)) (fun F' _ => ((M : Int) + 1 - iv (gt F' 12)).toNat)
      ⟨0, _, _, by omega, by omega, by simp [gt], by simp [gt, e10], by simp [gt], ⟨by simp [gt, e0], by simp [gt, e1], by simp [gt, e2], by simp [gt, e7], by simp [gt, e8], by simp [gt, e9]⟩, hA0, hI.of, by omega, hS⟩ ?_
    rintro F' H' ⟨j, t, w', j0, j1, e12, e10, e11, ⟨e0, e1, e2, e7, e8, e9⟩, hA, hofw, hlf, hS⟩
    by_cases hjl : j < (M : Int) + 1
    · have d4 : decide (j < (M : Int) + 1) = true := decide_eq_true hjl
      have wj : w64 (j + 1) = j + 1 := w64_eq (by omega) (by omega)
      have hl2 := pu_step1 (w := w') hA.wf hlf
      simp only [e12, e10, e11, e0, e1, e2, e7, e8, e9, d4, wrap_w64, wM1, ↓D0, ↓D1, ↓D2, ↓D3, ↓D4, ↓D5, ↓D6, ↓D7, ↓D8, ↓D9, U0, U1, U2, U3, U4, U5, U6, U7, U8, U9, U10, ↓reduceIte, Nat.reduceAdd, Nat.reduceMul, Nat.reduceSub, Nat.reduceEqDiff, Nat.reduceBEq, Nat.reduceLeDiff, Nat.reduceLT, Int.reduceAdd, Int.reduceMul, Int.reduceSub, Int.reduceLT, Int.reduceLE, Int.reduceToNat, Int.reduceEq, Int.reduceNe, Int.reduceBEq, Int.reduceBNe, ne_eq, eq_self]
      refine callT_of (c_pustep hA.wf (fun _ => by rw [hA.hs]; exact hofw) hS) ?_
      rintro v H' ⟨rfl, hS⟩
      simp only [e12, e10, e11, e0, e1, e2, e7, e8, e9, wrap_w64, wj, ↓D0, ↓D1, ↓D2, ↓D3, ↓D4, ↓D5, ↓D6, ↓D7, ↓D8, ↓D9, U0, U1, U2, U3, U4, U5, U6, U7, U8, U9, U10, ↓reduceIte, Nat.reduceAdd, Nat.reduceMul, Nat.reduceSub, Nat.reduceEqDiff, Nat.reduceBEq, Nat.reduceLeDiff, Nat.reduceLT, Int.reduceAdd, Int.reduceMul, Int.reduceSub, Int.reduceLT, Int.reduceLE, Int.reduceToNat, Int.reduceEq, Int.reduceNe, Int.reduceBEq, Int.reduceBNe, ne_eq, eq_self]
      exact ⟨⟨j + 1, _, _, by omega, by omega, by simp [gt], by simp [gt, e10], by simp [gt, e11], ⟨by simp [gt, e0], by simp [gt, e1], by simp [gt, e2], by simp [gt, e7], by simp [gt, e8], by simp [gt, e9]⟩, hA.step, Pu.step_of hofw, by omega, hS⟩, by simp [gt, iv, e12]; omega⟩
    have d4 : decide (j < (M : Int) + 1) = false := decide_eq_false hjl
    have hd : t.dn = true := Pu.left_dn hA.wf (by have := Pu.left_nn hA.wf; omega)
    simp only [e12, e10, e11, e0, e1, e2, e7, e8, e9, d4, wrap_w64, wM1, wM2, ↓D0, ↓D1, ↓D2, ↓D3, ↓D4, ↓D5, ↓D6, ↓D7, ↓D8, ↓D9, U0, U1, U2, U3, U4, U5, U6, U7, U8, U9, U10, ↓reduceIte, Nat.reduceAdd, Nat.reduceMul, Nat.reduceSub, Nat.reduceEqDiff, Nat.reduceBEq, Nat.reduceLeDiff, Nat.reduceLT, Int.reduceAdd, Int.reduceMul, Int.reduceSub, Int.reduceLT, Int.reduceLE, Int.reduceToNat, Int.reduceEq, Int.reduceNe, Int.reduceBEq, Int.reduceBNe, ne_eq, eq_self]
    refine loop_intro (mbF i mm kp M n1 n3 cap1 cap3 (some ⟨fb, fo, none⟩) a3 x b mb (puB kp t :: wB b s w' :: wR s w' :: sg mb (.cells (irow M mm) 3 (0, 0)) :: sg x (.cells #[.int .i64 4, .int .i64 2, .int .i64 (M : Int)] 57 (0, 0)) :: h :: l)) (fun F' _ => (iv (gt F' 14) + 1).toNat)
      ⟨(M : Int) - 1, -1, by omega, by omega, by omega, by omega, by simp [gt], by simp [gt], by simp [gt, e10], by simp [gt, e11], ⟨by simp [gt, e0], by simp [gt, e1], by simp [gt, e2], by simp [gt, e7], by simp [gt, e8], by simp [gt, e9]⟩, by rw [show (M : Int) - 1 + 1 = M by omega]; exact Fst.top, hS⟩ ?_
    rintro F' H' ⟨j, free, j0, j1, f0, f1, e14, e13, e10, e11, ⟨e0, e1, e2, e7, e8, e9⟩, hF, hS⟩
    have hmb := hS.lk 3 rfl
    by_cases hj : 0 ≤ j
    · have d5 : decide (0 ≤ j) = true := decide_eq_true hj
      have wj : w64 (j - 1) = j - 1 := w64_eq (by omega) (by omega)
      have hrm : rd H' mb j.toNat = some (.int .i64 (mm j.toNat)) := by rw [rd_of hmb, irow_at (by omega)]
      cases hz : (mm j.toNat == 0)
      · simp only [e14, e13, e10, e11, e0, e1, e2, e7, e8, e9, d5, hj, j1, hrm, hz, wrap_w64, wj, Nat.zero_add, ↓D0, ↓D1, ↓D2, ↓D3, ↓D4, ↓D5, ↓D6, ↓D7, ↓D8, ↓D9, U0, U1, U2, U3, U4, U5, U6, U7, U8, U9, U10, ↓reduceIte, Nat.reduceAdd, Nat.reduceMul, Nat.reduceSub, Nat.reduceEqDiff, Nat.reduceBEq, Nat.reduceLeDiff, Nat.reduceLT, Int.reduceAdd, Int.reduceMul, Int.reduceSub, Int.reduceLT, Int.reduceLE, Int.reduceToNat, Int.reduceEq, Int.reduceNe, Int.reduceBEq, Int.reduceBNe, ne_eq, eq_self]
        exact ⟨⟨j - 1, free, by omega, by omega, f0, f1, by simp [gt], by simp [gt, e13], by simp [gt, e10], by simp [gt, e11], ⟨by simp [gt, e0], by simp [gt, e1], by simp [gt, e2], by simp [gt, e7], by simp [gt, e8], by simp [gt, e9]⟩, by rw [show j - 1 + 1 = j by omega]; exact hF.no (beq_eq_false_iff_ne.1 hz), hS⟩, by simp [gt, iv, e14]; omega⟩
      · simp only [e14, e13, e10, e11, e0, e1, e2, e7, e8, e9, d5, hj, j1, hrm, hz, wrap_w64, wj, Nat.zero_add, ↓D0, ↓D1, ↓D2, ↓D3, ↓D4, ↓D5, ↓D6, ↓D7, ↓D8, ↓D9, U0, U1, U2, U3, U4, U5, U6, U7, U8, U9, U10, ↓reduceIte, Nat.reduceAdd, Nat.reduceMul, Nat.reduceSub, Nat.reduceEqDiff, Nat.reduceBEq, Nat.reduceLeDiff, Nat.reduceLT, Int.reduceAdd, Int.reduceMul, Int.reduceSub, Int.reduceLT, Int.reduceLE, Int.reduceToNat, Int.reduceEq, Int.reduceNe, Int.reduceBEq, Int.reduceBNe, ne_eq, eq_self]
        exact ⟨⟨j - 1, j, by omega, by omega, by omega, j1, by simp [gt], by simp [gt], by simp [gt, e10], by simp [gt, e11], ⟨by simp [gt, e0], by simp [gt, e1], by simp [gt, e2], by simp [gt, e7], by simp [gt, e8], by simp [gt, e9]⟩, by rw [show j - 1 + 1 = j by omega]; exact Fst.yes (beq_iff_eq.1 hz) j1, hS⟩, by simp [gt, iv, e14]; omega⟩
    have d5 : decide (0 ≤ j) = false := decide_eq_false hj
    have hj1 : j = -1 := by omega
    subst hj1
    have hF2 : Fst (fun j => w.get (mag (sh4 M).p (sh4 M).c (sh4 M).m 1 j) = 0) (sh4 M).m 0 free := Fst.congr hF fun j a c => by
      have c : j < (M : Int) := c
      have h1 := hI.m1 j.toNat (by omega)
      have h2 := hI.bd j.toNat (by omega)
      rw [show ((j.toNat : Nat) : Int) = j by omega] at h1
      show mm j.toNat = 0 ↔ w.get (mag 4 2 M 1 j) = 0
      rw [h1]; exact (encM_ne h2.1 h2.2).symm
    obtain ⟨g3, g4⟩ := hA.first hd hF2
    simp only [e14, e13, e10, e11, e0, e1, e2, e7, e8, e9, d5, ↓D0, ↓D1, ↓D2, ↓D3, ↓D4, ↓D5, ↓D6, ↓D7, ↓D8, ↓D9, U0, U1, U2, U3, U4, U5, U6, U7, U8, U9, U10, ↓reduceIte, Nat.reduceAdd, Nat.reduceMul, Nat.reduceSub, Nat.reduceEqDiff, Nat.reduceBEq, Nat.reduceLeDiff, Nat.reduceLT, Int.reduceAdd, Int.reduceMul, Int.reduceSub, Int.reduceLT, Int.reduceLE, Int.reduceToNat, Int.reduceEq, Int.reduceNe, Int.reduceBEq, Int.reduceBNe, ne_eq, eq_self]
    refine callT_of (c_pudone hS) ?_
    rintro v H' ⟨rfl, hS⟩
    simp only [e14, e13, e10, e11, e0, e1, e2, e7, e8, e9, hd, ↓D0, ↓D1, ↓D2, ↓D3, ↓D4, ↓D5, ↓D6, ↓D7, ↓D8, ↓D9, U0, U1, U2, U3, U4, U5, U6, U7, U8, U9, U10, ↓reduceIte, Nat.reduceAdd, Nat.reduceMul, Nat.reduceSub, Nat.reduceEqDiff, Nat.reduceBEq, Nat.reduceLeDiff, Nat.reduceLT, Int.reduceAdd, Int.reduceMul, Int.reduceSub, Int.reduceLT, Int.reduceLE, Int.reduceToNat, Int.reduceEq, Int.reduceNe, Int.reduceBEq, Int.reduceBNe, ne_eq, eq_self]
    refine callT_of (c_puput hS) ?_
    rintro v H' ⟨rfl, hS⟩
    cases hput : t.put
    · have d6 : decide (0 ≤ free) = false := by rw [← g3, hput]
      simp only [e14, e13, e10, e11, e0, e1, e2, e7, e8, e9, hput, d6, wrap_w64, wi, ↓D0, ↓D1, ↓D2, ↓D3, ↓D4, ↓D5, ↓D6, ↓D7, ↓D8, ↓D9, U0, U1, U2, U3, U4, U5, U6, U7, U8, U9, U10, ↓reduceIte, Nat.reduceAdd, Nat.reduceMul, Nat.reduceSub, Nat.reduceEqDiff, Nat.reduceBEq, Nat.reduceLeDiff, Nat.reduceLT, Int.reduceAdd, Int.reduceMul, Int.reduceSub, Int.reduceLT, Int.reduceLE, Int.reduceToNat, Int.reduceEq, Int.reduceNe, Int.reduceBEq, Int.reduceBNe, ne_eq, eq_self]
      exact ⟨⟨i + 1, mm, w', by omega, by simp [gt], ⟨by simp [gt, e0], by simp [gt, e1], by simp [gt, e2], by simp [gt, e7], by simp [gt, e8], by simp [gt, e9]⟩, hI.same hM hofw (hA.no hput), hS.tail⟩, by simp [gt, iv, e10]; omega⟩
    · have d6 : decide (0 ≤ free) = true := by rw [← g3, hput]
      have hfree := g4 hput
      have ff0 : 0 ≤ free := of_decide_eq_true d6
      obtain ⟨ev1, ev2, ev3⟩ := encM_put pb.1 pb.2 qb.1 qb.2 kb.1 kb.2
      have hy := (hA.yes hput).2
      rw [hfree] at hy
      have hI2 := hI.put hM (f := free.toNat) (v := 1 + (p * 2 + q) * 4 + k) (by omega) ⟨ev2, ev3⟩ hofw (fun a ha => by
        rw [show ((free.toNat : Nat) : Int) = free by omega, ev1]; exact hy a ha)
      have v1 : w64 (p * 2) = p * 2 := w64_eq (by omega) (by omega)
      have v2 : w64 (p * 2 + q) = p * 2 + q := w64_eq (by omega) (by omega)
      have v3 : w64 ((p * 2 + q) * 4) = (p * 2 + q) * 4 := w64_eq (by omega) (by omega)
      have v4 : w64 (1 + (p * 2 + q) * 4) = 1 + (p * 2 + q) * 4 := w64_eq (by omega) (by omega)
      have v5 : w64 (1 + (p * 2 + q) * 4 + k) = 1 + (p * 2 + q) * 4 + k := w64_eq (by omega) (by omega)
      have hmb := hS.lk 3 rfl
      have hfm : H' fb = some (.cells fc fT ff) := hS.sb h (by simp) fb _ hfh
      have hrd : rd H' fb (fo + i) = some (.int .u8 X) := by rw [rd_of hfm]; exact hfc
      have hset := hS.tail.p2.set (.cells (irow M fun j => if j = free.toNat then 1 + (p * 2 + q) * 4 + k else mm j) 3 (0, 0))
      have fM : free.toNat < M := by omega
      simp only [e14, e13, e10, e11, e0, e1, e2, e7, e8, e9, hput, d6, ↓D0, ↓D1, ↓D2, ↓D3, ↓D4, ↓D5, ↓D6, ↓D7, ↓D8, ↓D9, U0, U1, U2, U3, U4, U5, U6, U7, U8, U9, U10, ↓reduceIte, Nat.reduceAdd, Nat.reduceMul, Nat.reduceSub, Nat.reduceEqDiff, Nat.reduceBEq, Nat.reduceLeDiff, Nat.reduceLT, Int.reduceAdd, Int.reduceMul, Int.reduceSub, Int.reduceLT, Int.reduceLE, Int.reduceToNat, Int.reduceEq, Int.reduceNe, Int.reduceBEq, Int.reduceBNe, ne_eq, eq_self]
      refine draw_intro [(fb, fc, [])] (by simp only [hfm, ↓D0, ↓D1, ↓D2, ↓D3, ↓D4, ↓D5, ↓D6, ↓D7, ↓D8, ↓D9, U0, U1, U2, U3, U4, U5, U6, U7, U8, U9, U10, ↓reduceIte, Nat.reduceAdd, Nat.reduceMul, Nat.reduceSub, Nat.reduceEqDiff, Nat.reduceBEq, Nat.reduceLeDiff, Nat.reduceLT, Int.reduceAdd, Int.reduceMul, Int.reduceSub, Int.reduceLT, Int.reduceLE, Int.reduceToNat, Int.reduceEq, Int.reduceNe, Int.reduceBEq, Int.reduceBNe, ne_eq, eq_self]) ?_
      simp only [e14, e13, e10, e11, e0, e1, e2, e7, e8, e9, d2, d3, ff0, f1, fM, hmb, hfm, nmf, nfm, hrd, hfc, wrap_w64, em0, ww0, efd, wX, wX4, em1, em2, wq, wk, v1, v2, v3, v4, v5, wi, irow_size, irow_set, Nat.zero_add, Int.toNat_natCast, ↓D0, ↓D1, ↓D2, ↓D3, ↓D4, ↓D5, ↓D6, ↓D7, ↓D8, ↓D9, U0, U1, U2, U3, U4, U5, U6, U7, U8, U9, U10, ↓reduceIte, Nat.reduceAdd, Nat.reduceMul, Nat.reduceSub, Nat.reduceEqDiff, Nat.reduceBEq, Nat.reduceLeDiff, Nat.reduceLT, Int.reduceAdd, Int.reduceMul, Int.reduceSub, Int.reduceLT, Int.reduceLE, Int.reduceToNat, Int.reduceEq, Int.reduceNe, Int.reduceBEq, Int.reduceBNe, ne_eq, eq_self]
      exact ⟨⟨i + 1, _, w', by omega, by simp [gt], ⟨by simp [gt, e0], by simp [gt, e1], by simp [gt, e2], by simp [gt, e7], by simp [gt, e8], by simp [gt, e9]⟩, hI2, hset.r2⟩, by simp [gt, iv, e10]; omega⟩
  have d1 : decide ((i : Int) < (n1 : Int)) = false := decide_eq_false (by omega)
  simp only [e10, e0, e1, e2, e7, e8, e9, d1, ↓D0, ↓D1, ↓D2, ↓D3, ↓D4, ↓D5, ↓D6, ↓D7, ↓D8, ↓D9, U0, U1, U2, U3, U4, U5, U6, U7, U8, U9, U10, ↓reduceIte, Nat.reduceAdd, Nat.reduceMul, Nat.reduceSub, Nat.reduceEqDiff, Nat.reduceBEq, Nat.reduceLeDiff, Nat.reduceLT, Int.reduceAdd, Int.reduceMul, Int.reduceSub, Int.reduceLT, Int.reduceLE, Int.reduceToNat, Int.reduceEq, Int.reduceNe, Int.reduceBEq, Int.reduceBNe, ne_eq, eq_self]
  refine loop_intro (mbB M n1 n3 cap1 cap3 a1 a3 x b mb s (sg x (.cells #[.int .i64 4, .int .i64 2, .int .i64 (M : Int)] 57 (0, 0)) :: h :: l)) (fun F' _ => (n3 - iv (gt F' 15)).toNat)
    ⟨0, mm, w, by omega, by simp [gt], ⟨by simp [gt, e0], by simp [gt, e1], by simp [gt, e2], by simp [gt, e7], by simp [gt, e8], by simp [gt, e9]⟩, hI, hS⟩ ?_
  clear hI
  rintro F' H' ⟨i, mm, w, i1, e15, ⟨e0, e1, e2, e7, e8, e9⟩, hI, hS⟩
  by_cases hi : i < n3
  · have d1 : decide ((i : Int) < (n3 : Int)) = true := decide_eq_true (by omega)
    have d2 : (0 : Int) ≤ (i : Int) := by omega
    have d3 : (i : Int) < (n3 : Int) := by omega
    have wi : w64 ((i : Int) + 1) = ((i + 1 : Nat) : Int) := by rw [w64_eq (by omega) (by omega)]; omega
    have hx1 := hS.lk 3 rfl
    have r1 := fun o n => rdn_of hx1 o n
    obtain ⟨fb, fo, hfa, hrd0⟩ := hr3.at' hi
    obtain ⟨fc, fT, ff, hfh, hfc⟩ := rd_cells4 hrd0
    subst hfa
    have hfm : H' fb = some (.cells fc fT ff) := hS.sb h (by simp) fb _ hfh
    have hrd : rd H' fb (fo + i) = some (.int .u8 (vs i)) := by rw [rd_of hfm]; exact hfc
    obtain ⟨nxf, nfx⟩ := Sep_far hS (i := 3) (j := 4) (by decide) rfl rfl hfh
    obtain ⟨nmf, nfm⟩ := Sep_far hS (i := 2) (j := 4) (by decide) rfl rfl hfh
    obtain ⟨X, hX⟩ : ∃ X, vs i = X := ⟨_, rfl⟩
    have hXb := hv i hi
    rw [hX] at hXb hrd hfc
    have wX : w64 X = X := w64_eq (by omega) (by omega)
    have em2 : X.tmod 4 = X % 4 := Int.tmod_eq_emod_of_nonneg hXb.1
    obtain ⟨k, hk⟩ : ∃ k, X % 4 = k := ⟨_, rfl⟩
    have kb : 0 ≤ k ∧ k ≤ 3 := by omega
    rw [hk] at em2
    have wk : w64 k = k := w64_eq (by omega) (by omega)
    simp only [e15, e0, e1, e2, e7, e8, e9, d1, ↓D0, ↓D1, ↓D2, ↓D3, ↓D4, ↓D5, ↓D6, ↓D7, ↓D8, ↓D9, U0, U1, U2, U3, U4, U5, U6, U7, U8, U9, U10, ↓reduceIte, Nat.reduceAdd, Nat.reduceMul, Nat.reduceSub, Nat.reduceEqDiff, Nat.reduceBEq, Nat.reduceLeDiff, Nat.reduceLT, Int.reduceAdd, Int.reduceMul, Int.reduceSub, Int.reduceLT, Int.reduceLE, Int.reduceToNat, Int.reduceEq, Int.reduceNe, Int.reduceBEq, Int.reduceBNe, ne_eq, eq_self]
    refine draw_intro [(x, #[.int .i64 4, .int .i64 2, .int .i64 (M : Int)], []), (fb, fc, [])] (by simp only [hx1, hfm, ↓D0, ↓D1, ↓D2, ↓D3, ↓D4, ↓D5, ↓D6, ↓D7, ↓D8, ↓D9, U0, U1, U2, U3, U4, U5, U6, U7, U8, U9, U10, ↓reduceIte, Nat.reduceAdd, Nat.reduceMul, Nat.reduceSub, Nat.reduceEqDiff, Nat.reduceBEq, Nat.reduceLeDiff, Nat.reduceLT, Int.reduceAdd, Int.reduceMul, Int.reduceSub, Int.reduceLT, Int.reduceLE, Int.reduceToNat, Int.reduceEq, Int.reduceNe, Int.reduceBEq, Int.reduceBNe, ne_eq, eq_self]) ?_
    simp only [e15, e0, e1, e2, e7, e8, e9, d1, d2, d3, hx1, hfm, r1, nxf, nfx, hrd, hfc, wrap_w64, wX, em2, wk, Int.toNat_natCast, ↓D0, ↓D1, ↓D2, ↓D3, ↓D4, ↓D5, ↓D6, ↓D7, ↓D8, ↓D9, U0, U1, U2, U3, U4, U5, U6, U7, U8, U9, U10, ↓reduceIte, Nat.reduceAdd, Nat.reduceMul, Nat.reduceSub, Nat.reduceEqDiff, Nat.reduceBEq, Nat.reduceLeDiff, Nat.reduceLT, Int.reduceAdd, Int.reduceMul, Int.reduceSub, Int.reduceLT, Int.reduceLE, Int.reduceToNat, Int.reduceEq, Int.reduceNe, Int.reduceBEq, Int.reduceBNe, ne_eq, eq_self]
    refine callT_of (c_tknew (sh := ⟨4, 2, M⟩) hS) ?_
    rintro v H' ⟨kp, rfl, hS⟩
    have hx1 := hS.lk 4 rfl
    have hfm : H' fb = some (.cells fc fT ff) := hS.sb h (by simp) fb _ hfh
    simp only [hx1, hfm, ↓D0, ↓D1, ↓D2, ↓D3, ↓D4, ↓D5, ↓D6, ↓D7, ↓D8, ↓D9, U0, U1, U2, U3, U4, U5, U6, U7, U8, U9, U10, ↓reduceIte, Nat.reduceAdd, Nat.reduceMul, Nat.reduceSub, Nat.reduceEqDiff, Nat.reduceBEq, Nat.reduceLeDiff, Nat.reduceLT, Int.reduceAdd, Int.reduceMul, Int.reduceSub, Int.reduceLT, Int.reduceLE, Int.reduceToNat, Int.reduceEq, Int.reduceNe, Int.reduceBEq, Int.reduceBNe, ne_eq, eq_self]
    have sl2 : 2 ≤ slots k := by
      rcases (by omega : k = 0 ∨ k = 1 ∨ k = 2 ∨ k = 3) with e | e | e | e <;> rw [e] <;> decide
    have hdn0 : (Tk.new (sh4 M) 1 k).dn = false ∨ (Tk.new (sh4 M) 1 k).i = (Tk.new (sh4 M) 1 k).s.m := by
      by_cases hM0 : M = 0
      · right; show (0 : Int) = (M : Int); omega
      · left
        show (!good (sh4 M) 1 k || decide ((M : Int) = 0)) = false
        unfold good
        rw [show status (sh4 M).p (sh4 M).c (sh4 M).m 1 = 1 from status_yes hm (by decide) (by show (1 : Int) < 2; decide), decide_eq_true (show (0 : Int) ≤ 1 by decide), decide_eq_true (show 0 < slots k by omega), decide_eq_false (show ¬ (M : Int) = 0 by omega)]; rfl
    have hA0 : Tk.Al (sh4 M) 1 k w (Tk.new (sh4 M) 1 k) w := Tk.Al.start (Tk.new_wf _ _ _) hdn0 rfl rfl rfl
    have hl0 := tk_left1 (sh4 M) 1 k (by show (0 : Int) ≤ M; omega)
    have hl0 : (Tk.new (sh4 M) 1 k).left ≤ (M : Int) + 1 := hl0
    have wM1 : w64 ((M : Int) + 1) = (M : Int) + 1 := w64_eq (by omega) (by omega)
    have wM2 : w64 ((M : Int) - 1) = (M : Int) - 1 := w64_eq (by omega) (by omega)
    refine loop_intro (mbT i k w kp M n1 n3 cap1 cap3 a1 (some ⟨fb, fo, none⟩) x b mb s (sg mb (.cells (irow M mm) 3 (0, 0)) :: sg x (.cells #[.int .i64 4, .int .i64 2, .int .i64 (M : Int)] 57 (0, 0)) :: h :: l)) (fun F' _ => ((M : Int) + 1 - iv (gt F' 17)).toNat)
      ⟨0, _, _, by omega, by omega, by simp [gt], by simp [gt, e15], by simp [gt], ⟨by simp [gt, e0], by simp [gt, e1], by simp [gt, e2], by simp [gt, e7], by simp [gt, e8], by simp [gt, e9]⟩, hA0, hI.of, by omega, hS⟩ ?_
    rintro F' H' ⟨j, t, w', j0, j1, e17, e15, e16, ⟨e0, e1, e2, e7, e8, e9⟩, hA, hofw, hlf, hS⟩
    by_cases hjl : j < (M : Int) + 1
    · have d4 : decide (j < (M : Int) + 1) = true := decide_eq_true hjl
      have wj : w64 (j + 1) = j + 1 := w64_eq (by omega) (by omega)
      have hl2 := tk_step1 (w := w') hA.wf hlf
      simp only [e17, e15, e16, e0, e1, e2, e7, e8, e9, d4, wrap_w64, wM1, ↓D0, ↓D1, ↓D2, ↓D3, ↓D4, ↓D5, ↓D6, ↓D7, ↓D8, ↓D9, U0, U1, U2, U3, U4, U5, U6, U7, U8, U9, U10, ↓reduceIte, Nat.reduceAdd, Nat.reduceMul, Nat.reduceSub, Nat.reduceEqDiff, Nat.reduceBEq, Nat.reduceLeDiff, Nat.reduceLT, Int.reduceAdd, Int.reduceMul, Int.reduceSub, Int.reduceLT, Int.reduceLE, Int.reduceToNat, Int.reduceEq, Int.reduceNe, Int.reduceBEq, Int.reduceBNe, ne_eq, eq_self]
      refine callT_of (c_tkstep hA.wf (fun _ => by rw [hA.hs]; exact hofw) hS) ?_
      rintro v H' ⟨rfl, hS⟩
      simp only [e17, e15, e16, e0, e1, e2, e7, e8, e9, wrap_w64, wj, ↓D0, ↓D1, ↓D2, ↓D3, ↓D4, ↓D5, ↓D6, ↓D7, ↓D8, ↓D9, U0, U1, U2, U3, U4, U5, U6, U7, U8, U9, U10, ↓reduceIte, Nat.reduceAdd, Nat.reduceMul, Nat.reduceSub, Nat.reduceEqDiff, Nat.reduceBEq, Nat.reduceLeDiff, Nat.reduceLT, Int.reduceAdd, Int.reduceMul, Int.reduceSub, Int.reduceLT, Int.reduceLE, Int.reduceToNat, Int.reduceEq, Int.reduceNe, Int.reduceBEq, Int.reduceBNe, ne_eq, eq_self]
      exact ⟨⟨j + 1, _, _, by omega, by omega, by simp [gt], by simp [gt, e15], by simp [gt, e16], ⟨by simp [gt, e0], by simp [gt, e1], by simp [gt, e2], by simp [gt, e7], by simp [gt, e8], by simp [gt, e9]⟩, hA.step, Tk.step_of hofw, by omega, hS⟩, by simp [gt, iv, e17]; omega⟩
    have d4 : decide (j < (M : Int) + 1) = false := decide_eq_false hjl
    have hd : t.dn = true := Tk.left_dn hA.wf (by have := Tk.left_nn hA.wf; omega)
    simp only [e17, e15, e16, e0, e1, e2, e7, e8, e9, d4, wrap_w64, wM1, wM2, ↓D0, ↓D1, ↓D2, ↓D3, ↓D4, ↓D5, ↓D6, ↓D7, ↓D8, ↓D9, U0, U1, U2, U3, U4, U5, U6, U7, U8, U9, U10, ↓reduceIte, Nat.reduceAdd, Nat.reduceMul, Nat.reduceSub, Nat.reduceEqDiff, Nat.reduceBEq, Nat.reduceLeDiff, Nat.reduceLT, Int.reduceAdd, Int.reduceMul, Int.reduceSub, Int.reduceLT, Int.reduceLE, Int.reduceToNat, Int.reduceEq, Int.reduceNe, Int.reduceBEq, Int.reduceBNe, ne_eq, eq_self]
    refine loop_intro (mbW i k mm kp M n1 n3 cap1 cap3 a1 (some ⟨fb, fo, none⟩) x b mb (tkB kp t :: wB b s w' :: wR s w' :: sg mb (.cells (irow M mm) 3 (0, 0)) :: sg x (.cells #[.int .i64 4, .int .i64 2, .int .i64 (M : Int)] 57 (0, 0)) :: h :: l)) (fun F' _ => (iv (gt F' 19) + 1).toNat)
      ⟨(M : Int) - 1, -1, by omega, by omega, by omega, by omega, by simp [gt], by simp [gt], by simp [gt, e15], by simp [gt, e16], ⟨by simp [gt, e0], by simp [gt, e1], by simp [gt, e2], by simp [gt, e7], by simp [gt, e8], by simp [gt, e9]⟩, by rw [show (M : Int) - 1 + 1 = M by omega]; exact Fst.top, hS⟩ ?_
    rintro F' H' ⟨j, at', j0, j1, f0, f1, e19, e18, e15, e16, ⟨e0, e1, e2, e7, e8, e9⟩, hF, hS⟩
    have hmb := hS.lk 3 rfl
    have hfm : H' fb = some (.cells fc fT ff) := hS.sb h (by simp) fb _ hfh
    have hrd : rd H' fb (fo + i) = some (.int .u8 X) := by rw [rd_of hfm]; exact hfc
    by_cases hj : 0 ≤ j
    · have d5 : decide (0 ≤ j) = true := decide_eq_true hj
      have wj : w64 (j - 1) = j - 1 := w64_eq (by omega) (by omega)
      have hrm : rd H' mb j.toNat = some (.int .i64 (mm j.toNat)) := by rw [rd_of hmb, irow_at (by omega)]
      obtain ⟨m0, m1⟩ := hI.bd j.toNat (by omega)
      have stay : ¬ (0 < mm j.toNat ∧ (mm j.toNat - 1) % 4 = k) → Fst (fun j => 0 < mm j.toNat ∧ (mm j.toNat - 1) % 4 = k) M (j - 1 + 1) at' := fun h => by
        rw [show j - 1 + 1 = j by omega]; exact hF.no h
      by_cases hp : 0 < mm j.toNat
      · have c1 : decide (0 < mm j.toNat) = true := decide_eq_true hp
        have wm : w64 (mm j.toNat - 1) = mm j.toNat - 1 := w64_eq (by omega) (by omega)
        have em : (mm j.toNat - 1).tmod 4 = (mm j.toNat - 1) % 4 := Int.tmod_eq_emod_of_nonneg (by omega)
        have wm2 : w64 ((mm j.toNat - 1) % 4) = (mm j.toNat - 1) % 4 := w64_eq (by omega) (by omega)
        cases c2 : ((mm j.toNat - 1) % 4 == k)
        · simp only [e19, e18, e15, e16, e0, e1, e2, e7, e8, e9, d2, d3, d5, hj, j1, hrm, hrd, c1, c2, wrap_w64, wm, em, wm2, wX, em2, wk, wj, Nat.zero_add, Int.toNat_natCast, ↓D0, ↓D1, ↓D2, ↓D3, ↓D4, ↓D5, ↓D6, ↓D7, ↓D8, ↓D9, U0, U1, U2, U3, U4, U5, U6, U7, U8, U9, U10, ↓reduceIte, Nat.reduceAdd, Nat.reduceMul, Nat.reduceSub, Nat.reduceEqDiff, Nat.reduceBEq, Nat.reduceLeDiff, Nat.reduceLT, Int.reduceAdd, Int.reduceMul, Int.reduceSub, Int.reduceLT, Int.reduceLE, Int.reduceToNat, Int.reduceEq, Int.reduceNe, Int.reduceBEq, Int.reduceBNe, ne_eq, eq_self]
          exact ⟨⟨j - 1, at', by omega, by omega, f0, f1, by simp [gt], by simp [gt, e18], by simp [gt, e15], by simp [gt, e16], ⟨by simp [gt, e0], by simp [gt, e1], by simp [gt, e2], by simp [gt, e7], by simp [gt, e8], by simp [gt, e9]⟩, stay fun h => (beq_eq_false_iff_ne.1 c2) h.2, hS⟩, by simp [gt, iv, e19]; omega⟩
        · simp only [e19, e18, e15, e16, e0, e1, e2, e7, e8, e9, d2, d3, d5, hj, j1, hrm, hrd, c1, c2, wrap_w64, wm, em, wm2, wX, em2, wk, wj, Nat.zero_add, Int.toNat_natCast, ↓D0, ↓D1, ↓D2, ↓D3, ↓D4, ↓D5, ↓D6, ↓D7, ↓D8, ↓D9, U0, U1, U2, U3, U4, U5, U6, U7, U8, U9, U10, ↓reduceIte, Nat.reduceAdd, Nat.reduceMul, Nat.reduceSub, Nat.reduceEqDiff, Nat.reduceBEq, Nat.reduceLeDiff, Nat.reduceLT, Int.reduceAdd, Int.reduceMul, Int.reduceSub, Int.reduceLT, Int.reduceLE, Int.reduceToNat, Int.reduceEq, Int.reduceNe, Int.reduceBEq, Int.reduceBNe, ne_eq, eq_self]
          exact ⟨⟨j - 1, j, by omega, by omega, by omega, j1, by simp [gt], by simp [gt], by simp [gt, e15], by simp [gt, e16], ⟨by simp [gt, e0], by simp [gt, e1], by simp [gt, e2], by simp [gt, e7], by simp [gt, e8], by simp [gt, e9]⟩, by rw [show j - 1 + 1 = j by omega]; exact Fst.yes ⟨hp, beq_iff_eq.1 c2⟩ j1, hS⟩, by simp [gt, iv, e19]; omega⟩
      · have c1 : decide (0 < mm j.toNat) = false := decide_eq_false hp
        simp only [e19, e18, e15, e16, e0, e1, e2, e7, e8, e9, d2, d3, d5, hj, j1, hrm, hrd, c1, wrap_w64, wj, Nat.zero_add, Int.toNat_natCast, ↓D0, ↓D1, ↓D2, ↓D3, ↓D4, ↓D5, ↓D6, ↓D7, ↓D8, ↓D9, U0, U1, U2, U3, U4, U5, U6, U7, U8, U9, U10, ↓reduceIte, Nat.reduceAdd, Nat.reduceMul, Nat.reduceSub, Nat.reduceEqDiff, Nat.reduceBEq, Nat.reduceLeDiff, Nat.reduceLT, Int.reduceAdd, Int.reduceMul, Int.reduceSub, Int.reduceLT, Int.reduceLE, Int.reduceToNat, Int.reduceEq, Int.reduceNe, Int.reduceBEq, Int.reduceBNe, ne_eq, eq_self]
        exact ⟨⟨j - 1, at', by omega, by omega, f0, f1, by simp [gt], by simp [gt, e18], by simp [gt, e15], by simp [gt, e16], ⟨by simp [gt, e0], by simp [gt, e1], by simp [gt, e2], by simp [gt, e7], by simp [gt, e8], by simp [gt, e9]⟩, stay fun h => hp h.1, hS⟩, by simp [gt, iv, e19]; omega⟩
    have d5 : decide (0 ≤ j) = false := decide_eq_false hj
    have hj1 : j = -1 := by omega
    subst hj1
    have hF2 : Fst (fun j => hitAt (sh4 M) k (w.get (mag (sh4 M).p (sh4 M).c (sh4 M).m 1 j)) = true) (sh4 M).m 0 at' := Fst.congr hF fun j a c => by
      have c : j < (M : Int) := c
      have h1 := hI.m1 j.toNat (by omega)
      have h2 := hI.bd j.toNat (by omega)
      rw [show ((j.toNat : Nat) : Int) = j by omega] at h1
      show (0 < mm j.toNat ∧ (mm j.toNat - 1) % 4 = k) ↔ hitAt (sh4 M) k (w.get (mag 4 2 M 1 j)) = true
      rw [h1]; exact (encM_hit (by omega) (by omega) h2.1 h2.2 kb.1 kb.2).1.symm
    obtain ⟨g3, g4⟩ := hA.first hd hF2
    simp only [e19, e18, e15, e16, e0, e1, e2, e7, e8, e9, d5, ↓D0, ↓D1, ↓D2, ↓D3, ↓D4, ↓D5, ↓D6, ↓D7, ↓D8, ↓D9, U0, U1, U2, U3, U4, U5, U6, U7, U8, U9, U10, ↓reduceIte, Nat.reduceAdd, Nat.reduceMul, Nat.reduceSub, Nat.reduceEqDiff, Nat.reduceBEq, Nat.reduceLeDiff, Nat.reduceLT, Int.reduceAdd, Int.reduceMul, Int.reduceSub, Int.reduceLT, Int.reduceLE, Int.reduceToNat, Int.reduceEq, Int.reduceNe, Int.reduceBEq, Int.reduceBNe, ne_eq, eq_self]
    refine callT_of (c_tkfound hS) ?_
    rintro v H' ⟨rfl, hS⟩
    simp only [e19, e18, e15, e16, e0, e1, e2, e7, e8, e9, ↓D0, ↓D1, ↓D2, ↓D3, ↓D4, ↓D5, ↓D6, ↓D7, ↓D8, ↓D9, U0, U1, U2, U3, U4, U5, U6, U7, U8, U9, U10, ↓reduceIte, Nat.reduceAdd, Nat.reduceMul, Nat.reduceSub, Nat.reduceEqDiff, Nat.reduceBEq, Nat.reduceLeDiff, Nat.reduceLT, Int.reduceAdd, Int.reduceMul, Int.reduceSub, Int.reduceLT, Int.reduceLE, Int.reduceToNat, Int.reduceEq, Int.reduceNe, Int.reduceBEq, Int.reduceBNe, ne_eq, eq_self]
    refine callT_of (c_tkdone hS) ?_
    rintro v H' ⟨rfl, hS⟩
    cases hok : t.fd
    · have d6 : decide (0 ≤ at') = false := by rw [← g3, hok]
      simp only [e19, e18, e15, e16, e0, e1, e2, e7, e8, e9, hd, hok, d6, wrap_w64, wi, ↓D0, ↓D1, ↓D2, ↓D3, ↓D4, ↓D5, ↓D6, ↓D7, ↓D8, ↓D9, U0, U1, U2, U3, U4, U5, U6, U7, U8, U9, U10, ↓reduceIte, Nat.reduceAdd, Nat.reduceMul, Nat.reduceSub, Nat.reduceEqDiff, Nat.reduceBEq, Nat.reduceLeDiff, Nat.reduceLT, Int.reduceAdd, Int.reduceMul, Int.reduceSub, Int.reduceLT, Int.reduceLE, Int.reduceToNat, Int.reduceEq, Int.reduceNe, Int.reduceBEq, Int.reduceBNe, ne_eq, eq_self]
      exact ⟨⟨i + 1, mm, w', by omega, by simp [gt], ⟨by simp [gt, e0], by simp [gt, e1], by simp [gt, e2], by simp [gt, e7], by simp [gt, e8], by simp [gt, e9]⟩, hI.same hM hofw (hA.no hok), hS.tail⟩, by simp [gt, iv, e15]; omega⟩
    · have d6 : decide (0 ≤ at') = true := by rw [← g3, hok]
      have hat := g4 hok
      have aa0 : 0 ≤ at' := of_decide_eq_true d6
      obtain ⟨⟨y1, y2, y3, y4⟩, hy⟩ := hA.yes hok
      rw [hat] at y2 y3 y4 hy
      have h1 := hI.m1 at'.toNat (by omega)
      obtain ⟨m0, m1⟩ := hI.bd at'.toNat (by omega)
      rw [show ((at'.toNat : Nat) : Int) = at' by omega] at h1
      have h1 : w.get (mag (sh4 M).p (sh4 M).c (sh4 M).m 1 at') = encM (mm at'.toNat) := h1
      rw [h1] at y2 y3 y4
      obtain ⟨e1h, e2h⟩ := encM_hit (n := (M : Int)) (by omega) (by omega) m0 m1 kb.1 kb.2
      have hpos := (e1h.1 y2).1
      obtain ⟨z1, z2⟩ := e2h hpos
      rw [z1] at y3
      rw [z2] at y4
      have hmb := hS.lk 3 rfl
      have hrm : rd H' mb at'.toNat = some (.int .i64 (mm at'.toNat)) := by rw [rd_of hmb, irow_at (by omega)]
      have v1 : w64 (mm at'.toNat - 1) = mm at'.toNat - 1 := w64_eq (by omega) (by omega)
      have v2 : (mm at'.toNat - 1).tdiv 4 = (mm at'.toNat - 1) / 4 := Int.tdiv_eq_ediv_of_nonneg (by omega)
      have v3 : w64 ((mm at'.toNat - 1) / 4) = (mm at'.toNat - 1) / 4 := w64_eq (by omega) (by omega)
      have v4 : w64 (t.ep * 2) = t.ep * 2 := w64_eq (by omega) (by omega)
      have v5 : w64 (t.ep * 2 + t.es) = t.ep * 2 + t.es := w64_eq (by omega) (by omega)
      have v6 : ((mm at'.toNat - 1) / 4 != t.ep * 2 + t.es) = false := by
        have : (mm at'.toNat - 1) / 4 = t.ep * 2 + t.es := by omega
        rw [this]; simp
      have hI2 := hI.put hM (f := at'.toNat) (v := 0) (by omega) (by decide) hofw (fun a ha => by
        rw [show ((at'.toNat : Nat) : Int) = at' by omega]; exact hy a ha)
      have hset := hS.tail.p2.set (.cells (irow M fun j => if j = at'.toNat then 0 else mm j) 3 (0, 0))
      have aM : at'.toNat < M := by omega
      simp only [e19, e18, e15, e16, e0, e1, e2, e7, e8, e9, hd, hok, d6, aa0, f1, aM, hmb, hrm, wrap_w64, v1, v2, v3, v4, v5, v6, wi, irow_size, irow_set, Nat.zero_add, ↓D0, ↓D1, ↓D2, ↓D3, ↓D4, ↓D5, ↓D6, ↓D7, ↓D8, ↓D9, U0, U1, U2, U3, U4, U5, U6, U7, U8, U9, U10, ↓reduceIte, Nat.reduceAdd, Nat.reduceMul, Nat.reduceSub, Nat.reduceEqDiff, Nat.reduceBEq, Nat.reduceLeDiff, Nat.reduceLT, Int.reduceAdd, Int.reduceMul, Int.reduceSub, Int.reduceLT, Int.reduceLE, Int.reduceToNat, Int.reduceEq, Int.reduceNe, Int.reduceBEq, Int.reduceBNe, ne_eq, eq_self]
      exact ⟨⟨i + 1, _, w', by omega, by simp [gt], ⟨by simp [gt, e0], by simp [gt, e1], by simp [gt, e2], by simp [gt, e7], by simp [gt, e8], by simp [gt, e9]⟩, hI2, hset.r2⟩, by simp [gt, iv, e15]; omega⟩
  have d1 : decide ((i : Int) < (n3 : Int)) = false := decide_eq_false (by omega)
  simp only [e15, e0, e1, e2, e7, e8, e9, d1, ↓D0, ↓D1, ↓D2, ↓D3, ↓D4, ↓D5, ↓D6, ↓D7, ↓D8, ↓D9, U0, U1, U2, U3, U4, U5, U6, U7, U8, U9, U10, ↓reduceIte, Nat.reduceAdd, Nat.reduceMul, Nat.reduceSub, Nat.reduceEqDiff, Nat.reduceBEq, Nat.reduceLeDiff, Nat.reduceLT, Int.reduceAdd, Int.reduceMul, Int.reduceSub, Int.reduceLT, Int.reduceLE, Int.reduceToNat, Int.reduceEq, Int.reduceNe, Int.reduceBEq, Int.reduceBNe, ne_eq, eq_self]
  refine loop_intro (mbZ M n1 n3 cap1 cap3 a1 a3 x b mb (wB b s w :: wR s w :: sg mb (.cells (irow M mm) 3 (0, 0)) :: sg x (.cells #[.int .i64 4, .int .i64 2, .int .i64 (M : Int)] 57 (0, 0)) :: h :: l)) (fun F' _ => (M - iv (gt F' 23)).toNat)
    ⟨0, by omega, by simp [gt], ⟨by simp [gt, e0], by simp [gt, e1], by simp [gt, e2], by simp [gt, e7], by simp [gt, e8], by simp [gt, e9]⟩, hS⟩ ?_
  rintro F' H' ⟨i, i1, e23, ⟨e0, e1, e2, e7, e8, e9⟩, hS⟩
  by_cases hi : i < M
  · have d4 : decide ((i : Int) < (M : Int)) = true := decide_eq_true (by omega)
    have wi : w64 ((i : Int) + 1) = ((i + 1 : Nat) : Int) := by rw [w64_eq (by omega) (by omega)]; omega
    have hx1 := hS.lk 3 rfl
    have r1 := fun o n => rdn_of hx1 o n
    have mi := mag_in hI.of hm (i := 0) (j := (i : Int)) (by decide) (by show (0 : Int) < 2; decide) (by omega) (by show (i : Int) < (M : Int); omega)
    have hz : (w.get (mag 4 2 M 0 i) != 0) = false := by rw [hI.m0 i hi]; decide
    simp only [e23, e0, e1, e2, e7, e8, e9, d4, hx1, r1, u_mag, ↓D0, ↓D1, ↓D2, ↓D3, ↓D4, ↓D5, ↓D6, ↓D7, ↓D8, ↓D9, U0, U1, U2, U3, U4, U5, U6, U7, U8, U9, U10, ↓reduceIte, Nat.reduceAdd, Nat.reduceMul, Nat.reduceSub, Nat.reduceEqDiff, Nat.reduceBEq, Nat.reduceLeDiff, Nat.reduceLT, Int.reduceAdd, Int.reduceMul, Int.reduceSub, Int.reduceLT, Int.reduceLE, Int.reduceToNat, Int.reduceEq, Int.reduceNe, Int.reduceBEq, Int.reduceBNe, ne_eq, eq_self]
    refine callT_of (c_look (mag 4 2 M 0 i) mi.1 mi.2 hS) ?_
    rintro v H' ⟨rfl, hS⟩
    simp only [e23, e0, e1, e2, e7, e8, e9, hz, wrap_w64, wi, ↓D0, ↓D1, ↓D2, ↓D3, ↓D4, ↓D5, ↓D6, ↓D7, ↓D8, ↓D9, U0, U1, U2, U3, U4, U5, U6, U7, U8, U9, U10, ↓reduceIte, Nat.reduceAdd, Nat.reduceMul, Nat.reduceSub, Nat.reduceEqDiff, Nat.reduceBEq, Nat.reduceLeDiff, Nat.reduceLT, Int.reduceAdd, Int.reduceMul, Int.reduceSub, Int.reduceLT, Int.reduceLE, Int.reduceToNat, Int.reduceEq, Int.reduceNe, Int.reduceBEq, Int.reduceBNe, ne_eq, eq_self]
    exact ⟨⟨i + 1, by omega, by simp [gt], ⟨by simp [gt, e0], by simp [gt, e1], by simp [gt, e2], by simp [gt, e7], by simp [gt, e8], by simp [gt, e9]⟩, hS⟩, by simp [gt, iv, e23]; omega⟩
  have d4 : decide ((i : Int) < (M : Int)) = false := decide_eq_false (by omega)
  simp only [e23, e0, e1, e2, e7, e8, e9, d4, ↓D0, ↓D1, ↓D2, ↓D3, ↓D4, ↓D5, ↓D6, ↓D7, ↓D8, ↓D9, U0, U1, U2, U3, U4, U5, U6, U7, U8, U9, U10, ↓reduceIte, Nat.reduceAdd, Nat.reduceMul, Nat.reduceSub, Nat.reduceEqDiff, Nat.reduceBEq, Nat.reduceLeDiff, Nat.reduceLT, Int.reduceAdd, Int.reduceMul, Int.reduceSub, Int.reduceLT, Int.reduceLE, Int.reduceToNat, Int.reduceEq, Int.reduceNe, Int.reduceBEq, Int.reduceBNe, ne_eq, eq_self]
  exact hS.tail.tail.tail.tail
theorem c_magboth {g0 : Int} (hg0 : 0 ≤ g0) (hg1 : g0 ≤ 255) (hr1 : RowV h a1 n1 (fun i => .int .u8 (ls i))) (hr3 : RowV h a3 n3 (fun i => .int .u8 (vs i))) (hl : ∀ i, i < n1 → 0 ≤ ls i ∧ ls i ≤ 255) (hv : ∀ i, i < n3 → 0 ≤ vs i ∧ vs i ≤ 255) (hS : Sep (h :: l) H) :
    CallP Try.prog W 16 #[.int .u8 g0, .slice a1 n1 cap1, .slice a3 n3 cap3] H fun v H' => v = .bool true ∧ Sep (h :: l) H' := by
  refine CallP.of mixed Try.func16 tr16 (by show 3 ≤ _; decide) fun W _ => ?_
  simp only [↓D0, ↓D1, ↓D2, ↓D3, ↓D4, ↓D5, ↓D6, ↓D7, ↓D8, ↓D9, U0, U1, U2, U3, U4, U5, U6, U7, U8, U9, U10, ↓reduceIte, Nat.reduceAdd, Nat.reduceMul, Nat.reduceSub, Nat.reduceEqDiff, Nat.reduceBEq, Nat.reduceLeDiff, Nat.reduceLT, Int.reduceAdd, Int.reduceMul, Int.reduceSub, Int.reduceLT, Int.reduceLE, Int.reduceToNat, Int.reduceEq, Int.reduceNe, Int.reduceBEq, Int.reduceBNe, ne_eq, eq_self]
  refine callT_of (c_awake8 hS) ?_
  rintro v H' ⟨rfl, hS⟩
  have eg0 : w64 g0 = g0 := w64_eq (by omega) (by omega)
  have em0 : g0.tmod 9 = g0 % 9 := Int.tmod_eq_emod_of_nonneg hg0
  obtain ⟨M, hMe⟩ : ∃ M : Nat, g0 % 9 = (M : Int) := ⟨(g0 % 9).toNat, by omega⟩
  have ww0 : w64 (M : Int) = (M : Int) := w64_eq (by omega) (by omega)
  simp only [wrap_w64, eg0, em0, hMe, ww0, ↓D0, ↓D1, ↓D2, ↓D3, ↓D4, ↓D5, ↓D6, ↓D7, ↓D8, ↓D9, U0, U1, U2, U3, U4, U5, U6, U7, U8, U9, U10, ↓reduceIte, Nat.reduceAdd, Nat.reduceMul, Nat.reduceSub, Nat.reduceEqDiff, Nat.reduceBEq, Nat.reduceLeDiff, Nat.reduceLT, Int.reduceAdd, Int.reduceMul, Int.reduceSub, Int.reduceLT, Int.reduceLE, Int.reduceToNat, Int.reduceEq, Int.reduceNe, Int.reduceBEq, Int.reduceBNe, ne_eq, eq_self]
  refine callT_of (c_both (by omega) hr1 hr3 hl hv hS) ?_
  rintro v H' ⟨rfl, hS⟩
  simp only [↓D0, ↓D1, ↓D2, ↓D3, ↓D4, ↓D5, ↓D6, ↓D7, ↓D8, ↓D9, U0, U1, U2, U3, U4, U5, U6, U7, U8, U9, U10, ↓reduceIte, Nat.reduceAdd, Nat.reduceMul, Nat.reduceSub, Nat.reduceEqDiff, Nat.reduceBEq, Nat.reduceLeDiff, Nat.reduceLT, Int.reduceAdd, Int.reduceMul, Int.reduceSub, Int.reduceLT, Int.reduceLE, Int.reduceToNat, Int.reduceEq, Int.reduceNe, Int.reduceBEq, Int.reduceBNe, ne_eq, eq_self]
  exact hS
end
theorem l_magboth {W : World} {n1 n3 cap1 cap3 : Nat} {a1 a3 : Option Addr} {ls vs : Nat → Int} (g0 : Int) (hg : 0 ≤ g0 ∧ g0 ≤ 255) (hn1 : n1 ≤ 9223372036854775807) (hr1 : RowV (memOf W) a1 n1 (fun i => .int .u8 (ls i))) (hl : ∀ i, i < n1 → IntKind.u8.has (ls i)) (hn3 : n3 ≤ 9223372036854775807) (hr3 : RowV (memOf W) a3 n3 (fun i => .int .u8 (vs i))) (hv : ∀ i, i < n3 → IntKind.u8.has (vs i)) :
    CallP Try.prog W 16 #[.int .u8 g0, .slice a1 n1 cap1, .slice a3 n3 cap3] (memOf W) fun v H' => v = .bool true ∧ Sub (memOf W) H' :=
  (c_magboth hg.1 hg.2 hr1 hr3 (fun i hi => u8_bd (hl i hi)) (fun i hi => u8_bd (hv i hi)) (Sep.one _)).mono fun v H' ⟨h1, h2⟩ => ⟨h1, h2.head⟩
end Go.Proofs.Ytfapipblclikbaa
