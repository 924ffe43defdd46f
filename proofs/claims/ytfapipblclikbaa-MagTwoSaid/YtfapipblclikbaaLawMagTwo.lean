/-
  MagTwo, walked: two that put and take at the same time, each in its own magazine. Conditions: none.
-/
import Derived.Test.YtfapipblclikbaaMagK
import Derived.Test.YtfapipblclikbaaMaTwo
import Derived.Test.YtfapipblclikbaaRowV
set_option linter.unusedVariables false
set_option linter.unusedSimpArgs false
set_option maxRecDepth 8000
namespace Go.Proofs.Ytfapipblclikbaa
open Go Go.Ev Go.Pl Go.Ma

theorem tk_left0 (s : Sh) (c k : Int) (h : 0 ≤ s.m) : (Tk.new s c k).left ≤ s.m + 1 := by
  unfold Tk.left
  split
  · omega
  · split
    · omega
    · show s.m - 0 + 1 ≤ _; omega
theorem pu_left0 (s : Sh) (c p i k : Int) (h : 0 ≤ s.m) : (Pu.new s c p i k).left ≤ s.m + 1 := by
  unfold Pu.left
  split
  · omega
  · split
    · omega
    · show s.m - 0 + 1 ≤ _; omega
theorem rd_cells3 {H : Hp} {b o : Nat} {v : Value} (h : rd H b o = some v) : ∃ c T f, H b = some (.cells c T f) ∧ c[o]? = some v := by
  unfold rd at h
  split at h
  · rename_i c T f e; exact ⟨c, T, f, e, h⟩
  · cases h
section
variable {W : World} {H h : Hp} {l : List Hp} {n n2 cap cap2 : Nat} {a a2 : Option Addr} {ws : Nat → Int} {B : Nat → Bool}

def mtG (n n2 cap cap2 : Nat) (a a2 : Option Addr) (z x : Nat) (F' : Fr) : Prop := gt F' 0 = .slice a n cap ∧ gt F' 2 = .slice a2 n2 cap2 ∧ gt F' 4 = .pointer (some ⟨z, 0, none⟩) ∧ gt F' 7 = .pointer (some ⟨x, 0, none⟩)

def mtP (b1 b2 b3 ka kb ku kv : Nat) (F' : Fr) : Prop := gt F' 11 = .pointer (some ⟨b1, 0, none⟩) ∧ gt F' 12 = .pointer (some ⟨b2, 0, none⟩) ∧ gt F' 13 = .pointer (some ⟨b3, 0, none⟩) ∧ gt F' 14 = .pointer (some ⟨ka, 0, none⟩) ∧ gt F' 15 = .pointer (some ⟨kb, 0, none⟩) ∧ gt F' 16 = .pointer (some ⟨ku, 0, none⟩) ∧ gt F' 17 = .pointer (some ⟨kv, 0, none⟩)
def mt1 (M : Int) (N : Nat) (n n2 cap cap2 : Nat) (a a2 : Option Addr) (z x y : Nat) (L : List Hp) (F' : Fr) (H' : Hp) : Prop :=
  ∃ (c : Int) (g : Nat → Int), 0 ≤ c ∧ c ≤ 2 ∧ (∀ j, U (g j)) ∧ gt F' 9 = .int .i64 c ∧ gt F' 8 = .slice (some ⟨y, 0, none⟩) N N ∧ mtG n n2 cap cap2 a a2 z x F' ∧ Sep (sg y (.cells (urow N g) 26 (0, 0)) :: L) H'
def mt2 (M c : Int) (N : Nat) (n n2 cap cap2 : Nat) (a a2 : Option Addr) (z x y : Nat) (L : List Hp) (F' : Fr) (H' : Hp) : Prop :=
  ∃ (i : Int) (g : Nat → Int), 0 ≤ i ∧ i ≤ M ∧ (∀ j, U (g j)) ∧ gt F' 10 = .int .i64 i ∧ gt F' 9 = .int .i64 c ∧ gt F' 8 = .slice (some ⟨y, 0, none⟩) N N ∧ mtG n n2 cap cap2 a a2 z x F' ∧ Sep (sg y (.cells (urow N g) 26 (0, 0)) :: L) H'
def mt3 (M : Int) (w0 : Wd) (a0 : Tk) (b0 : Pu) (n n2 cap cap2 : Nat) (a a2 : Option Addr) (z x b1 b2 b3 ka kb ku kv s1 : Nat) (L : List Hp) (F' : Fr) (H' : Hp) : Prop :=
  ∃ (i : Nat) (ia jb : Nat) (t : Tk) (u : Pu) (w : Wd), i ≤ n2 ∧ gt F' 18 = .int .i64 (i : Int) ∧ mtG n n2 cap cap2 a a2 z x F' ∧ mtP b1 b2 b3 ka kb ku kv F' ∧ TwoInv (⟨4, 2, M⟩ : Sh) w0 a0 b0 ia jb t u w ∧ Sep (tkB ka t :: puB kb u :: wB b1 s1 w :: wR s1 w :: L) H'
def mt4 (M : Int) (w0 : Wd) (a0 : Tk) (b0 : Pu) (n n2 cap cap2 : Nat) (a a2 : Option Addr) (z x b1 b2 b3 ka kb ku kv s1 s2 s3 : Nat) (L : List Hp) (F' : Fr) (H' : Hp) : Prop :=
  ∃ (i : Nat) (ia jb : Nat) (t : Tk) (u : Pu) (w : Wd), (i : Int) ≤ M + 2 ∧ i ≤ ia ∧ i ≤ jb ∧ gt F' 19 = .int .i64 (i : Int) ∧ mtG n n2 cap cap2 a a2 z x F' ∧ mtP b1 b2 b3 ka kb ku kv F' ∧ TwoInv (⟨4, 2, M⟩ : Sh) w0 a0 b0 ia jb t u w ∧
    Sep (tkB ka t :: puB kb u :: wB b1 s1 w :: wR s1 w :: tkB ku (its Tk.step i a0 w0).1 :: wB b2 s2 (its Tk.step i a0 w0).2 :: wR s2 (its Tk.step i a0 w0).2 :: puB kv (its Pu.step i b0 w0).1 :: wB b3 s3 (its Pu.step i b0 w0).2 :: wR s3 (its Pu.step i b0 w0).2 :: L) H'
def mt5 (M : Int) (x b1 b2 b3 : Nat) (L : List Hp) (F' : Fr) (H' : Hp) : Prop :=
  ∃ i : Int, 0 ≤ i ∧ i ≤ M ∧ gt F' 26 = .int .i64 i ∧ gt F' 7 = .pointer (some ⟨x, 0, none⟩) ∧ gt F' 11 = .pointer (some ⟨b1, 0, none⟩) ∧ gt F' 12 = .pointer (some ⟨b2, 0, none⟩) ∧ gt F' 13 = .pointer (some ⟨b3, 0, none⟩) ∧ Sep L H'

theorem c_magtwo {g0 g1 : Int} (hg0 : 0 ≤ g0) (hg1 : g0 ≤ 255) (hk0 : 0 ≤ g1) (hk1 : g1 ≤ 255) (hn : n ≤ 9223372036854775807) (hr : RowU h a n ws) (hU : ∀ i, i < n → U (ws i)) (hrB : RowV h a2 n2 (fun i => .bool (B i))) (hS : Sep (h :: l) H) :
    CallP Try.prog W 17 #[.slice a n cap, .agg #[.int .u8 g0, .int .u8 g1], .slice a2 n2 cap2] H fun v H' => v = .bool true ∧ Sep (h :: l) H' := by
  refine CallP.of mixed Try.func17 tr17 (by show 3 ≤ _; decide) fun W _ => ?_
  simp only [↓D0, ↓D1, ↓D2, ↓D3, ↓D4, ↓D5, ↓D6, ↓D7, ↓D8, ↓D9, U0, U1, U2, U3, U4, U5, U6, U7, U8, U9, U10, ↓reduceIte, Nat.reduceAdd, Nat.reduceMul, Nat.reduceSub, Nat.reduceEqDiff, Nat.reduceBEq, Nat.reduceLeDiff, Nat.reduceLT, Int.reduceAdd, Int.reduceMul, Int.reduceSub, Int.reduceLT, Int.reduceLE, Int.reduceToNat, Int.reduceEq, Int.reduceNe, Int.reduceBEq, Int.reduceBNe, ne_eq, eq_self]
  refine newB_intro fun z hz f1 f2 => ?_
  have hS := (hS.new f1 (.cells #[.int .u8 g0, .int .u8 g1] 54 (0, 0)))
  simp only [↓D0, ↓D1, ↓D2, ↓D3, ↓D4, ↓D5, ↓D6, ↓D7, ↓D8, ↓D9, U0, U1, U2, U3, U4, U5, U6, U7, U8, U9, U10, ↓reduceIte, Nat.reduceAdd, Nat.reduceMul, Nat.reduceSub, Nat.reduceEqDiff, Nat.reduceBEq, Nat.reduceLeDiff, Nat.reduceLT, Int.reduceAdd, Int.reduceMul, Int.reduceSub, Int.reduceLT, Int.reduceLE, Int.reduceToNat, Int.reduceEq, Int.reduceNe, Int.reduceBEq, Int.reduceBNe, ne_eq, eq_self]
  refine callT_of (c_awake8 hS) ?_
  rintro v H' ⟨rfl, hS⟩
  have et : (n : Int).tdiv 2 = (n : Int) / 2 := Int.tdiv_eq_ediv_of_nonneg (by omega)
  have wt : w64 ((n : Int) / 2) = (n : Int) / 2 := w64_eq (by omega) (by omega)
  obtain ⟨M, hM⟩ : ∃ M, (if (8 : Int) < (n : Int) / 2 then 8 else (n : Int) / 2) = M := ⟨_, rfl⟩
  have Mb : 0 ≤ M ∧ M ≤ 8 ∧ 2 * M ≤ n := by rw [← hM]; split <;> omega
  simp only [et, wrap_w64, wt, hM, ↓D0, ↓D1, ↓D2, ↓D3, ↓D4, ↓D5, ↓D6, ↓D7, ↓D8, ↓D9, U0, U1, U2, U3, U4, U5, U6, U7, U8, U9, U10, ↓reduceIte, Nat.reduceAdd, Nat.reduceMul, Nat.reduceSub, Nat.reduceEqDiff, Nat.reduceBEq, Nat.reduceLeDiff, Nat.reduceLT, Int.reduceAdd, Int.reduceMul, Int.reduceSub, Int.reduceLT, Int.reduceLE, Int.reduceToNat, Int.reduceEq, Int.reduceNe, Int.reduceBEq, Int.reduceBNe, ne_eq, eq_self]
  refine newB_intro fun x hx f3 f4 => ?_
  have hS := hS.new f3 (.cells #[.int .i64 0, .int .i64 0, .int .i64 0] 57 (0, 0))
  have hS := hS.set (.cells #[.int .i64 4, .int .i64 2, .int .i64 M] 57 (0, 0))
  rw [Ev.upd_upd] at hS
  by_cases hbig : 300 < n2
  · have d1 : decide (300 < (n2 : Int)) = true := decide_eq_true (by omega)
    simp only [Ev.upd_upd, d1, ↓D0, ↓D1, ↓D2, ↓D3, ↓D4, ↓D5, ↓D6, ↓D7, ↓D8, ↓D9, U0, U1, U2, U3, U4, U5, U6, U7, U8, U9, U10, ↓reduceIte, Nat.reduceAdd, Nat.reduceMul, Nat.reduceSub, Nat.reduceEqDiff, Nat.reduceBEq, Nat.reduceLeDiff, Nat.reduceLT, Int.reduceAdd, Int.reduceMul, Int.reduceSub, Int.reduceLT, Int.reduceLE, Int.reduceToNat, Int.reduceEq, Int.reduceNe, Int.reduceBEq, Int.reduceBNe, ne_eq, eq_self]
    exact hS.tail.tail
  have d1 : decide (300 < (n2 : Int)) = false := decide_eq_false (by omega)
  have hx1 := hS.look
  have r1 := fun o n => rdn_of hx1 o n
  have hm : may 4 2 M = true := (may_iff _ _ _).2 (by omega)
  obtain ⟨N, hN⟩ : ∃ N : Nat, words 4 2 M = (N : Int) := ⟨(words 4 2 M).toNat, by have := words_le hm; omega⟩
  have hNb := words_le hm
  have hN2 : N ≤ 2000 := by omega
  have n0 : (0 : Int) ≤ (N : Int) := by omega
  have n8 : 8 * (N : Int) ≤ 281474976710656 := by omega
  have n9 : (N : Int) ≤ 9223372036854775807 := by omega
  have nle : (N : Int) ≤ (N : Int) := Int.le_refl _
  simp only [Ev.upd_upd, d1, hx1, r1, u_words, hN, n0, n8, n9, nle, Int.toNat_natCast, ↓D0, ↓D1, ↓D2, ↓D3, ↓D4, ↓D5, ↓D6, ↓D7, ↓D8, ↓D9, U0, U1, U2, U3, U4, U5, U6, U7, U8, U9, U10, ↓reduceIte, Nat.reduceAdd, Nat.reduceMul, Nat.reduceSub, Nat.reduceEqDiff, Nat.reduceBEq, Nat.reduceLeDiff, Nat.reduceLT, Int.reduceAdd, Int.reduceMul, Int.reduceSub, Int.reduceLT, Int.reduceLE, Int.reduceToNat, Int.reduceEq, Int.reduceNe, Int.reduceBEq, Int.reduceBNe, ne_eq, eq_self]
  refine newB_intro fun y hy f5 f6 => ?_
  have hS := hS.new f5 (.cells (urow N fun _ => 0) 26 (0, 0))
  simp only [urow_zero, urow_size, ↓D0, ↓D1, ↓D2, ↓D3, ↓D4, ↓D5, ↓D6, ↓D7, ↓D8, ↓D9, U0, U1, U2, U3, U4, U5, U6, U7, U8, U9, U10, ↓reduceIte, Nat.reduceAdd, Nat.reduceMul, Nat.reduceSub, Nat.reduceEqDiff, Nat.reduceBEq, Nat.reduceLeDiff, Nat.reduceLT, Int.reduceAdd, Int.reduceMul, Int.reduceSub, Int.reduceLT, Int.reduceLE, Int.reduceToNat, Int.reduceEq, Int.reduceNe, Int.reduceBEq, Int.reduceBNe, ne_eq, eq_self]
  have hNw : (N : Int) = 2 + 4 + 64 + 2 * M := by rw [← hN]; unfold words; rw [if_pos hm]; omega
  refine loop_intro (mt1 M N n n2 cap cap2 a a2 z x y (sg x (.cells #[.int .i64 4, .int .i64 2, .int .i64 M] 57 (0, 0)) :: sg z (.cells #[.int .u8 g0, .int .u8 g1] 54 (0, 0)) :: h :: l)) (fun F' _ => (2 - iv (gt F' 9)).toNat)
    ⟨0, _, by omega, by omega, fun _ => U_0, rfl, rfl, ⟨rfl, rfl, rfl, rfl⟩, hS⟩ ?_
  rintro F' H' ⟨c, g, c0, c1, hg, e9, e8, ⟨e0, e2, e4, e7⟩, hS⟩
  by_cases hc : c < 2
  · have d2 : decide (c < 2) = true := decide_eq_true hc
    have wc : w64 (c + 1) = c + 1 := w64_eq (by omega) (by omega)
    simp only [e9, e8, e0, e2, e4, e7, d2, ↓D0, ↓D1, ↓D2, ↓D3, ↓D4, ↓D5, ↓D6, ↓D7, ↓D8, ↓D9, U0, U1, U2, U3, U4, U5, U6, U7, U8, U9, U10, ↓reduceIte, Nat.reduceAdd, Nat.reduceMul, Nat.reduceSub, Nat.reduceEqDiff, Nat.reduceBEq, Nat.reduceLeDiff, Nat.reduceLT, Int.reduceAdd, Int.reduceMul, Int.reduceSub, Int.reduceLT, Int.reduceLE, Int.reduceToNat, Int.reduceEq, Int.reduceNe, Int.reduceBEq, Int.reduceBNe, ne_eq, eq_self]
    refine loop_intro (mt2 M c N n n2 cap cap2 a a2 z x y (sg x (.cells #[.int .i64 4, .int .i64 2, .int .i64 M] 57 (0, 0)) :: sg z (.cells #[.int .u8 g0, .int .u8 g1] 54 (0, 0)) :: h :: l)) (fun F' _ => (M - iv (gt F' 10)).toNat)
      ⟨0, g, by omega, by omega, hg, rfl, by simp [gt, e9], by simp [gt, e8], ⟨by simp [gt, e0], by simp [gt, e2], by simp [gt, e4], by simp [gt, e7]⟩, hS⟩ ?_
    rintro F' H' ⟨i, g, i0, i1, hg, e10, e9, e8, ⟨e0, e2, e4, e7⟩, hS⟩
    have hx1 := hS.lk 1 rfl
    have r0 := fun o => rd_of hx1 o
    have r1 := fun o n => rdn_of hx1 o n
    by_cases hi : i < M
    · have d3 : decide (i < M) = true := decide_eq_true hi
      have wi : w64 (i + 1) = i + 1 := w64_eq (by omega) (by omega)
      obtain ⟨q, hq⟩ : ∃ q, c * M + i = q := ⟨_, rfl⟩
      have qb : 0 ≤ q ∧ q < n := by
        rcases (by omega : c = 0 ∨ c = 1) with e | e <;> rw [e] at hq <;> omega
      have wcm : w64 (c * M) = c * M := by
        rcases (by omega : c = 0 ∨ c = 1) with e | e <;> rw [e] <;> exact w64_eq (by omega) (by omega)
      have wq : w64 q = q := w64_eq (by omega) (by omega)
      obtain ⟨pa, hpa⟩ : ∃ pa, mag 4 2 M c i = pa := ⟨_, rfl⟩
      have pab : 0 ≤ pa ∧ pa < N := by
        rw [← hpa, mag_yes hm c0 hc i0 hi]
        rcases (by omega : c = 0 ∨ c = 1) with e | e <;> rw [e] <;> omega
      obtain ⟨pa0, pa1⟩ := pab
      obtain ⟨q0, q1⟩ := qb
      obtain ⟨xb, xo, hxa, hrd0⟩ := hr.at' (i := q.toNat) (by omega)
      obtain ⟨xc, xT, xf, hxh, hxc⟩ := rd_cells3 hrd0
      subst hxa
      have hxm : H' xb = some (.cells xc xT xf) := hS.sb h (by simp) xb _ hxh
      have hrd : rd H' xb (xo + q.toNat) = some (.int .u64 (ws q.toNat)) := by rw [rd_of hxm]; exact hxc
      have nhx : ∀ k, 1 < k → k < 4 → True := fun _ _ _ => trivial
      have napart : ∀ (b : Nat) (o : Obj) (k : Nat) (hk : k < 3) (he : (sg y (.cells (urow N g) 26 (0, 0)) :: sg x (.cells #[.int .i64 4, .int .i64 2, .int .i64 M] 57 (0, 0)) :: sg z (.cells #[.int .u8 g0, .int .u8 g1] 54 (0, 0)) :: h :: l)[k]? = some (sg b o)), (b = xb) = False ∧ (xb = b) = False := fun b o k hk he => by
        have : xb ≠ b := fun e => by
          obtain ⟨hk1, he1⟩ := List.getElem?_eq_some_iff.1 he
          have hd := List.pairwise_iff_getElem.1 hS.dj k 3 hk1 (by simp) hk
          rcases hd xb with h' | h'
          · rw [he1, e, sg_at] at h'; cases h'
          · have h' : h xb = none := h'
            rw [hxh] at h'; cases h'
        exact ⟨eq_false fun e => this e.symm, eq_false this⟩
      obtain ⟨nyb, nby⟩ := napart y _ 0 (by decide) rfl
      obtain ⟨nxb, nbx⟩ := napart x _ 1 (by decide) rfl
      have nyx := hS.neq 0 1 (by decide) rfl rfl
      have nxy := hS.qen 0 1 (by decide) rfl rfl
      have hy1 := hS.look
      simp only [e10, e9, e8, e0, e2, e4, e7, d3, hx1, r0, ↓D0, ↓D1, ↓D2, ↓D3, ↓D4, ↓D5, ↓D6, ↓D7, ↓D8, ↓D9, U0, U1, U2, U3, U4, U5, U6, U7, U8, U9, U10, ↓reduceIte, Nat.reduceAdd, Nat.reduceMul, Nat.reduceSub, Nat.reduceEqDiff, Nat.reduceBEq, Nat.reduceLeDiff, Nat.reduceLT, Int.reduceAdd, Int.reduceMul, Int.reduceSub, Int.reduceLT, Int.reduceLE, Int.reduceToNat, Int.reduceEq, Int.reduceNe, Int.reduceBEq, Int.reduceBNe, ne_eq, eq_self]
      refine draw_intro [(x, #[.int .i64 4, .int .i64 2, .int .i64 M], []), (xb, xc, [])] (by simp only [hx1, hxm, ↓D0, ↓D1, ↓D2, ↓D3, ↓D4, ↓D5, ↓D6, ↓D7, ↓D8, ↓D9, U0, U1, U2, U3, U4, U5, U6, U7, U8, U9, U10, ↓reduceIte, Nat.reduceAdd, Nat.reduceMul, Nat.reduceSub, Nat.reduceEqDiff, Nat.reduceBEq, Nat.reduceLeDiff, Nat.reduceLT, Int.reduceAdd, Int.reduceMul, Int.reduceSub, Int.reduceLT, Int.reduceLE, Int.reduceToNat, Int.reduceEq, Int.reduceNe, Int.reduceBEq, Int.reduceBNe, ne_eq, eq_self]) ?_
      simp only [e10, e9, e8, e0, e2, e4, e7, hx1, hxm, hy1, r0, r1, nyb, nby, nxb, nbx, nyx, nxy, wrap_w64, wcm, hq, wq, q0, q1, hrd, hxc, u_mag, hpa, pa0, pa1, wi, urow_set, urow_size, ↓D0, ↓D1, ↓D2, ↓D3, ↓D4, ↓D5, ↓D6, ↓D7, ↓D8, ↓D9, U0, U1, U2, U3, U4, U5, U6, U7, U8, U9, U10, ↓reduceIte, Nat.reduceAdd, Nat.reduceMul, Nat.reduceSub, Nat.reduceEqDiff, Nat.reduceBEq, Nat.reduceLeDiff, Nat.reduceLT, Int.reduceAdd, Int.reduceMul, Int.reduceSub, Int.reduceLT, Int.reduceLE, Int.reduceToNat, Int.reduceEq, Int.reduceNe, Int.reduceBEq, Int.reduceBNe, ne_eq, eq_self]
      exact ⟨by omega, ⟨i + 1, _, by omega, by omega, fun j => by show U (if _ then _ else _); split; exact hU _ (by omega); exact hg j, by simp [gt], by simp [gt, e9], by simp [gt, e8], ⟨by simp [gt, e0], by simp [gt, e2], by simp [gt, e4], by simp [gt, e7]⟩, hS.set _⟩, by simp [gt, iv, e10]; omega⟩
    · have d3 : decide (i < M) = false := decide_eq_false hi
      simp only [e10, e9, e8, e0, e2, e4, e7, d3, hx1, r0, wrap_w64, wc, ↓D0, ↓D1, ↓D2, ↓D3, ↓D4, ↓D5, ↓D6, ↓D7, ↓D8, ↓D9, U0, U1, U2, U3, U4, U5, U6, U7, U8, U9, U10, ↓reduceIte, Nat.reduceAdd, Nat.reduceMul, Nat.reduceSub, Nat.reduceEqDiff, Nat.reduceBEq, Nat.reduceLeDiff, Nat.reduceLT, Int.reduceAdd, Int.reduceMul, Int.reduceSub, Int.reduceLT, Int.reduceLE, Int.reduceToNat, Int.reduceEq, Int.reduceNe, Int.reduceBEq, Int.reduceBNe, ne_eq, eq_self]
      exact ⟨⟨c + 1, g, by omega, by omega, hg, by simp [gt], by simp [gt, e8], ⟨by simp [gt, e0], by simp [gt, e2], by simp [gt, e4], by simp [gt, e7]⟩, hS⟩, by simp [gt, iv, e9]; omega⟩
  have d2 : decide (c < 2) = false := decide_eq_false hc
  simp only [e9, e8, e0, e2, e4, e7, d2, ↓D0, ↓D1, ↓D2, ↓D3, ↓D4, ↓D5, ↓D6, ↓D7, ↓D8, ↓D9, U0, U1, U2, U3, U4, U5, U6, U7, U8, U9, U10, ↓reduceIte, Nat.reduceAdd, Nat.reduceMul, Nat.reduceSub, Nat.reduceEqDiff, Nat.reduceBEq, Nat.reduceLeDiff, Nat.reduceLT, Int.reduceAdd, Int.reduceMul, Int.reduceSub, Int.reduceLT, Int.reduceLE, Int.reduceToNat, Int.reduceEq, Int.reduceNe, Int.reduceBEq, Int.reduceBNe, ne_eq, eq_self]
  refine callT_of (c_fill (n := N) hN2 (RowU.own y N _ _ _) hS) ?_
  rintro v H' ⟨b1, s1, rfl, hS⟩
  simp only [e9, e8, e0, e2, e4, e7, ↓D0, ↓D1, ↓D2, ↓D3, ↓D4, ↓D5, ↓D6, ↓D7, ↓D8, ↓D9, U0, U1, U2, U3, U4, U5, U6, U7, U8, U9, U10, ↓reduceIte, Nat.reduceAdd, Nat.reduceMul, Nat.reduceSub, Nat.reduceEqDiff, Nat.reduceBEq, Nat.reduceLeDiff, Nat.reduceLT, Int.reduceAdd, Int.reduceMul, Int.reduceSub, Int.reduceLT, Int.reduceLE, Int.reduceToNat, Int.reduceEq, Int.reduceNe, Int.reduceBEq, Int.reduceBNe, ne_eq, eq_self]
  refine callT_of (c_fill (n := N) hN2 (RowU.own y N _ _ _) hS.p2) ?_
  rintro v H' ⟨b2, s2, rfl, hS⟩
  simp only [e9, e8, e0, e2, e4, e7, ↓D0, ↓D1, ↓D2, ↓D3, ↓D4, ↓D5, ↓D6, ↓D7, ↓D8, ↓D9, U0, U1, U2, U3, U4, U5, U6, U7, U8, U9, U10, ↓reduceIte, Nat.reduceAdd, Nat.reduceMul, Nat.reduceSub, Nat.reduceEqDiff, Nat.reduceBEq, Nat.reduceLeDiff, Nat.reduceLT, Int.reduceAdd, Int.reduceMul, Int.reduceSub, Int.reduceLT, Int.reduceLE, Int.reduceToNat, Int.reduceEq, Int.reduceNe, Int.reduceBEq, Int.reduceBNe, ne_eq, eq_self]
  refine callT_of (c_fill (n := N) hN2 (RowU.own y N _ _ _) hS.p2) ?_
  rintro v H' ⟨b3, s3, rfl, hS⟩
  have hS := hS.p2.tail
  obtain ⟨w0, hw0⟩ : ∃ w0, w0 = rowW N g := ⟨_, rfl⟩
  rw [← hw0] at hS
  have hof : w0.of (⟨4, 2, M⟩ : Sh) := by rw [hw0]; exact rowW_of hN.symm fun i _ => hg i
  have hx1 := hS.lk 6 rfl
  have hz1 := hS.lk 7 rfl
  have r1 := fun o n => rdn_of hx1 o n
  have r2 := fun o => rd_of hz1 o
  have i0' : (0 : Int) < ((2 : Nat) : Int) := by decide
  have i1' : (1 : Int) < ((2 : Nat) : Int) := by decide
  have nxz := hS.neq 6 7 (by decide) rfl rfl
  have nzx := hS.qen 6 7 (by decide) rfl rfl
  have eg0 : w64 g0 = g0 := w64_eq (by omega) (by omega)
  have eg1 : w64 g1 = g1 := w64_eq (by omega) (by omega)
  have em0 : g0.tmod 4 = g0 % 4 := Int.tmod_eq_emod_of_nonneg hg0
  have em1 : g1.tmod 4 = g1 % 4 := Int.tmod_eq_emod_of_nonneg hk0
  have ww0 : w64 (g0 % 4) = g0 % 4 := w64_eq (by omega) (by omega)
  have ww1 : w64 (g1 % 4) = g1 % 4 := w64_eq (by omega) (by omega)
  simp only [e9, e8, e0, e2, e4, e7, ↓D0, ↓D1, ↓D2, ↓D3, ↓D4, ↓D5, ↓D6, ↓D7, ↓D8, ↓D9, U0, U1, U2, U3, U4, U5, U6, U7, U8, U9, U10, ↓reduceIte, Nat.reduceAdd, Nat.reduceMul, Nat.reduceSub, Nat.reduceEqDiff, Nat.reduceBEq, Nat.reduceLeDiff, Nat.reduceLT, Int.reduceAdd, Int.reduceMul, Int.reduceSub, Int.reduceLT, Int.reduceLE, Int.reduceToNat, Int.reduceEq, Int.reduceNe, Int.reduceBEq, Int.reduceBNe, ne_eq, eq_self]
  refine draw_intro [(x, #[.int .i64 4, .int .i64 2, .int .i64 M], []), (z, #[.int .u8 g0, .int .u8 g1], [])] (by simp only [hx1, hz1, ↓D0, ↓D1, ↓D2, ↓D3, ↓D4, ↓D5, ↓D6, ↓D7, ↓D8, ↓D9, U0, U1, U2, U3, U4, U5, U6, U7, U8, U9, U10, ↓reduceIte, Nat.reduceAdd, Nat.reduceMul, Nat.reduceSub, Nat.reduceEqDiff, Nat.reduceBEq, Nat.reduceLeDiff, Nat.reduceLT, Int.reduceAdd, Int.reduceMul, Int.reduceSub, Int.reduceLT, Int.reduceLE, Int.reduceToNat, Int.reduceEq, Int.reduceNe, Int.reduceBEq, Int.reduceBNe, ne_eq, eq_self]) ?_
  simp only [e9, e8, e0, e2, e4, e7, hx1, hz1, r1, r2, i0', i1', nxz, nzx, wrap_w64, eg0, eg1, em0, em1, ww0, ww1, ↓D0, ↓D1, ↓D2, ↓D3, ↓D4, ↓D5, ↓D6, ↓D7, ↓D8, ↓D9, U0, U1, U2, U3, U4, U5, U6, U7, U8, U9, U10, ↓reduceIte, Nat.reduceAdd, Nat.reduceMul, Nat.reduceSub, Nat.reduceEqDiff, Nat.reduceBEq, Nat.reduceLeDiff, Nat.reduceLT, Int.reduceAdd, Int.reduceMul, Int.reduceSub, Int.reduceLT, Int.reduceLE, Int.reduceToNat, Int.reduceEq, Int.reduceNe, Int.reduceBEq, Int.reduceBNe, ne_eq, eq_self]
  refine callT_of (c_tknew (sh := (⟨4, 2, M⟩ : Sh)) hS) ?_
  rintro v H' ⟨ka, rfl, hS⟩
  have hx1 := hS.lk 7 rfl
  have hz1 := hS.lk 8 rfl
  simp only [hx1, hz1, ↓D0, ↓D1, ↓D2, ↓D3, ↓D4, ↓D5, ↓D6, ↓D7, ↓D8, ↓D9, U0, U1, U2, U3, U4, U5, U6, U7, U8, U9, U10, ↓reduceIte, Nat.reduceAdd, Nat.reduceMul, Nat.reduceSub, Nat.reduceEqDiff, Nat.reduceBEq, Nat.reduceLeDiff, Nat.reduceLT, Int.reduceAdd, Int.reduceMul, Int.reduceSub, Int.reduceLT, Int.reduceLE, Int.reduceToNat, Int.reduceEq, Int.reduceNe, Int.reduceBEq, Int.reduceBNe, ne_eq, eq_self]
  refine callT_of (c_punew (sh := (⟨4, 2, M⟩ : Sh)) hS) ?_
  rintro v H' ⟨kb, rfl, hS⟩
  have hx1 := hS.lk 8 rfl
  have hz1 := hS.lk 9 rfl
  have r1 := fun o n => rdn_of hx1 o n
  have r2 := fun o => rd_of hz1 o
  simp only [hx1, hz1, ↓D0, ↓D1, ↓D2, ↓D3, ↓D4, ↓D5, ↓D6, ↓D7, ↓D8, ↓D9, U0, U1, U2, U3, U4, U5, U6, U7, U8, U9, U10, ↓reduceIte, Nat.reduceAdd, Nat.reduceMul, Nat.reduceSub, Nat.reduceEqDiff, Nat.reduceBEq, Nat.reduceLeDiff, Nat.reduceLT, Int.reduceAdd, Int.reduceMul, Int.reduceSub, Int.reduceLT, Int.reduceLE, Int.reduceToNat, Int.reduceEq, Int.reduceNe, Int.reduceBEq, Int.reduceBNe, ne_eq, eq_self]
  refine draw_intro [(x, #[.int .i64 4, .int .i64 2, .int .i64 M], []), (z, #[.int .u8 g0, .int .u8 g1], [])] (by simp only [hx1, hz1, ↓D0, ↓D1, ↓D2, ↓D3, ↓D4, ↓D5, ↓D6, ↓D7, ↓D8, ↓D9, U0, U1, U2, U3, U4, U5, U6, U7, U8, U9, U10, ↓reduceIte, Nat.reduceAdd, Nat.reduceMul, Nat.reduceSub, Nat.reduceEqDiff, Nat.reduceBEq, Nat.reduceLeDiff, Nat.reduceLT, Int.reduceAdd, Int.reduceMul, Int.reduceSub, Int.reduceLT, Int.reduceLE, Int.reduceToNat, Int.reduceEq, Int.reduceNe, Int.reduceBEq, Int.reduceBNe, ne_eq, eq_self]) ?_
  simp only [e9, e8, e0, e2, e4, e7, hx1, hz1, r1, r2, i0', i1', nxz, nzx, wrap_w64, eg0, eg1, em0, em1, ww0, ww1, ↓D0, ↓D1, ↓D2, ↓D3, ↓D4, ↓D5, ↓D6, ↓D7, ↓D8, ↓D9, U0, U1, U2, U3, U4, U5, U6, U7, U8, U9, U10, ↓reduceIte, Nat.reduceAdd, Nat.reduceMul, Nat.reduceSub, Nat.reduceEqDiff, Nat.reduceBEq, Nat.reduceLeDiff, Nat.reduceLT, Int.reduceAdd, Int.reduceMul, Int.reduceSub, Int.reduceLT, Int.reduceLE, Int.reduceToNat, Int.reduceEq, Int.reduceNe, Int.reduceBEq, Int.reduceBNe, ne_eq, eq_self]
  refine callT_of (c_tknew (sh := (⟨4, 2, M⟩ : Sh)) hS) ?_
  rintro v H' ⟨ku, rfl, hS⟩
  have hx1 := hS.lk 9 rfl
  have hz1 := hS.lk 10 rfl
  simp only [hx1, hz1, ↓D0, ↓D1, ↓D2, ↓D3, ↓D4, ↓D5, ↓D6, ↓D7, ↓D8, ↓D9, U0, U1, U2, U3, U4, U5, U6, U7, U8, U9, U10, ↓reduceIte, Nat.reduceAdd, Nat.reduceMul, Nat.reduceSub, Nat.reduceEqDiff, Nat.reduceBEq, Nat.reduceLeDiff, Nat.reduceLT, Int.reduceAdd, Int.reduceMul, Int.reduceSub, Int.reduceLT, Int.reduceLE, Int.reduceToNat, Int.reduceEq, Int.reduceNe, Int.reduceBEq, Int.reduceBNe, ne_eq, eq_self]
  refine callT_of (c_punew (sh := (⟨4, 2, M⟩ : Sh)) hS) ?_
  rintro v H' ⟨kv, rfl, hS⟩
  have hx1 := hS.lk 10 rfl
  have hz1 := hS.lk 11 rfl
  simp only [hx1, hz1, ↓D0, ↓D1, ↓D2, ↓D3, ↓D4, ↓D5, ↓D6, ↓D7, ↓D8, ↓D9, U0, U1, U2, U3, U4, U5, U6, U7, U8, U9, U10, ↓reduceIte, Nat.reduceAdd, Nat.reduceMul, Nat.reduceSub, Nat.reduceEqDiff, Nat.reduceBEq, Nat.reduceLeDiff, Nat.reduceLT, Int.reduceAdd, Int.reduceMul, Int.reduceSub, Int.reduceLT, Int.reduceLE, Int.reduceToNat, Int.reduceEq, Int.reduceNe, Int.reduceBEq, Int.reduceBNe, ne_eq, eq_self]
  obtain ⟨a0, ha0⟩ : ∃ a0, a0 = Tk.new (⟨4, 2, M⟩ : Sh) 0 (g0 % 4) := ⟨_, rfl⟩
  obtain ⟨b0, hb0⟩ : ∃ b0, b0 = Pu.new (⟨4, 2, M⟩ : Sh) 1 (g1 % 4) ((w64 (g1.fdiv (2 ^ min 2 IntKind.u8.bits))).tmod 2) 3 := ⟨_, rfl⟩
  rw [← ha0, ← hb0] at hS
  have la : a0.left ≤ M + 1 := by rw [ha0]; exact tk_left0 _ _ _ Mb.1
  have lb : b0.left ≤ M + 1 := by rw [hb0]; exact pu_left0 _ _ _ _ _ Mb.1
  have hT : TwoInv (⟨4, 2, M⟩ : Sh) w0 a0 b0 0 0 a0 b0 w0 := TwoInv.start hof hm (by show (2 : Int) ≤ 2; omega) (by rw [ha0]; exact ⟨Tk.new_wf _ _ _, rfl, rfl⟩) (by rw [hb0]; exact ⟨Pu.new_wf _ _ _ _ _, rfl, rfl⟩)
  have hS := hS.p5.p5.p2.p7.p7.p5.p9.p9.p8.p9
  refine loop_intro (mt3 M w0 a0 b0 n n2 cap cap2 a a2 z x b1 b2 b3 ka kb ku kv s1 (tkB ku a0 :: wB b2 s2 w0 :: wR s2 w0 :: puB kv b0 :: wB b3 s3 w0 :: wR s3 w0 :: sg x (.cells #[.int .i64 4, .int .i64 2, .int .i64 M] 57 (0, 0)) :: sg z (.cells #[.int .u8 g0, .int .u8 g1] 54 (0, 0)) :: h :: l)) (fun F' _ => (n2 - iv (gt F' 18)).toNat)
    ⟨0, 0, 0, _, _, _, by omega, rfl, ⟨by simp [gt, e0], by simp [gt, e2], by simp [gt, e4], by simp [gt, e7]⟩, ⟨rfl, rfl, rfl, rfl, rfl, rfl, rfl⟩, hT, hS⟩ ?_
  rintro F' H' ⟨i, ia, jb, t, u, w, i1, e18, ⟨e0, e2, e4, e7⟩, ⟨e11, e12, e13, e14, e15, e16, e17⟩, hT, hS⟩
  obtain ⟨ta, tsa, -⟩ := hT.wfa
  obtain ⟨tb, tsb, -⟩ := hT.wfb
  by_cases hlt : i < n2
  · have d1 : decide ((i : Int) < (n2 : Int)) = true := decide_eq_true (by omega)
    have d2 : (0 : Int) ≤ (i : Int) := by omega
    have d3 : (i : Int) < (n2 : Int) := by omega
    have wi : w64 ((i : Int) + 1) = ((i + 1 : Nat) : Int) := by rw [w64_eq (by omega) (by omega)]; omega
    obtain ⟨xb, xo, rfl, hrd⟩ := (hrB.sub (hS.sb h (by simp))).at' hlt
    cases hB : B i
    · rw [hB] at hrd
      simp only [e18, e0, e2, e4, e7, e11, e12, e13, e14, e15, e16, e17, d1, d2, d3, hrd, Int.toNat_natCast, ↓D0, ↓D1, ↓D2, ↓D3, ↓D4, ↓D5, ↓D6, ↓D7, ↓D8, ↓D9, U0, U1, U2, U3, U4, U5, U6, U7, U8, U9, U10, ↓reduceIte, Nat.reduceAdd, Nat.reduceMul, Nat.reduceSub, Nat.reduceEqDiff, Nat.reduceBEq, Nat.reduceLeDiff, Nat.reduceLT, Int.reduceAdd, Int.reduceMul, Int.reduceSub, Int.reduceLT, Int.reduceLE, Int.reduceToNat, Int.reduceEq, Int.reduceNe, Int.reduceBEq, Int.reduceBNe, ne_eq, eq_self]
      refine callT_of (c_tkstep ta (fun _ => by rw [tsa]; exact hT.of) hS.p1.r3) ?_
      rintro v H' ⟨rfl, hS⟩
      simp only [e18, e0, e2, e4, e7, e11, e12, e13, e14, e15, e16, e17, wrap_w64, wi, ↓D0, ↓D1, ↓D2, ↓D3, ↓D4, ↓D5, ↓D6, ↓D7, ↓D8, ↓D9, U0, U1, U2, U3, U4, U5, U6, U7, U8, U9, U10, ↓reduceIte, Nat.reduceAdd, Nat.reduceMul, Nat.reduceSub, Nat.reduceEqDiff, Nat.reduceBEq, Nat.reduceLeDiff, Nat.reduceLT, Int.reduceAdd, Int.reduceMul, Int.reduceSub, Int.reduceLT, Int.reduceLE, Int.reduceToNat, Int.reduceEq, Int.reduceNe, Int.reduceBEq, Int.reduceBNe, ne_eq, eq_self]
      exact ⟨⟨i + 1, ia + 1, jb, _, _, _, by omega, by simp [gt], ⟨by simp [gt, e0], by simp [gt, e2], by simp [gt, e4], by simp [gt, e7]⟩, ⟨by simp [gt, e11], by simp [gt, e12], by simp [gt, e13], by simp [gt, e14], by simp [gt, e15], by simp [gt, e16], by simp [gt, e17]⟩, hT.stepA, hS.p3.p1⟩, by simp [gt, iv, e18]; omega⟩
    · rw [hB] at hrd
      simp only [e18, e0, e2, e4, e7, e11, e12, e13, e14, e15, e16, e17, d1, d2, d3, hrd, Int.toNat_natCast, ↓D0, ↓D1, ↓D2, ↓D3, ↓D4, ↓D5, ↓D6, ↓D7, ↓D8, ↓D9, U0, U1, U2, U3, U4, U5, U6, U7, U8, U9, U10, ↓reduceIte, Nat.reduceAdd, Nat.reduceMul, Nat.reduceSub, Nat.reduceEqDiff, Nat.reduceBEq, Nat.reduceLeDiff, Nat.reduceLT, Int.reduceAdd, Int.reduceMul, Int.reduceSub, Int.reduceLT, Int.reduceLE, Int.reduceToNat, Int.reduceEq, Int.reduceNe, Int.reduceBEq, Int.reduceBNe, ne_eq, eq_self]
      refine callT_of (c_pustep tb (fun _ => by rw [tsb]; exact hT.of) hS.r3) ?_
      rintro v H' ⟨rfl, hS⟩
      simp only [e18, e0, e2, e4, e7, e11, e12, e13, e14, e15, e16, e17, wrap_w64, wi, ↓D0, ↓D1, ↓D2, ↓D3, ↓D4, ↓D5, ↓D6, ↓D7, ↓D8, ↓D9, U0, U1, U2, U3, U4, U5, U6, U7, U8, U9, U10, ↓reduceIte, Nat.reduceAdd, Nat.reduceMul, Nat.reduceSub, Nat.reduceEqDiff, Nat.reduceBEq, Nat.reduceLeDiff, Nat.reduceLT, Int.reduceAdd, Int.reduceMul, Int.reduceSub, Int.reduceLT, Int.reduceLE, Int.reduceToNat, Int.reduceEq, Int.reduceNe, Int.reduceBEq, Int.reduceBNe, ne_eq, eq_self]
      exact ⟨⟨i + 1, ia, jb + 1, _, _, _, by omega, by simp [gt], ⟨by simp [gt, e0], by simp [gt, e2], by simp [gt, e4], by simp [gt, e7]⟩, ⟨by simp [gt, e11], by simp [gt, e12], by simp [gt, e13], by simp [gt, e14], by simp [gt, e15], by simp [gt, e16], by simp [gt, e17]⟩, hT.stepB, hS.p3⟩, by simp [gt, iv, e18]; omega⟩
  have d1 : decide ((i : Int) < (n2 : Int)) = false := decide_eq_false (by omega)
  simp only [e18, e0, e2, e4, e7, e11, e12, e13, e14, e15, e16, e17, d1, ↓D0, ↓D1, ↓D2, ↓D3, ↓D4, ↓D5, ↓D6, ↓D7, ↓D8, ↓D9, U0, U1, U2, U3, U4, U5, U6, U7, U8, U9, U10, ↓reduceIte, Nat.reduceAdd, Nat.reduceMul, Nat.reduceSub, Nat.reduceEqDiff, Nat.reduceBEq, Nat.reduceLeDiff, Nat.reduceLT, Int.reduceAdd, Int.reduceMul, Int.reduceSub, Int.reduceLT, Int.reduceLE, Int.reduceToNat, Int.reduceEq, Int.reduceNe, Int.reduceBEq, Int.reduceBNe, ne_eq, eq_self]
  have wM2 : w64 (M + 2) = M + 2 := w64_eq (by omega) (by omega)
  refine loop_intro (mt4 M w0 a0 b0 n n2 cap cap2 a a2 z x b1 b2 b3 ka kb ku kv s1 s2 s3 (sg x (.cells #[.int .i64 4, .int .i64 2, .int .i64 M] 57 (0, 0)) :: sg z (.cells #[.int .u8 g0, .int .u8 g1] 54 (0, 0)) :: h :: l)) (fun F' _ => (M + 2 - iv (gt F' 19)).toNat)
    ⟨0, ia, jb, t, u, w, by show (0 : Int) ≤ M + 2; omega, by omega, by omega, by simp [gt], ⟨by simp [gt, e0], by simp [gt, e2], by simp [gt, e4], by simp [gt, e7]⟩, ⟨by simp [gt, e11], by simp [gt, e12], by simp [gt, e13], by simp [gt, e14], by simp [gt, e15], by simp [gt, e16], by simp [gt, e17]⟩, hT, hS⟩ ?_
  rintro F' H' ⟨i, ia, jb, t, u, w, i1, i2, i3, e19, ⟨e0, e2, e4, e7⟩, ⟨e11, e12, e13, e14, e15, e16, e17⟩, hT, hS⟩
  obtain ⟨ta, tsa, -⟩ := hT.wfa
  obtain ⟨tb, tsb, -⟩ := hT.wfb
  have hx1 := hS.lk 10 rfl
  have r0 := fun o => rd_of hx1 o
  by_cases hlt : (i : Int) < M + 2
  · have d1 : decide ((i : Int) < M + 2) = true := decide_eq_true hlt
    have wi : w64 ((i : Int) + 1) = ((i + 1 : Nat) : Int) := by rw [w64_eq (by omega) (by omega)]; omega
    have hT2 := hT.stepA
    obtain ⟨tb2, tsb2, -⟩ := hT2.wfb
    have ua := Tk.its_wf (w := w0) hT.ga.1 i
    have us : (its Tk.step i a0 w0).1.s = (⟨4, 2, M⟩ : Sh) := (Tk.its_s i).trans hT.ga.2.1
    have uo := Tk.its_of (t := a0) hof i
    have va := Pu.its_wf (w := w0) hT.gb.1 i
    have vs : (its Pu.step i b0 w0).1.s = (⟨4, 2, M⟩ : Sh) := (Pu.its_s i).trans hT.gb.2.1
    have vo := Pu.its_of (t := b0) hof i
    simp only [e19, e0, e2, e4, e7, e11, e12, e13, e14, e15, e16, e17, d1, hx1, r0, wrap_w64, wM2, ↓D0, ↓D1, ↓D2, ↓D3, ↓D4, ↓D5, ↓D6, ↓D7, ↓D8, ↓D9, U0, U1, U2, U3, U4, U5, U6, U7, U8, U9, U10, ↓reduceIte, Nat.reduceAdd, Nat.reduceMul, Nat.reduceSub, Nat.reduceEqDiff, Nat.reduceBEq, Nat.reduceLeDiff, Nat.reduceLT, Int.reduceAdd, Int.reduceMul, Int.reduceSub, Int.reduceLT, Int.reduceLE, Int.reduceToNat, Int.reduceEq, Int.reduceNe, Int.reduceBEq, Int.reduceBNe, ne_eq, eq_self]
    refine callT_of (c_tkstep ta (fun _ => by rw [tsa]; exact hT.of) hS.p1.r3) ?_
    rintro v H' ⟨rfl, hS⟩
    simp only [e19, e0, e2, e4, e7, e11, e12, e13, e14, e15, e16, e17, ↓D0, ↓D1, ↓D2, ↓D3, ↓D4, ↓D5, ↓D6, ↓D7, ↓D8, ↓D9, U0, U1, U2, U3, U4, U5, U6, U7, U8, U9, U10, ↓reduceIte, Nat.reduceAdd, Nat.reduceMul, Nat.reduceSub, Nat.reduceEqDiff, Nat.reduceBEq, Nat.reduceLeDiff, Nat.reduceLT, Int.reduceAdd, Int.reduceMul, Int.reduceSub, Int.reduceLT, Int.reduceLE, Int.reduceToNat, Int.reduceEq, Int.reduceNe, Int.reduceBEq, Int.reduceBNe, ne_eq, eq_self]
    refine callT_of (c_pustep tb (fun _ => by rw [tsb]; exact hT2.of) hS.p3.p1.r3) ?_
    rintro v H' ⟨rfl, hS⟩
    have hS := hS.p3
    simp only [e19, e0, e2, e4, e7, e11, e12, e13, e14, e15, e16, e17, ↓D0, ↓D1, ↓D2, ↓D3, ↓D4, ↓D5, ↓D6, ↓D7, ↓D8, ↓D9, U0, U1, U2, U3, U4, U5, U6, U7, U8, U9, U10, ↓reduceIte, Nat.reduceAdd, Nat.reduceMul, Nat.reduceSub, Nat.reduceEqDiff, Nat.reduceBEq, Nat.reduceLeDiff, Nat.reduceLT, Int.reduceAdd, Int.reduceMul, Int.reduceSub, Int.reduceLT, Int.reduceLE, Int.reduceToNat, Int.reduceEq, Int.reduceNe, Int.reduceBEq, Int.reduceBNe, ne_eq, eq_self]
    refine callT_of (c_tkstep ua (fun _ => by rw [us]; exact uo) hS.p6.p6.p6) ?_
    rintro v H' ⟨rfl, hS⟩
    simp only [e19, e0, e2, e4, e7, e11, e12, e13, e14, e15, e16, e17, ↓D0, ↓D1, ↓D2, ↓D3, ↓D4, ↓D5, ↓D6, ↓D7, ↓D8, ↓D9, U0, U1, U2, U3, U4, U5, U6, U7, U8, U9, U10, ↓reduceIte, Nat.reduceAdd, Nat.reduceMul, Nat.reduceSub, Nat.reduceEqDiff, Nat.reduceBEq, Nat.reduceLeDiff, Nat.reduceLT, Int.reduceAdd, Int.reduceMul, Int.reduceSub, Int.reduceLT, Int.reduceLE, Int.reduceToNat, Int.reduceEq, Int.reduceNe, Int.reduceBEq, Int.reduceBNe, ne_eq, eq_self]
    refine callT_of (c_pustep va (fun _ => by rw [vs]; exact vo) hS.p9.p9.p9) ?_
    rintro v H' ⟨rfl, hS⟩
    simp only [e19, e0, e2, e4, e7, e11, e12, e13, e14, e15, e16, e17, wrap_w64, wi, ↓D0, ↓D1, ↓D2, ↓D3, ↓D4, ↓D5, ↓D6, ↓D7, ↓D8, ↓D9, U0, U1, U2, U3, U4, U5, U6, U7, U8, U9, U10, ↓reduceIte, Nat.reduceAdd, Nat.reduceMul, Nat.reduceSub, Nat.reduceEqDiff, Nat.reduceBEq, Nat.reduceLeDiff, Nat.reduceLT, Int.reduceAdd, Int.reduceMul, Int.reduceSub, Int.reduceLT, Int.reduceLE, Int.reduceToNat, Int.reduceEq, Int.reduceNe, Int.reduceBEq, Int.reduceBNe, ne_eq, eq_self]
    exact ⟨⟨i + 1, ia + 1, jb + 1, _, _, _, by omega, by omega, by omega, by simp [gt], ⟨by simp [gt, e0], by simp [gt, e2], by simp [gt, e4], by simp [gt, e7]⟩, ⟨by simp [gt, e11], by simp [gt, e12], by simp [gt, e13], by simp [gt, e14], by simp [gt, e15], by simp [gt, e16], by simp [gt, e17]⟩, hT2.stepB, hS.p5.p5.p5.p9.p9.p9.p9⟩, by simp [gt, iv, e19]; omega⟩
  have d1 : decide ((i : Int) < M + 2) = false := decide_eq_false hlt
  obtain ⟨dA, dB, eA, eB, sA, sB⟩ := hT.both (by show M + 1 ≤ (ia : Int); omega) (by show M + 1 ≤ (jb : Int); omega) (n := i) (by show M + 1 ≤ (i : Int); omega) la lb
  subst eA
  subst eB
  obtain ⟨tu, htu⟩ : ∃ tu, (its Tk.step i a0 w0).1 = tu := ⟨_, rfl⟩
  obtain ⟨tv, htv⟩ : ∃ tu, (its Pu.step i b0 w0).1 = tu := ⟨_, rfl⟩
  obtain ⟨w2, hw2⟩ : ∃ tu, (its Tk.step i a0 w0).2 = tu := ⟨_, rfl⟩
  obtain ⟨w3, hw3⟩ : ∃ tu, (its Pu.step i b0 w0).2 = tu := ⟨_, rfl⟩
  have of2 : w2.of (⟨4, 2, M⟩ : Sh) := by rw [← hw2]; exact Tk.its_of (t := a0) hof i
  have of3 : w3.of (⟨4, 2, M⟩ : Sh) := by rw [← hw3]; exact Pu.its_of (t := b0) hof i
  have of1 := hT.of
  rw [htu] at dA
  rw [htv] at dB
  rw [hw2] at sA
  rw [hw3] at sB
  rw [htu, htv, hw2, hw3] at hS
  have q1 : ((if tu.fd = true then tu.ep else 0) != (if tu.fd = true then tu.ep else 0)) = false := by simp
  have q2 : ((if tu.fd = true then tu.es else 0) != (if tu.fd = true then tu.es else 0)) = false := by simp
  have q3 : (tu.fd != tu.fd) = false := by simp
  have q4 : (tv.put != tv.put) = false := by simp
  simp only [e19, e0, e2, e4, e7, e11, e12, e13, e14, e15, e16, e17, d1, hx1, r0, wrap_w64, wM2, ↓D0, ↓D1, ↓D2, ↓D3, ↓D4, ↓D5, ↓D6, ↓D7, ↓D8, ↓D9, U0, U1, U2, U3, U4, U5, U6, U7, U8, U9, U10, ↓reduceIte, Nat.reduceAdd, Nat.reduceMul, Nat.reduceSub, Nat.reduceEqDiff, Nat.reduceBEq, Nat.reduceLeDiff, Nat.reduceLT, Int.reduceAdd, Int.reduceMul, Int.reduceSub, Int.reduceLT, Int.reduceLE, Int.reduceToNat, Int.reduceEq, Int.reduceNe, Int.reduceBEq, Int.reduceBNe, ne_eq, eq_self]
  refine callT_of (c_tkfound hS) ?_
  rintro v H' ⟨rfl, hS⟩
  simp only [e19, e0, e2, e4, e7, e11, e12, e13, e14, e15, e16, e17, ↓D0, ↓D1, ↓D2, ↓D3, ↓D4, ↓D5, ↓D6, ↓D7, ↓D8, ↓D9, U0, U1, U2, U3, U4, U5, U6, U7, U8, U9, U10, ↓reduceIte, Nat.reduceAdd, Nat.reduceMul, Nat.reduceSub, Nat.reduceEqDiff, Nat.reduceBEq, Nat.reduceLeDiff, Nat.reduceLT, Int.reduceAdd, Int.reduceMul, Int.reduceSub, Int.reduceLT, Int.reduceLE, Int.reduceToNat, Int.reduceEq, Int.reduceNe, Int.reduceBEq, Int.reduceBNe, ne_eq, eq_self]
  refine callT_of (c_tkfound hS.p4) ?_
  rintro v H' ⟨rfl, hS⟩
  simp only [e19, e0, e2, e4, e7, e11, e12, e13, e14, e15, e16, e17, ↓D0, ↓D1, ↓D2, ↓D3, ↓D4, ↓D5, ↓D6, ↓D7, ↓D8, ↓D9, U0, U1, U2, U3, U4, U5, U6, U7, U8, U9, U10, ↓reduceIte, Nat.reduceAdd, Nat.reduceMul, Nat.reduceSub, Nat.reduceEqDiff, Nat.reduceBEq, Nat.reduceLeDiff, Nat.reduceLT, Int.reduceAdd, Int.reduceMul, Int.reduceSub, Int.reduceLT, Int.reduceLE, Int.reduceToNat, Int.reduceEq, Int.reduceNe, Int.reduceBEq, Int.reduceBNe, ne_eq, eq_self]
  refine callT_of (c_tkdone hS.p1) ?_
  rintro v H' ⟨rfl, hS⟩
  simp only [e19, e0, e2, e4, e7, e11, e12, e13, e14, e15, e16, e17, dA, ↓D0, ↓D1, ↓D2, ↓D3, ↓D4, ↓D5, ↓D6, ↓D7, ↓D8, ↓D9, U0, U1, U2, U3, U4, U5, U6, U7, U8, U9, U10, ↓reduceIte, Nat.reduceAdd, Nat.reduceMul, Nat.reduceSub, Nat.reduceEqDiff, Nat.reduceBEq, Nat.reduceLeDiff, Nat.reduceLT, Int.reduceAdd, Int.reduceMul, Int.reduceSub, Int.reduceLT, Int.reduceLE, Int.reduceToNat, Int.reduceEq, Int.reduceNe, Int.reduceBEq, Int.reduceBNe, ne_eq, eq_self]
  refine callT_of (c_pudone hS.p2) ?_
  rintro v H' ⟨rfl, hS⟩
  simp only [e19, e0, e2, e4, e7, e11, e12, e13, e14, e15, e16, e17, dB, q1, q2, q3, ↓D0, ↓D1, ↓D2, ↓D3, ↓D4, ↓D5, ↓D6, ↓D7, ↓D8, ↓D9, U0, U1, U2, U3, U4, U5, U6, U7, U8, U9, U10, ↓reduceIte, Nat.reduceAdd, Nat.reduceMul, Nat.reduceSub, Nat.reduceEqDiff, Nat.reduceBEq, Nat.reduceLeDiff, Nat.reduceLT, Int.reduceAdd, Int.reduceMul, Int.reduceSub, Int.reduceLT, Int.reduceLE, Int.reduceToNat, Int.reduceEq, Int.reduceNe, Int.reduceBEq, Int.reduceBNe, ne_eq, eq_self]
  refine callT_of (c_puput hS) ?_
  rintro v H' ⟨rfl, hS⟩
  simp only [e19, e0, e2, e4, e7, e11, e12, e13, e14, e15, e16, e17, ↓D0, ↓D1, ↓D2, ↓D3, ↓D4, ↓D5, ↓D6, ↓D7, ↓D8, ↓D9, U0, U1, U2, U3, U4, U5, U6, U7, U8, U9, U10, ↓reduceIte, Nat.reduceAdd, Nat.reduceMul, Nat.reduceSub, Nat.reduceEqDiff, Nat.reduceBEq, Nat.reduceLeDiff, Nat.reduceLT, Int.reduceAdd, Int.reduceMul, Int.reduceSub, Int.reduceLT, Int.reduceLE, Int.reduceToNat, Int.reduceEq, Int.reduceNe, Int.reduceBEq, Int.reduceBNe, ne_eq, eq_self]
  refine callT_of (c_puput hS.p7) ?_
  rintro v H' ⟨rfl, hS⟩
  simp only [e19, e0, e2, e4, e7, e11, e12, e13, e14, e15, e16, e17, q4, ↓D0, ↓D1, ↓D2, ↓D3, ↓D4, ↓D5, ↓D6, ↓D7, ↓D8, ↓D9, U0, U1, U2, U3, U4, U5, U6, U7, U8, U9, U10, ↓reduceIte, Nat.reduceAdd, Nat.reduceMul, Nat.reduceSub, Nat.reduceEqDiff, Nat.reduceBEq, Nat.reduceLeDiff, Nat.reduceLT, Int.reduceAdd, Int.reduceMul, Int.reduceSub, Int.reduceLT, Int.reduceLE, Int.reduceToNat, Int.reduceEq, Int.reduceNe, Int.reduceBEq, Int.reduceBNe, ne_eq, eq_self]
  have hS := hS.tail.tail.tail.tail
  refine loop_intro (mt5 M x b1 b2 b3 (wB b1 s1 w :: wR s1 w :: wB b2 s2 w2 :: wR s2 w2 :: wB b3 s3 w3 :: wR s3 w3 :: sg x (.cells #[.int .i64 4, .int .i64 2, .int .i64 M] 57 (0, 0)) :: sg z (.cells #[.int .u8 g0, .int .u8 g1] 54 (0, 0)) :: h :: l)) (fun F' _ => (M - iv (gt F' 26)).toNat)
    ⟨0, by omega, by omega, by simp [gt], by simp [gt, e7], by simp [gt, e11], by simp [gt, e12], by simp [gt, e13], hS⟩ ?_
  rintro F' H' ⟨j, j0, j1, e26, e7, e11, e12, e13, hS⟩
  have hx1 := hS.lk 6 rfl
  have r0 := fun o => rd_of hx1 o
  by_cases hjl : j < M
  · have d2 : decide (j < M) = true := decide_eq_true hjl
    have wj : w64 (j + 1) = j + 1 := w64_eq (by omega) (by omega)
    have m0 := fun {w : Wd} (hw : w.of (⟨4, 2, M⟩ : Sh)) => mag_in hw hm (i := 0) (j := j) (by decide) (by show (0 : Int) < 2; decide) j0 hjl
    have m1 := fun {w : Wd} (hw : w.of (⟨4, 2, M⟩ : Sh)) => mag_in hw hm (i := 1) (j := j) (by decide) (by show (1 : Int) < 2; decide) j0 hjl
    have c1 : (w.get (mag 4 2 M 0 j) != w2.get (mag 4 2 M 0 j)) = false := by rw [show w.get (mag 4 2 M 0 j) = w2.get (mag 4 2 M 0 j) from sA j j0 hjl]; simp
    have c2 : (w.get (mag 4 2 M 1 j) != w3.get (mag 4 2 M 1 j)) = false := by rw [show w.get (mag 4 2 M 1 j) = w3.get (mag 4 2 M 1 j) from sB j j0 hjl]; simp
    have r1 := fun o n => rdn_of hx1 o n
    simp only [e26, e7, e11, e12, e13, d2, hx1, r0, ↓D0, ↓D1, ↓D2, ↓D3, ↓D4, ↓D5, ↓D6, ↓D7, ↓D8, ↓D9, U0, U1, U2, U3, U4, U5, U6, U7, U8, U9, U10, ↓reduceIte, Nat.reduceAdd, Nat.reduceMul, Nat.reduceSub, Nat.reduceEqDiff, Nat.reduceBEq, Nat.reduceLeDiff, Nat.reduceLT, Int.reduceAdd, Int.reduceMul, Int.reduceSub, Int.reduceLT, Int.reduceLE, Int.reduceToNat, Int.reduceEq, Int.reduceNe, Int.reduceBEq, Int.reduceBNe, ne_eq, eq_self]
    refine draw_intro [(x, #[.int .i64 4, .int .i64 2, .int .i64 M], [])] (by simp only [hx1, ↓D0, ↓D1, ↓D2, ↓D3, ↓D4, ↓D5, ↓D6, ↓D7, ↓D8, ↓D9, U0, U1, U2, U3, U4, U5, U6, U7, U8, U9, U10, ↓reduceIte, Nat.reduceAdd, Nat.reduceMul, Nat.reduceSub, Nat.reduceEqDiff, Nat.reduceBEq, Nat.reduceLeDiff, Nat.reduceLT, Int.reduceAdd, Int.reduceMul, Int.reduceSub, Int.reduceLT, Int.reduceLE, Int.reduceToNat, Int.reduceEq, Int.reduceNe, Int.reduceBEq, Int.reduceBNe, ne_eq, eq_self]) ?_
    simp only [e26, e7, e11, e12, e13, hx1, r1, u_mag, ↓D0, ↓D1, ↓D2, ↓D3, ↓D4, ↓D5, ↓D6, ↓D7, ↓D8, ↓D9, U0, U1, U2, U3, U4, U5, U6, U7, U8, U9, U10, ↓reduceIte, Nat.reduceAdd, Nat.reduceMul, Nat.reduceSub, Nat.reduceEqDiff, Nat.reduceBEq, Nat.reduceLeDiff, Nat.reduceLT, Int.reduceAdd, Int.reduceMul, Int.reduceSub, Int.reduceLT, Int.reduceLE, Int.reduceToNat, Int.reduceEq, Int.reduceNe, Int.reduceBEq, Int.reduceBNe, ne_eq, eq_self]
    refine callT_of (c_look (mag 4 2 M 0 j) (m0 of1).1 (m0 of1).2 hS) ?_
    rintro v H' ⟨rfl, hS⟩
    have hx1 := hS.lk 6 rfl
    have r1 := fun o n => rdn_of hx1 o n
    simp only [e26, e7, e11, e12, e13, hx1, r1, u_mag, ↓D0, ↓D1, ↓D2, ↓D3, ↓D4, ↓D5, ↓D6, ↓D7, ↓D8, ↓D9, U0, U1, U2, U3, U4, U5, U6, U7, U8, U9, U10, ↓reduceIte, Nat.reduceAdd, Nat.reduceMul, Nat.reduceSub, Nat.reduceEqDiff, Nat.reduceBEq, Nat.reduceLeDiff, Nat.reduceLT, Int.reduceAdd, Int.reduceMul, Int.reduceSub, Int.reduceLT, Int.reduceLE, Int.reduceToNat, Int.reduceEq, Int.reduceNe, Int.reduceBEq, Int.reduceBNe, ne_eq, eq_self]
    refine callT_of (c_look (mag 4 2 M 0 j) (m0 of2).1 (m0 of2).2 hS.p3.p3) ?_
    rintro v H' ⟨rfl, hS⟩
    have hx1 := hS.lk 6 rfl
    have r1 := fun o n => rdn_of hx1 o n
    simp only [e26, e7, e11, e12, e13, hx1, r1, c1, u_mag, ↓D0, ↓D1, ↓D2, ↓D3, ↓D4, ↓D5, ↓D6, ↓D7, ↓D8, ↓D9, U0, U1, U2, U3, U4, U5, U6, U7, U8, U9, U10, ↓reduceIte, Nat.reduceAdd, Nat.reduceMul, Nat.reduceSub, Nat.reduceEqDiff, Nat.reduceBEq, Nat.reduceLeDiff, Nat.reduceLT, Int.reduceAdd, Int.reduceMul, Int.reduceSub, Int.reduceLT, Int.reduceLE, Int.reduceToNat, Int.reduceEq, Int.reduceNe, Int.reduceBEq, Int.reduceBNe, ne_eq, eq_self]
    refine callT_of (c_look (mag 4 2 M 1 j) (m1 of1).1 (m1 of1).2 hS.p3.p3) ?_
    rintro v H' ⟨rfl, hS⟩
    have hx1 := hS.lk 6 rfl
    have r1 := fun o n => rdn_of hx1 o n
    simp only [e26, e7, e11, e12, e13, hx1, r1, u_mag, ↓D0, ↓D1, ↓D2, ↓D3, ↓D4, ↓D5, ↓D6, ↓D7, ↓D8, ↓D9, U0, U1, U2, U3, U4, U5, U6, U7, U8, U9, U10, ↓reduceIte, Nat.reduceAdd, Nat.reduceMul, Nat.reduceSub, Nat.reduceEqDiff, Nat.reduceBEq, Nat.reduceLeDiff, Nat.reduceLT, Int.reduceAdd, Int.reduceMul, Int.reduceSub, Int.reduceLT, Int.reduceLE, Int.reduceToNat, Int.reduceEq, Int.reduceNe, Int.reduceBEq, Int.reduceBNe, ne_eq, eq_self]
    refine callT_of (c_look (mag 4 2 M 1 j) (m1 of3).1 (m1 of3).2 hS.p5.p5) ?_
    rintro v H' ⟨rfl, hS⟩
    have hx1 := hS.lk 6 rfl
    have r1 := fun o n => rdn_of hx1 o n
    simp only [e26, e7, e11, e12, e13, hx1, r1, c2, wrap_w64, wj, ↓D0, ↓D1, ↓D2, ↓D3, ↓D4, ↓D5, ↓D6, ↓D7, ↓D8, ↓D9, U0, U1, U2, U3, U4, U5, U6, U7, U8, U9, U10, ↓reduceIte, Nat.reduceAdd, Nat.reduceMul, Nat.reduceSub, Nat.reduceEqDiff, Nat.reduceBEq, Nat.reduceLeDiff, Nat.reduceLT, Int.reduceAdd, Int.reduceMul, Int.reduceSub, Int.reduceLT, Int.reduceLE, Int.reduceToNat, Int.reduceEq, Int.reduceNe, Int.reduceBEq, Int.reduceBNe, ne_eq, eq_self]
    exact ⟨⟨j + 1, by omega, by omega, by simp [gt], by simp [gt, e7], by simp [gt, e11], by simp [gt, e12], by simp [gt, e13], hS.p5.p5.p5.p5⟩, by simp [gt, iv, e26]; omega⟩
  have d2 : decide (j < M) = false := decide_eq_false hjl
  simp only [e26, e7, e11, e12, e13, d2, hx1, r0, ↓D0, ↓D1, ↓D2, ↓D3, ↓D4, ↓D5, ↓D6, ↓D7, ↓D8, ↓D9, U0, U1, U2, U3, U4, U5, U6, U7, U8, U9, U10, ↓reduceIte, Nat.reduceAdd, Nat.reduceMul, Nat.reduceSub, Nat.reduceEqDiff, Nat.reduceBEq, Nat.reduceLeDiff, Nat.reduceLT, Int.reduceAdd, Int.reduceMul, Int.reduceSub, Int.reduceLT, Int.reduceLE, Int.reduceToNat, Int.reduceEq, Int.reduceNe, Int.reduceBEq, Int.reduceBNe, ne_eq, eq_self]
  exact hS.tail.tail.tail.tail.tail.tail.tail.tail
end

theorem l_magtwo {W : World} {a a2 : Option Addr} {n n2 cap cap2 : Nat} {ws : Nat → Int} {B : Nat → Bool} (hn : n ≤ 9223372036854775807) (hr : RowU (memOf W) a n ws) (hU : ∀ i, i < n → IntKind.u64.has (ws i)) (g0 g1 : Int) (hg : 0 ≤ g0 ∧ g0 ≤ 255) (hk : 0 ≤ g1 ∧ g1 ≤ 255) (hn2 : n2 ≤ 9223372036854775807) (hrB : RowV (memOf W) a2 n2 (fun i => .bool (B i))) :
    CallP Try.prog W 17 #[.slice a n cap, .agg #[.int .u8 g0, .int .u8 g1], .slice a2 n2 cap2] (memOf W) fun v H' => v = .bool true ∧ Sub (memOf W) H' :=
  (c_magtwo hg.1 hg.2 hk.1 hk.2 hn hr (fun i hi => u64_bd (hU i hi)) hrB (Sep.one _)).mono fun v H' ⟨h1, h2⟩ => ⟨h1, h2.head⟩
end Go.Proofs.Ytfapipblclikbaa
