/-
  RunTwo, walked: two that look for rows of pages. Conditions: none.
-/
import Derived.Test.YtbehnodllajnjaaRunK
import Derived.Test.YtbehnodllajnjaaRowV
import Derived.Test.YtbehnodllajnjaaMaRunTwo
set_option linter.unusedVariables false
set_option linter.unusedSimpArgs false
set_option maxRecDepth 8000
namespace Go.Proofs.Ytbehnodllajnjaa
open Go Go.Ev Go.Pl Go.Ma

theorem pos_cases (f : Bool) (i p x : Int) : (f = true ∧ (i == p) = true ∧ i = p) ∨ (f = true ∧ (i == p) = false ∧ decide (p < i) = true ∧ decide (i < p + x) = true ∧ p < i ∧ i < p + x) ∨
    (f = true ∧ (i == p) = false ∧ decide (p < i) = true ∧ decide (i < p + x) = false ∧ ¬ (p ≤ i ∧ i < p + x)) ∨ (f = true ∧ (i == p) = false ∧ decide (p < i) = false ∧ ¬ (p ≤ i ∧ i < p + x)) ∨ f = false := by
  cases f
  · exact .inr (.inr (.inr (.inr rfl)))
  by_cases h1 : i = p
  · exact .inl ⟨rfl, beq_iff_eq.2 h1, h1⟩
  · by_cases h2 : p < i
    · by_cases h3 : i < p + x
      · exact .inr (.inl ⟨rfl, beq_eq_false_iff_ne.2 h1, decide_eq_true h2, decide_eq_true h3, h2, h3⟩)
      · exact .inr (.inr (.inl ⟨rfl, beq_eq_false_iff_ne.2 h1, decide_eq_true h2, decide_eq_false h3, by omega⟩))
    · exact .inr (.inr (.inr (.inl ⟨rfl, beq_eq_false_iff_ne.2 h1, decide_eq_false h2, by omega⟩)))
theorem rn_left_le {t : Rn} (h : t.wf) (hp : 0 ≤ t.s.p) (hq : ∀ q, t.st = some q → q.left ≤ 34) : t.left ≤ 60 * t.s.p + 16 := by
  cases hd : t.dn
  · obtain ⟨hm, hf, ar⟩ := h.of hd
    unfold Rn.Ar at ar
    have hb := (may_iff _ _ _).1 hm
    rcases (by omega : t.nx = 0 ∨ t.nx = 1 ∨ t.nx = 2 ∨ t.nx = 3 ∨ t.nx = 4 ∨ t.nx = 5) with hn | hn | hn | hn | hn | hn <;> rw [Rn.left_eq hd hn]
    · show 60 * (t.s.p - t.at') + (t.at' - t.hd) + 8 ≤ _; omega
    · show 60 * (t.s.p - t.at') + (t.at' - t.hd) + 7 ≤ _; omega
    · obtain ⟨q, h1, -⟩ := h.q hd hn
      have := hq q h1
      rw [h1]
      show 60 * (t.s.p - t.at') + (t.at' - t.hd) - 34 + q.left ≤ _; omega
    · show 60 * (t.s.p - t.at') + (t.at' - t.hd) - 35 - t.i ≤ _; omega
    · show 60 * (t.s.p - t.at' - 1) + (t.i - t.hd) + 8 ≤ _; omega
    · show t.hd + t.n - t.i ≤ _; omega
  · rw [Rn.left_0 hd]; omega
section
variable {W : World} {H h : Hp} {l : List Hp} {n cap : Nat} {a : Option Addr} {B : Nat → Bool}

def rtG (P X Y : Int) (n cap : Nat) (a : Option Addr) (x b ka kb : Nat) (F' : Fr) : Prop :=
  gt F' 2 = .slice a n cap ∧ gt F' 7 = .pointer (some ⟨x, 0, none⟩) ∧ gt F' 8 = .pointer (some ⟨b, 0, none⟩) ∧ gt F' 9 = .int .i64 X ∧ gt F' 10 = .int .i64 Y ∧ gt F' 11 = .pointer (some ⟨ka, 0, none⟩) ∧ gt F' 12 = .pointer (some ⟨kb, 0, none⟩)
def rtA (P X Y : Int) (n cap : Nat) (a : Option Addr) (x b ka kb s : Nat) (L : List Hp) (second : Bool) (F' : Fr) (H' : Hp) : Prop :=
  ∃ (j : Int) (ta tb : Rn) (w : Wd) (pa pb : Nat), 0 ≤ j ∧ j ≤ (if second then 60 * P + 20 else (n : Int)) ∧ gt F' (if second then 14 else 13) = .int .i64 j ∧ rtG P X Y n cap a x b ka kb F' ∧
    Rn.Two ⟨P, 2, 0⟩ ta tb w ∧ (ta.n = X ∧ tb.n = Y ∧ ta.c = 0 ∧ tb.c = 1) ∧ (ta.left ≤ 60 * P + 20 ∧ tb.left ≤ 60 * P + 20) ∧ (second = true → ta.left ≤ max 0 (60 * P + 20 - j) ∧ tb.left ≤ max 0 (60 * P + 20 - j)) ∧
    Sep (rnB ka pa ta :: stO pa ta.st :: rnB kb pb tb :: stO pb tb.st :: wB b s w :: wR s w :: L) H'
def rtB (P X Y p q : Int) (ok is : Bool) (n cap : Nat) (a : Option Addr) (x b ka kb s : Nat) (w : Wd) (L : List Hp) (F' : Fr) (H' : Hp) : Prop :=
  ∃ j : Int, 0 ≤ j ∧ j ≤ P ∧ gt F' 19 = .int .i64 j ∧ gt F' 15 = .int .i64 p ∧ gt F' 16 = .bool ok ∧ gt F' 17 = .int .i64 q ∧ gt F' 18 = .bool is ∧ rtG P X Y n cap a x b ka kb F' ∧
    Sep (wB b s w :: wR s w :: sg x (.cells #[.int .i64 P, .int .i64 2, .int .i64 0] 25 (0, 0)) :: L) H'
set_option maxHeartbeats 8000000 in
theorem c_runtwo {pp g0 g1 : Int} (hp0 : 0 ≤ pp) (hp1 : pp ≤ 255) (hg0 : 0 ≤ g0) (hg1 : g0 ≤ 255) (hk0 : 0 ≤ g1) (hk1 : g1 ≤ 255) (hnn : n ≤ 9223372036854775807) (hr : RowV h a n (fun i => .bool (B i))) (hS : Sep (h :: l) H) :
    CallP Try.prog W 4 #[.int .u8 pp, .agg #[.int .u8 g0, .int .u8 g1], .slice a n cap] H fun v H' => v = .bool true ∧ Sep (h :: l) H' := by
  refine CallP.of mixed Try.func4 tr4 (by show 3 ≤ _; decide) fun W _ => ?_
  simp only [↓D0, ↓D1, ↓D2, ↓D3, ↓D4, ↓D5, ↓D6, ↓D7, ↓D8, ↓D9, U0, U1, U2, U3, U4, U5, U6, U7, U8, U9, U10, ↓reduceIte, Nat.reduceAdd, Nat.reduceMul, Nat.reduceSub, Nat.reduceEqDiff, Nat.reduceBEq, Nat.reduceLeDiff, Nat.reduceLT, Int.reduceAdd, Int.reduceMul, Int.reduceSub, Int.reduceLT, Int.reduceLE, Int.reduceToNat, Int.reduceEq, Int.reduceNe, Int.reduceBEq, Int.reduceBNe, ne_eq, eq_self]
  refine newB_intro fun z hz f1 f2 => ?_
  have hS := (hS.new f1 (.cells #[.int .u8 g0, .int .u8 g1] 48 (0, 0)))
  simp only [↓D0, ↓D1, ↓D2, ↓D3, ↓D4, ↓D5, ↓D6, ↓D7, ↓D8, ↓D9, U0, U1, U2, U3, U4, U5, U6, U7, U8, U9, U10, ↓reduceIte, Nat.reduceAdd, Nat.reduceMul, Nat.reduceSub, Nat.reduceEqDiff, Nat.reduceBEq, Nat.reduceLeDiff, Nat.reduceLT, Int.reduceAdd, Int.reduceMul, Int.reduceSub, Int.reduceLT, Int.reduceLE, Int.reduceToNat, Int.reduceEq, Int.reduceNe, Int.reduceBEq, Int.reduceBNe, ne_eq, eq_self]
  refine callT_of (c_awake14 hS) ?_
  rintro v H' ⟨rfl, hS⟩
  have ew : w64 pp = pp := w64_eq (by omega) (by omega)
  have em : pp.tmod 10 = pp % 10 := Int.tmod_eq_emod_of_nonneg hp0
  obtain ⟨P, hP⟩ : ∃ P, 1 + pp % 10 = P := ⟨_, rfl⟩
  have pb : 1 ≤ P ∧ P ≤ 10 := by omega
  have ea : w64 P = P := w64_eq (by omega) (by omega)
  have ew2 : w64 (pp % 10) = pp % 10 := w64_eq (by omega) (by omega)
  simp only [ew, em, wrap_w64, ew2, ea, hP, ↓D0, ↓D1, ↓D2, ↓D3, ↓D4, ↓D5, ↓D6, ↓D7, ↓D8, ↓D9, U0, U1, U2, U3, U4, U5, U6, U7, U8, U9, U10, ↓reduceIte, Nat.reduceAdd, Nat.reduceMul, Nat.reduceSub, Nat.reduceEqDiff, Nat.reduceBEq, Nat.reduceLeDiff, Nat.reduceLT, Int.reduceAdd, Int.reduceMul, Int.reduceSub, Int.reduceLT, Int.reduceLE, Int.reduceToNat, Int.reduceEq, Int.reduceNe, Int.reduceBEq, Int.reduceBNe, ne_eq, eq_self]
  refine newB_intro fun x hx f3 f4 => ?_
  simp only [↓D0, ↓D1, ↓D2, ↓D3, ↓D4, ↓D5, ↓D6, ↓D7, ↓D8, ↓D9, U0, U1, U2, U3, U4, U5, U6, U7, U8, U9, U10, ↓reduceIte, Nat.reduceAdd, Nat.reduceMul, Nat.reduceSub, Nat.reduceEqDiff, Nat.reduceBEq, Nat.reduceLeDiff, Nat.reduceLT, Int.reduceAdd, Int.reduceMul, Int.reduceSub, Int.reduceLT, Int.reduceLE, Int.reduceToNat, Int.reduceEq, Int.reduceNe, Int.reduceBEq, Int.reduceBNe, ne_eq, eq_self]
  have hm : may P 2 0 = true := (may_iff _ _ _).2 (by omega)
  obtain ⟨N, hN⟩ : ∃ N : Nat, words P 2 0 = (N : Int) := ⟨(words P 2 0).toNat, by have := words_le hm; omega⟩
  have hNb := words_le hm
  have hNv : (N : Int) = 17 * P + 2 := by rw [← hN]; unfold words; rw [if_pos hm]; omega
  have hN2 : N ≤ 2000 := by omega
  have hS := hS.new f3 (.cells #[.int .i64 0, .int .i64 0, .int .i64 0] 25 (0, 0))
  have hS := hS.set (.cells #[.int .i64 P, .int .i64 2, .int .i64 0] 25 (0, 0))
  rw [Ev.upd_upd] at hS
  have hx1 := hS.look
  have r1 := fun o n => rdn_of hx1 o n
  have n0 : (0 : Int) ≤ (N : Int) := by omega
  have n8 : 8 * (N : Int) ≤ 281474976710656 := by omega
  have n9 : (N : Int) ≤ 9223372036854775807 := by omega
  have nle : (N : Int) ≤ (N : Int) := Int.le_refl _
  simp only [Ev.upd_upd, hx1, r1, u_words, hN, n0, n8, n9, nle, Int.toNat_natCast, ↓D0, ↓D1, ↓D2, ↓D3, ↓D4, ↓D5, ↓D6, ↓D7, ↓D8, ↓D9, U0, U1, U2, U3, U4, U5, U6, U7, U8, U9, U10, ↓reduceIte, Nat.reduceAdd, Nat.reduceMul, Nat.reduceSub, Nat.reduceEqDiff, Nat.reduceBEq, Nat.reduceLeDiff, Nat.reduceLT, Int.reduceAdd, Int.reduceMul, Int.reduceSub, Int.reduceLT, Int.reduceLE, Int.reduceToNat, Int.reduceEq, Int.reduceNe, Int.reduceBEq, Int.reduceBNe, ne_eq, eq_self]
  refine newB_intro fun y hy f5 f6 => ?_
  have hS := hS.new f5 (.cells (urow N fun _ => 0) 29 (0, 0))
  simp only [urow_zero, urow_size, ↓D0, ↓D1, ↓D2, ↓D3, ↓D4, ↓D5, ↓D6, ↓D7, ↓D8, ↓D9, U0, U1, U2, U3, U4, U5, U6, U7, U8, U9, U10, ↓reduceIte, Nat.reduceAdd, Nat.reduceMul, Nat.reduceSub, Nat.reduceEqDiff, Nat.reduceBEq, Nat.reduceLeDiff, Nat.reduceLT, Int.reduceAdd, Int.reduceMul, Int.reduceSub, Int.reduceLT, Int.reduceLE, Int.reduceToNat, Int.reduceEq, Int.reduceNe, Int.reduceBEq, Int.reduceBNe, ne_eq, eq_self]
  refine callT_of (c_fill (n := N) hN2 (RowU.own y N _ _ _) hS) ?_
  rintro v H' ⟨b, s, rfl, hS⟩
  have hx1 := hS.lk 3 rfl
  have hz1 := hS.lk 4 rfl
  have r1 := fun o n => rdn_of hx1 o n
  have r0 := fun o => rd_of hx1 o
  have r2 := fun o => rd_of hz1 o
  have i0 : (0 : Int) < ((2 : Nat) : Int) := by decide
  have i1 : (1 : Int) < ((2 : Nat) : Int) := by decide
  have nxz := hS.neq 3 4 (by decide) rfl rfl
  have nzx := hS.qen 3 4 (by decide) rfl rfl
  have eg0 : w64 g0 = g0 := w64_eq (by omega) (by omega)
  have eg1 : w64 g1 = g1 := w64_eq (by omega) (by omega)
  have et0 : g0.tmod 8 = g0 % 8 := Int.tmod_eq_emod_of_nonneg hg0
  have et1 : g1.tmod 8 = g1 % 8 := Int.tmod_eq_emod_of_nonneg hk0
  have wq0 : w64 (g0 % 8) = g0 % 8 := w64_eq (by omega) (by omega)
  have wq1 : w64 (g1 % 8) = g1 % 8 := w64_eq (by omega) (by omega)
  obtain ⟨X, hX⟩ : ∃ X, 1 + g0 % 8 = X := ⟨_, rfl⟩
  obtain ⟨Y, hY⟩ : ∃ Y, 1 + g1 % 8 = Y := ⟨_, rfl⟩
  have wX : w64 X = X := w64_eq (by omega) (by omega)
  have wY : w64 Y = Y := w64_eq (by omega) (by omega)
  simp only [hz1, r2, i0, i1, eg0, eg1, et0, et1, wrap_w64, wq0, wq1, hX, hY, wX, wY, ↓D0, ↓D1, ↓D2, ↓D3, ↓D4, ↓D5, ↓D6, ↓D7, ↓D8, ↓D9, U0, U1, U2, U3, U4, U5, U6, U7, U8, U9, U10, ↓reduceIte, Nat.reduceAdd, Nat.reduceMul, Nat.reduceSub, Nat.reduceEqDiff, Nat.reduceBEq, Nat.reduceLeDiff, Nat.reduceLT, Int.reduceAdd, Int.reduceMul, Int.reduceSub, Int.reduceLT, Int.reduceLE, Int.reduceToNat, Int.reduceEq, Int.reduceNe, Int.reduceBEq, Int.reduceBNe, ne_eq, eq_self]
  refine draw_intro [(x, #[.int .i64 P, .int .i64 2, .int .i64 0], [])] (by simp only [hx1, ↓D0, ↓D1, ↓D2, ↓D3, ↓D4, ↓D5, ↓D6, ↓D7, ↓D8, ↓D9, U0, U1, U2, U3, U4, U5, U6, U7, U8, U9, U10, ↓reduceIte, Nat.reduceAdd, Nat.reduceMul, Nat.reduceSub, Nat.reduceEqDiff, Nat.reduceBEq, Nat.reduceLeDiff, Nat.reduceLT, Int.reduceAdd, Int.reduceMul, Int.reduceSub, Int.reduceLT, Int.reduceLE, Int.reduceToNat, Int.reduceEq, Int.reduceNe, Int.reduceBEq, Int.reduceBNe, ne_eq, eq_self]) ?_
  simp only [hx1, r1, ↓D0, ↓D1, ↓D2, ↓D3, ↓D4, ↓D5, ↓D6, ↓D7, ↓D8, ↓D9, U0, U1, U2, U3, U4, U5, U6, U7, U8, U9, U10, ↓reduceIte, Nat.reduceAdd, Nat.reduceMul, Nat.reduceSub, Nat.reduceEqDiff, Nat.reduceBEq, Nat.reduceLeDiff, Nat.reduceLT, Int.reduceAdd, Int.reduceMul, Int.reduceSub, Int.reduceLT, Int.reduceLE, Int.reduceToNat, Int.reduceEq, Int.reduceNe, Int.reduceBEq, Int.reduceBNe, ne_eq, eq_self]
  refine callT_of (c_rnnew (sh := ⟨P, 2, 0⟩) hS) ?_
  rintro v H' ⟨ka, rfl, hS⟩
  have hx1 := hS.lk 4 rfl
  simp only [hx1, ↓D0, ↓D1, ↓D2, ↓D3, ↓D4, ↓D5, ↓D6, ↓D7, ↓D8, ↓D9, U0, U1, U2, U3, U4, U5, U6, U7, U8, U9, U10, ↓reduceIte, Nat.reduceAdd, Nat.reduceMul, Nat.reduceSub, Nat.reduceEqDiff, Nat.reduceBEq, Nat.reduceLeDiff, Nat.reduceLT, Int.reduceAdd, Int.reduceMul, Int.reduceSub, Int.reduceLT, Int.reduceLE, Int.reduceToNat, Int.reduceEq, Int.reduceNe, Int.reduceBEq, Int.reduceBNe, ne_eq, eq_self]
  refine callT_of (c_rnnew (sh := ⟨P, 2, 0⟩) hS) ?_
  rintro v H' ⟨kb, rfl, hS⟩
  have hx1 := hS.lk 5 rfl
  have hof : (rowW N fun _ => 0).of ⟨P, 2, 0⟩ := rowW_of hN.symm fun _ _ => U_0
  have hz0 : ∀ q : Int, (rowW N fun _ => 0).get q = 0 := fun q => by
    show (if _ then (0 : Int) else 0) = 0; split <;> rfl
  have hT0 := Rn.Two.init (c := 0) (d := 1) (n := X) (m := Y) hm hof (fun q _ _ => hz0 _) (by show (0 : Int) ≤ 0 ∧ (0 : Int) < 2; decide) (by show (0 : Int) ≤ 1 ∧ (1 : Int) < 2; decide) (by omega) (by omega)
  by_cases h2000 : (2000 : Int) < (n : Int)
  · have d2 : decide ((2000 : Int) < (n : Int)) = true := decide_eq_true h2000
    simp only [hx1, d2, ↓D0, ↓D1, ↓D2, ↓D3, ↓D4, ↓D5, ↓D6, ↓D7, ↓D8, ↓D9, U0, U1, U2, U3, U4, U5, U6, U7, U8, U9, U10, ↓reduceIte, Nat.reduceAdd, Nat.reduceMul, Nat.reduceSub, Nat.reduceEqDiff, Nat.reduceBEq, Nat.reduceLeDiff, Nat.reduceLT, Int.reduceAdd, Int.reduceMul, Int.reduceSub, Int.reduceLT, Int.reduceLE, Int.reduceToNat, Int.reduceEq, Int.reduceNe, Int.reduceBEq, Int.reduceBNe, ne_eq, eq_self]
    exact hS.tail.tail.tail.tail.tail.tail.tail
  have d2 : decide ((2000 : Int) < (n : Int)) = false := decide_eq_false h2000
  simp only [hx1, d2, ↓D0, ↓D1, ↓D2, ↓D3, ↓D4, ↓D5, ↓D6, ↓D7, ↓D8, ↓D9, U0, U1, U2, U3, U4, U5, U6, U7, U8, U9, U10, ↓reduceIte, Nat.reduceAdd, Nat.reduceMul, Nat.reduceSub, Nat.reduceEqDiff, Nat.reduceBEq, Nat.reduceLeDiff, Nat.reduceLT, Int.reduceAdd, Int.reduceMul, Int.reduceSub, Int.reduceLT, Int.reduceLE, Int.reduceToNat, Int.reduceEq, Int.reduceNe, Int.reduceBEq, Int.reduceBNe, ne_eq, eq_self]
  have L0 : ∀ c m : Int, (Rn.new ⟨P, 2, 0⟩ c m).left ≤ 60 * P + 20 := fun c m => by
    have := Rn.new_left ⟨P, 2, 0⟩ c m (by show 0 ≤ P; omega)
    have : (⟨P, 2, 0⟩ : Sh).p = P := rfl
    omega
  refine loop_intro (rtA P X Y n cap a x b ka kb s (sg x (.cells #[.int .i64 P, .int .i64 2, .int .i64 0] 25 (0, 0)) :: h :: l) false) (fun F' _ => (n - iv (gt F' 13)).toNat) ?_ ?_
  · refine ⟨0, _, _, _, 0, 0, by omega, by simp, rfl, ⟨?_, ?_, ?_, ?_, ?_, ?_, ?_⟩, hT0, ⟨rfl, rfl, rfl, rfl⟩, ⟨L0 _ _, L0 _ _⟩, (fun h => by cases h), hS.p4.tail.p5.tail.nothing.p1.nothing.p3⟩
    all_goals rfl
  rintro F' H' ⟨j, ta, tb, w, pa, pb', h0, h1, e13, ⟨e2, e7, e8, e9, e10, e11, e12⟩, hT, ⟨ex, ey, ca, cb⟩, hl14, -, hS⟩
  have e13 : gt F' 13 = .int .i64 j := e13
  have SL : ∀ {t : Rn} {w : Wd}, t.wf → t.left ≤ 60 * P + 20 → (t.step w).1.left ≤ 60 * P + 20 := fun {t w} ht hl => by
    have := Rn.left_step (w := w) (m := 60 * P + 20) ht (by omega); omega
  have KC : ∀ {t : Rn} {w : Wd} {X c : Int}, t.wf → t.n = X → t.c = c → (t.step w).1.n = X ∧ (t.step w).1.c = c := fun {t w X c} ht h1 h2 => by
    have := Rn.step_k ht w; exact ⟨this.2.2.trans h1, this.2.1.trans h2⟩
  have ofa : ta.dn = false → w.of ta.s := fun _ => by rw [hT.wa.2.1]; exact hT.of
  have ofb : tb.dn = false → w.of tb.s := fun _ => by rw [hT.wb.2.1]; exact hT.of
  by_cases hlt : j < (n : Int)
  · have d1 : decide (j < (n : Int)) = true := decide_eq_true hlt
    have wi : w64 (j + 1) = j + 1 := w64_eq (by omega) (by omega)
    obtain ⟨xb, xo, rfl, hrd⟩ := (hr.sub (hS.sb h (by simp))).at' (i := j.toNat) (by omega)
    cases hB : B j.toNat
    · rw [hB] at hrd
      simp only [e13, e2, e7, e8, e9, e10, e11, e12, d1, h0, hlt, hrd, ↓D0, ↓D1, ↓D2, ↓D3, ↓D4, ↓D5, ↓D6, ↓D7, ↓D8, ↓D9, U0, U1, U2, U3, U4, U5, U6, U7, U8, U9, U10, ↓reduceIte, Nat.reduceAdd, Nat.reduceMul, Nat.reduceSub, Nat.reduceEqDiff, Nat.reduceBEq, Nat.reduceLeDiff, Nat.reduceLT, Int.reduceAdd, Int.reduceMul, Int.reduceSub, Int.reduceLT, Int.reduceLE, Int.reduceToNat, Int.reduceEq, Int.reduceNe, Int.reduceBEq, Int.reduceBNe, ne_eq, eq_self]
      refine callT_of (c_rnstep hT.wa.1 ofa hS.p3.p3.p5.p5.p5.p5) ?_
      rintro v H' ⟨rfl, pa2, hS⟩
      simp only [e13, e2, e7, e8, e9, e10, e11, e12, wrap_w64, wi, ↓D0, ↓D1, ↓D2, ↓D3, ↓D4, ↓D5, ↓D6, ↓D7, ↓D8, ↓D9, U0, U1, U2, U3, U4, U5, U6, U7, U8, U9, U10, ↓reduceIte, Nat.reduceAdd, Nat.reduceMul, Nat.reduceSub, Nat.reduceEqDiff, Nat.reduceBEq, Nat.reduceLeDiff, Nat.reduceLT, Int.reduceAdd, Int.reduceMul, Int.reduceSub, Int.reduceLT, Int.reduceLE, Int.reduceToNat, Int.reduceEq, Int.reduceNe, Int.reduceBEq, Int.reduceBNe, ne_eq, eq_self]
      exact ⟨⟨j + 1, _, _, _, pa2, pb', by omega, by show j + 1 ≤ (n : Int); omega, by simp [gt], ⟨by simp [gt, e2], by simp [gt, e7], by simp [gt, e8], by simp [gt, e9], by simp [gt, e10], by simp [gt, e11], by simp [gt, e12]⟩, hT.step, ⟨(KC hT.wa.1 ex ca).1, ey, (KC hT.wa.1 ex ca).2, cb⟩, ⟨SL hT.wa.1 hl14.1, hl14.2⟩, (fun h => by cases h), hS.p3.p3.p5.p5.p5.p5⟩, by simp [gt, iv, e13]; omega⟩
    · rw [hB] at hrd
      simp only [e13, e2, e7, e8, e9, e10, e11, e12, d1, h0, hlt, hrd, ↓D0, ↓D1, ↓D2, ↓D3, ↓D4, ↓D5, ↓D6, ↓D7, ↓D8, ↓D9, U0, U1, U2, U3, U4, U5, U6, U7, U8, U9, U10, ↓reduceIte, Nat.reduceAdd, Nat.reduceMul, Nat.reduceSub, Nat.reduceEqDiff, Nat.reduceBEq, Nat.reduceLeDiff, Nat.reduceLT, Int.reduceAdd, Int.reduceMul, Int.reduceSub, Int.reduceLT, Int.reduceLE, Int.reduceToNat, Int.reduceEq, Int.reduceNe, Int.reduceBEq, Int.reduceBNe, ne_eq, eq_self]
      refine callT_of (c_rnstep hT.wb.1 ofb hS.p1.p1.p5.p5.p5.p5) ?_
      rintro v H' ⟨rfl, pb2, hS⟩
      simp only [e13, e2, e7, e8, e9, e10, e11, e12, wrap_w64, wi, ↓D0, ↓D1, ↓D2, ↓D3, ↓D4, ↓D5, ↓D6, ↓D7, ↓D8, ↓D9, U0, U1, U2, U3, U4, U5, U6, U7, U8, U9, U10, ↓reduceIte, Nat.reduceAdd, Nat.reduceMul, Nat.reduceSub, Nat.reduceEqDiff, Nat.reduceBEq, Nat.reduceLeDiff, Nat.reduceLT, Int.reduceAdd, Int.reduceMul, Int.reduceSub, Int.reduceLT, Int.reduceLE, Int.reduceToNat, Int.reduceEq, Int.reduceNe, Int.reduceBEq, Int.reduceBNe, ne_eq, eq_self]
      exact ⟨⟨j + 1, _, _, _, pa, pb2, by omega, by show j + 1 ≤ (n : Int); omega, by simp [gt], ⟨by simp [gt, e2], by simp [gt, e7], by simp [gt, e8], by simp [gt, e9], by simp [gt, e10], by simp [gt, e11], by simp [gt, e12]⟩, hT.step2, ⟨ex, (KC hT.wb.1 ey cb).1, ca, (KC hT.wb.1 ey cb).2⟩, ⟨hl14.1, SL hT.wb.1 hl14.2⟩, (fun h => by cases h), hS.p3.p3.p3.p3.p5.p5⟩, by simp [gt, iv, e13]; omega⟩
  have d1 : decide (j < (n : Int)) = false := decide_eq_false hlt
  simp only [e13, e2, e7, e8, e9, e10, e11, e12, d1, ↓D0, ↓D1, ↓D2, ↓D3, ↓D4, ↓D5, ↓D6, ↓D7, ↓D8, ↓D9, U0, U1, U2, U3, U4, U5, U6, U7, U8, U9, U10, ↓reduceIte, Nat.reduceAdd, Nat.reduceMul, Nat.reduceSub, Nat.reduceEqDiff, Nat.reduceBEq, Nat.reduceLeDiff, Nat.reduceLT, Int.reduceAdd, Int.reduceMul, Int.reduceSub, Int.reduceLT, Int.reduceLE, Int.reduceToNat, Int.reduceEq, Int.reduceNe, Int.reduceBEq, Int.reduceBNe, ne_eq, eq_self]
  have wm1 : w64 (60 * P) = 60 * P := w64_eq (by omega) (by omega)
  have wm2 : w64 (60 * P + 20) = 60 * P + 20 := w64_eq (by omega) (by omega)
  refine loop_intro (rtA P X Y n cap a x b ka kb s (sg x (.cells #[.int .i64 P, .int .i64 2, .int .i64 0] 25 (0, 0)) :: h :: l) true) (fun F' _ => (60 * P + 20 - iv (gt F' 14)).toNat)
    ⟨0, ta, tb, w, pa, pb', by omega, by show (0 : Int) ≤ 60 * P + 20; omega, rfl, ⟨by simp [gt, e2], by simp [gt, e7], by simp [gt, e8], by simp [gt, e9], by simp [gt, e10], by simp [gt, e11], by simp [gt, e12]⟩, hT, ⟨ex, ey, ca, cb⟩, hl14, fun _ => by omega, hS⟩ ?_
  clear ofa ofb hl14 e13 hT0
  rintro F' H' ⟨j, ta, tb, w, pa, pb', h0, h1, e14, ⟨e2, e7, e8, e9, e10, e11, e12⟩, hT, ⟨ex, ey, ca, cb⟩, hl14, hl, hS⟩
  have e14 : gt F' 14 = .int .i64 j := e14
  have h1 : j ≤ 60 * P + 20 := h1
  obtain ⟨l1, l2⟩ := hl rfl
  have hx1 := hS.lk 6 rfl
  have r0 := fun o => rd_of hx1 o
  by_cases hlt : j < 60 * P + 20
  · have d1 : decide (j < 60 * P + 20) = true := decide_eq_true hlt
    have wi : w64 (j + 1) = j + 1 := w64_eq (by omega) (by omega)
    simp only [e14, e2, e7, e8, e9, e10, e11, e12, hx1, r0, wrap_w64, wm1, wm2, d1, ↓D0, ↓D1, ↓D2, ↓D3, ↓D4, ↓D5, ↓D6, ↓D7, ↓D8, ↓D9, U0, U1, U2, U3, U4, U5, U6, U7, U8, U9, U10, ↓reduceIte, Nat.reduceAdd, Nat.reduceMul, Nat.reduceSub, Nat.reduceEqDiff, Nat.reduceBEq, Nat.reduceLeDiff, Nat.reduceLT, Int.reduceAdd, Int.reduceMul, Int.reduceSub, Int.reduceLT, Int.reduceLE, Int.reduceToNat, Int.reduceEq, Int.reduceNe, Int.reduceBEq, Int.reduceBNe, ne_eq, eq_self]
    refine callT_of (c_rnstep hT.wa.1 (fun _ => by rw [hT.wa.2.1]; exact hT.of) hS.p3.p3.p5.p5.p5.p5) ?_
    rintro v H' ⟨rfl, pa2, hS⟩
    have hT2 := hT.step
    simp only [e14, e2, e7, e8, e9, e10, e11, e12, ↓D0, ↓D1, ↓D2, ↓D3, ↓D4, ↓D5, ↓D6, ↓D7, ↓D8, ↓D9, U0, U1, U2, U3, U4, U5, U6, U7, U8, U9, U10, ↓reduceIte, Nat.reduceAdd, Nat.reduceMul, Nat.reduceSub, Nat.reduceEqDiff, Nat.reduceBEq, Nat.reduceLeDiff, Nat.reduceLT, Int.reduceAdd, Int.reduceMul, Int.reduceSub, Int.reduceLT, Int.reduceLE, Int.reduceToNat, Int.reduceEq, Int.reduceNe, Int.reduceBEq, Int.reduceBNe, ne_eq, eq_self]
    refine callT_of (c_rnstep hT2.wb.1 (fun _ => by rw [hT2.wb.2.1]; exact hT2.of) hS.p3.p3.p5.p5.p5.p5.p1.p1.p5.p5.p5.p5) ?_
    rintro v H' ⟨rfl, pb2, hS⟩
    simp only [e14, e2, e7, e8, e9, e10, e11, e12, wrap_w64, wi, ↓D0, ↓D1, ↓D2, ↓D3, ↓D4, ↓D5, ↓D6, ↓D7, ↓D8, ↓D9, U0, U1, U2, U3, U4, U5, U6, U7, U8, U9, U10, ↓reduceIte, Nat.reduceAdd, Nat.reduceMul, Nat.reduceSub, Nat.reduceEqDiff, Nat.reduceBEq, Nat.reduceLeDiff, Nat.reduceLT, Int.reduceAdd, Int.reduceMul, Int.reduceSub, Int.reduceLT, Int.reduceLE, Int.reduceToNat, Int.reduceEq, Int.reduceNe, Int.reduceBEq, Int.reduceBNe, ne_eq, eq_self]
    refine ⟨⟨j + 1, _, _, _, pa2, pb2, by omega, by show j + 1 ≤ 60 * P + 20; omega, by simp [gt], ⟨by simp [gt, e2], by simp [gt, e7], by simp [gt, e8], by simp [gt, e9], by simp [gt, e10], by simp [gt, e11], by simp [gt, e12]⟩, hT2.step2, ⟨(KC hT.wa.1 ex ca).1, (KC hT2.wb.1 ey cb).1, (KC hT.wa.1 ex ca).2, (KC hT2.wb.1 ey cb).2⟩, ⟨SL hT.wa.1 hl14.1, SL hT2.wb.1 hl14.2⟩, fun _ => ⟨?_, ?_⟩, hS.p3.p3.p3.p3.p5.p5⟩, by simp [gt, iv, e14]; omega⟩
    · have := Rn.left_step (w := w) hT.wa.1 l1; omega
    · have := Rn.left_step (w := (ta.step w).2) hT.wb.1 l2; omega
  have d1 : decide (j < 60 * P + 20) = false := decide_eq_false hlt
  have dA : ta.dn = true := Rn.left_dn hT.wa.1 (by have := Rn.left_nn hT.wa.1; omega)
  have dB : tb.dn = true := Rn.left_dn hT.wb.1 (by have := Rn.left_nn hT.wb.1; omega)
  have ha0 := hT.wa.2.2.2.2.2
  have hb0 := hT.wb.2.2.2.2.2
  have tA : ta.top = if ta.fd then ta.hd + X else ta.hd := by
    cases hf : ta.fd
    · rw [Rn.top_lost dA hf]; rfl
    · rw [Rn.top_won dA hf, ex]; rfl
  have tB : tb.top = if tb.fd then tb.hd + Y else tb.hd := by
    cases hf : tb.fd
    · rw [Rn.top_lost dB hf]; rfl
    · rw [Rn.top_won dB hf, ey]; rfl
  have wxx : w64 (ta.hd + X) = ta.hd + X := w64_eq (by omega) (by omega)
  have wyy : w64 (tb.hd + Y) = tb.hd + Y := w64_eq (by omega) (by omega)
  have hpg : ∀ i : Int, 0 ≤ i → i < P → page P 2 0 i = 2 + i := fun i hi0 hi1 => page_yes hm hi0 hi1
  have hwn : (w.n : Int) = 17 * P + 2 := by
    have : (w.n : Int) = words P 2 0 := hT.of.n
    omega
  have hwa : ∀ i, 0 ≤ i → i < P → ta.fd = true → ta.hd ≤ i → i < ta.hd + X → w.get (2 + i) = if i = ta.hd then held 0 else body ta.hd := fun i q0 q1 hf q2 q3 => by
    have hin : ta.In i := ⟨q2, by rw [tA, hf]; exact q3⟩
    have h2 : w.get (2 + i) = ta.wd i := (hT.ha i hin).2.2
    rw [h2]
    unfold Rn.wd
    rw [Rn.bt_dn dA, ex, ca]
    by_cases he : i = ta.hd
    · rw [if_pos he, if_neg (by omega)]
    · rw [if_neg he, if_pos (by omega)]
  have hwb : ∀ i, 0 ≤ i → i < P → tb.fd = true → tb.hd ≤ i → i < tb.hd + Y → w.get (2 + i) = if i = tb.hd then held 1 else body tb.hd := fun i q0 q1 hf q2 q3 => by
    have hin : tb.In i := ⟨q2, by rw [tB, hf]; exact q3⟩
    have h2 : w.get (2 + i) = tb.wd i := (hT.hb i hin).2.2
    rw [h2]
    unfold Rn.wd
    rw [Rn.bt_dn dB, ey, cb]
    by_cases he : i = tb.hd
    · rw [if_pos he, if_neg (by omega)]
    · rw [if_neg he, if_pos (by omega)]
  have hwz : ∀ i, 0 ≤ i → i < P → (ta.fd = false ∨ ¬ (ta.hd ≤ i ∧ i < ta.hd + X)) → (tb.fd = false ∨ ¬ (tb.hd ≤ i ∧ i < tb.hd + Y)) → w.get (2 + i) = 0 := fun i q0 q1 na nb => by
    refine hT.z i q0 q1 (fun ⟨i1, i2⟩ => ?_) (fun ⟨i1, i2⟩ => ?_)
    · rw [tA] at i2
      rcases na with na | na
      · rw [na] at i2; simp at i2; omega
      · apply na; cases hf : ta.fd
        · rw [hf] at i2; simp at i2; omega
        · rw [hf] at i2; simp at i2; omega
    · rw [tB] at i2
      rcases nb with nb | nb
      · rw [nb] at i2; simp at i2; omega
      · apply nb; cases hf : tb.fd
        · rw [hf] at i2; simp at i2; omega
        · rw [hf] at i2; simp at i2; omega
  have hdj : ta.fd = true → tb.fd = true → decide (ta.hd < tb.hd + Y) = true → decide (tb.hd < ta.hd + X) = false := fun f1 f2 h3 => by
    apply decide_eq_false
    intro h4
    have h3 := of_decide_eq_true h3
    by_cases hle : ta.hd ≤ tb.hd
    · exact hT.dj tb.hd ⟨hle, by rw [tA, f1]; exact h4⟩ ⟨Int.le_refl _, by rw [tB, f2]; show tb.hd < tb.hd + Y; omega⟩
    · exact hT.dj ta.hd ⟨Int.le_refl _, by rw [tA, f1]; show ta.hd < ta.hd + X; omega⟩ ⟨by omega, by rw [tB, f2]; exact h3⟩
  have hone : X ≤ P → Y ≤ P → ta.fd = true ∨ tb.fd = true := fun q1 q2 => hT.one dA dB (by rw [ex]; exact q1) (by rw [ey]; exact q2)
  have hab : ta.fd = true → tb.fd = true → ∀ i, (ta.hd ≤ i ∧ i < ta.hd + X) → (tb.hd ≤ i ∧ i < tb.hd + Y) → False := fun f1 f2 i q1 q2 =>
    hT.dj i ⟨q1.1, by rw [tA, f1]; exact q1.2⟩ ⟨q2.1, by rw [tB, f2]; exact q2.2⟩
  simp only [e14, e2, e7, e8, e9, e10, e11, e12, hx1, r0, wrap_w64, wm1, wm2, d1, ↓D0, ↓D1, ↓D2, ↓D3, ↓D4, ↓D5, ↓D6, ↓D7, ↓D8, ↓D9, U0, U1, U2, U3, U4, U5, U6, U7, U8, U9, U10, ↓reduceIte, Nat.reduceAdd, Nat.reduceMul, Nat.reduceSub, Nat.reduceEqDiff, Nat.reduceBEq, Nat.reduceLeDiff, Nat.reduceLT, Int.reduceAdd, Int.reduceMul, Int.reduceSub, Int.reduceLT, Int.reduceLE, Int.reduceToNat, Int.reduceEq, Int.reduceNe, Int.reduceBEq, Int.reduceBNe, ne_eq, eq_self]
  refine callT_of (c_rnfound hS) ?_
  rintro v H' ⟨rfl, hS⟩
  simp only [e14, e2, e7, e8, e9, e10, e11, e12, ↓D0, ↓D1, ↓D2, ↓D3, ↓D4, ↓D5, ↓D6, ↓D7, ↓D8, ↓D9, U0, U1, U2, U3, U4, U5, U6, U7, U8, U9, U10, ↓reduceIte, Nat.reduceAdd, Nat.reduceMul, Nat.reduceSub, Nat.reduceEqDiff, Nat.reduceBEq, Nat.reduceLeDiff, Nat.reduceLT, Int.reduceAdd, Int.reduceMul, Int.reduceSub, Int.reduceLT, Int.reduceLE, Int.reduceToNat, Int.reduceEq, Int.reduceNe, Int.reduceBEq, Int.reduceBNe, ne_eq, eq_self]
  refine callT_of (c_rnfound hS.p2) ?_
  rintro v H' ⟨rfl, hS⟩
  simp only [e14, e2, e7, e8, e9, e10, e11, e12, ↓D0, ↓D1, ↓D2, ↓D3, ↓D4, ↓D5, ↓D6, ↓D7, ↓D8, ↓D9, U0, U1, U2, U3, U4, U5, U6, U7, U8, U9, U10, ↓reduceIte, Nat.reduceAdd, Nat.reduceMul, Nat.reduceSub, Nat.reduceEqDiff, Nat.reduceBEq, Nat.reduceLeDiff, Nat.reduceLT, Int.reduceAdd, Int.reduceMul, Int.reduceSub, Int.reduceLT, Int.reduceLE, Int.reduceToNat, Int.reduceEq, Int.reduceNe, Int.reduceBEq, Int.reduceBNe, ne_eq, eq_self]
  refine callT_of (c_rndone hS.p1) ?_
  rintro v H' ⟨rfl, hS⟩
  simp only [e14, e2, e7, e8, e9, e10, e11, e12, dA, ↓D0, ↓D1, ↓D2, ↓D3, ↓D4, ↓D5, ↓D6, ↓D7, ↓D8, ↓D9, U0, U1, U2, U3, U4, U5, U6, U7, U8, U9, U10, ↓reduceIte, Nat.reduceAdd, Nat.reduceMul, Nat.reduceSub, Nat.reduceEqDiff, Nat.reduceBEq, Nat.reduceLeDiff, Nat.reduceLT, Int.reduceAdd, Int.reduceMul, Int.reduceSub, Int.reduceLT, Int.reduceLE, Int.reduceToNat, Int.reduceEq, Int.reduceNe, Int.reduceBEq, Int.reduceBNe, ne_eq, eq_self]
  refine callT_of (c_rndone hS.p1) ?_
  rintro v H' ⟨rfl, hS⟩
  clear hT l1 l2 hl hl14 SL KC L0
  obtain ⟨fa, hfa⟩ : ∃ fa, ta.fd = fa := ⟨_, rfl⟩
  obtain ⟨fb, hfb⟩ : ∃ fb, tb.fd = fb := ⟨_, rfl⟩
  obtain ⟨va, hva⟩ : ∃ va, (if ta.fd = true then ta.hd else 0) = va := ⟨_, rfl⟩
  obtain ⟨vb, hvb⟩ : ∃ vb, (if tb.fd = true then tb.hd else 0) = vb := ⟨_, rfl⟩
  have eva : fa = true → va = ta.hd := fun h => by rw [← hva, hfa, if_pos h]
  have evb : fb = true → vb = tb.hd := fun h => by rw [← hvb, hfb, if_pos h]
  rw [hfa] at hwa hwz hdj hone hab
  rw [hfb] at hwb hwz hdj hone hab
  have wva : fa = true → w64 (va + X) = va + X := fun h => by rw [eva h]; exact wxx
  have wvb : fb = true → w64 (vb + Y) = vb + Y := fun h => by rw [evb h]; exact wyy
  have hS4 := hS.tail.tail.tail.tail
  have GO : ∀ (F2 : Fr), gt F2 15 = .int .i64 va → gt F2 16 = .bool fa → gt F2 17 = .int .i64 vb → gt F2 18 = .bool fb → rtG P X Y n cap a x b ka kb F2 → gt F2 19 = .int .i64 0 →
      rtB P X Y va vb fa fb n cap a x b ka kb s w (h :: l) F2 H' := fun F2 q15 q16 q17 q18 qg q19 => ⟨0, by omega, by omega, q19, q15, q16, q17, q18, qg, hS4⟩
  have BODY : ∀ (F3 : Fr) (H3 : Hp), True := fun _ _ => trivial
  have hc0 : ∀ (g : Bool), g = (fa && (fb && (decide (va < vb + Y) && decide (vb < va + X)))) → g = false := fun g hg => by
    rw [hg]
    cases q1 : fa
    · rfl
    cases q2 : fb
    · rfl
    rw [eva q1, evb q2]
    cases q3 : decide (ta.hd < tb.hd + Y)
    · rfl
    · rw [hdj q1 q2 q3]; rfl
  cases q1 : fa
  · have v1 : va = 0 := by rw [← hva, hfa, q1]; rfl
    cases q2 : fb
    · have v2 : vb = 0 := by rw [← hvb, hfb, q2]; rfl
      simp only [e14, e2, e7, e8, e9, e10, e11, e12, dB, hfa, hfb, q1, q2, ↓D0, ↓D1, ↓D2, ↓D3, ↓D4, ↓D5, ↓D6, ↓D7, ↓D8, ↓D9, U0, U1, U2, U3, U4, U5, U6, U7, U8, U9, U10, ↓reduceIte, Nat.reduceAdd, Nat.reduceMul, Nat.reduceSub, Nat.reduceEqDiff, Nat.reduceBEq, Nat.reduceLeDiff, Nat.reduceLT, Int.reduceAdd, Int.reduceMul, Int.reduceSub, Int.reduceLT, Int.reduceLE, Int.reduceToNat, Int.reduceEq, Int.reduceNe, Int.reduceBEq, Int.reduceBNe, ne_eq, eq_self]
      refine loop_intro (rtB P X Y va vb fa fb n cap a x b ka kb s w (h :: l)) (fun F' _ => (P - iv (gt F' 19)).toNat)
        (GO _ (by simp [gt, v1]) (by simp [gt, q1]) (by simp [gt, v2]) (by simp [gt, q2]) ⟨by simp [gt, e2], by simp [gt, e7], by simp [gt, e8], by simp [gt, e9], by simp [gt, e10], by simp [gt, e11], by simp [gt, e12]⟩ (by simp [gt])) ?_
      rintro F' H' ⟨j, h0, h1, e19, e15, e16, e17, e18, ⟨e2, e7, e8, e9, e10, e11, e12⟩, hS⟩
      have hx1 := hS.lk 2 rfl
      have r0 := fun o => rd_of hx1 o
      have r1 := fun o n => rdn_of hx1 o n
      by_cases hlt : j < P
      · have d1 : decide (j < P) = true := decide_eq_true hlt
        have wi : w64 (j + 1) = j + 1 := w64_eq (by omega) (by omega)
        have hpj := hpg j h0 hlt
        simp only [e15, e16, e17, e18, e19, e2, e7, e8, e9, e10, e11, e12, hx1, r0, r1, u_page, hpj, d1, ↓D0, ↓D1, ↓D2, ↓D3, ↓D4, ↓D5, ↓D6, ↓D7, ↓D8, ↓D9, U0, U1, U2, U3, U4, U5, U6, U7, U8, U9, U10, ↓reduceIte, Nat.reduceAdd, Nat.reduceMul, Nat.reduceSub, Nat.reduceEqDiff, Nat.reduceBEq, Nat.reduceLeDiff, Nat.reduceLT, Int.reduceAdd, Int.reduceMul, Int.reduceSub, Int.reduceLT, Int.reduceLE, Int.reduceToNat, Int.reduceEq, Int.reduceNe, Int.reduceBEq, Int.reduceBNe, ne_eq, eq_self]
        refine callT_of (c_look (2 + j) (by omega) (by omega) hS) ?_
        rintro v H' ⟨rfl, hS⟩
        have K : ∀ (F2 : Fr), gt F2 15 = .int .i64 va → gt F2 16 = .bool fa → gt F2 17 = .int .i64 vb → gt F2 18 = .bool fb → rtG P X Y n cap a x b ka kb F2 → gt F2 19 = .int .i64 (j + 1) →
            rtB P X Y va vb fa fb n cap a x b ka kb s w (h :: l) F2 H' := fun F2 q15 q16 q17 q18 qg q19 => ⟨j + 1, by omega, by omega, q19, q15, q16, q17, q18, qg, hS⟩
        have h10 : putPg 1 0 0 = held 0 := rfl
        have h11 : putPg 1 1 0 = held 1 := rfl
        have hbd : ∀ x, putPg 4 x 0 = body x := fun _ => rfl
        rcases pos_cases fa j va X with ⟨qa, pa1, pe⟩ | ⟨qa, pa1, pa2, pa3, pr⟩ | ⟨qa, pa1, pa2, pa3, pr⟩ | ⟨qa, pa1, pa2, pr⟩ | qa
        · have e16' : gt F' 16 = .bool true := by rw [e16, qa]
          have hz : w.get (2 + j) = held 0 := by rw [hwa j h0 hlt qa (by rw [← eva qa]; omega) (by rw [← eva qa]; omega), if_pos (by rw [← eva qa]; exact pe)]
          have hnz : (held 0 != held 0) = false := by simp
          simp only [e15, e16', e17, e18, e19, e2, e7, e8, e9, e10, e11, e12, pa1, u_putpg, h10, hz, hnz, wrap_w64, wi, ↓D0, ↓D1, ↓D2, ↓D3, ↓D4, ↓D5, ↓D6, ↓D7, ↓D8, ↓D9, U0, U1, U2, U3, U4, U5, U6, U7, U8, U9, U10, ↓reduceIte, Nat.reduceAdd, Nat.reduceMul, Nat.reduceSub, Nat.reduceEqDiff, Nat.reduceBEq, Nat.reduceLeDiff, Nat.reduceLT, Int.reduceAdd, Int.reduceMul, Int.reduceSub, Int.reduceLT, Int.reduceLE, Int.reduceToNat, Int.reduceEq, Int.reduceNe, Int.reduceBEq, Int.reduceBNe, ne_eq, eq_self]
          exact ⟨K _ (by simp [gt, e15]) (by simp [gt, e16]) (by simp [gt, e17]) (by simp [gt, e18]) ⟨by simp [gt, e2], by simp [gt, e7], by simp [gt, e8], by simp [gt, e9], by simp [gt, e10], by simp [gt, e11], by simp [gt, e12]⟩ (by simp [gt]), by simp [gt, iv, e19]; omega⟩
        · have e16' : gt F' 16 = .bool true := by rw [e16, qa]
          have hz : w.get (2 + j) = body va := by rw [hwa j h0 hlt qa (by rw [← eva qa]; omega) (by rw [← eva qa]; omega), if_neg (by rw [← eva qa]; omega), eva qa]
          have hnz : (body va != body va) = false := by simp
          have wv := wva qa
          simp only [e15, e16', e17, e18, e19, e2, e7, e8, e9, e10, e11, e12, pa1, pa2, wrap_w64, wv, pa3, u_putpg, hbd, hz, hnz, wi, ↓D0, ↓D1, ↓D2, ↓D3, ↓D4, ↓D5, ↓D6, ↓D7, ↓D8, ↓D9, U0, U1, U2, U3, U4, U5, U6, U7, U8, U9, U10, ↓reduceIte, Nat.reduceAdd, Nat.reduceMul, Nat.reduceSub, Nat.reduceEqDiff, Nat.reduceBEq, Nat.reduceLeDiff, Nat.reduceLT, Int.reduceAdd, Int.reduceMul, Int.reduceSub, Int.reduceLT, Int.reduceLE, Int.reduceToNat, Int.reduceEq, Int.reduceNe, Int.reduceBEq, Int.reduceBNe, ne_eq, eq_self]
          exact ⟨K _ (by simp [gt, e15]) (by simp [gt, e16]) (by simp [gt, e17]) (by simp [gt, e18]) ⟨by simp [gt, e2], by simp [gt, e7], by simp [gt, e8], by simp [gt, e9], by simp [gt, e10], by simp [gt, e11], by simp [gt, e12]⟩ (by simp [gt]), by simp [gt, iv, e19]; omega⟩
        · have wv := wva qa
          have e16' : gt F' 16 = .bool true := by rw [e16, qa]
          rcases pos_cases fb j vb Y with ⟨qb, pb1, pe⟩ | ⟨qb, pb1, pb2, pb3, pr'⟩ | ⟨qb, pb1, pb2, pb3, pr'⟩ | ⟨qb, pb1, pb2, pr'⟩ | qb
          · have e18' : gt F' 18 = .bool true := by rw [e18, qb]
            have hz : w.get (2 + j) = held 1 := by rw [hwb j h0 hlt qb (by rw [← evb qb]; omega) (by rw [← evb qb]; omega), if_pos (by rw [← evb qb]; exact pe)]
            have hnz : (held 1 != held 1) = false := by simp
            simp only [e15, e16', e17, e18', e19, e2, e7, e8, e9, e10, e11, e12, pa1, pa2, wrap_w64, wv, pa3, pb1, u_putpg, h11, hz, hnz, wrap_w64, wi, ↓D0, ↓D1, ↓D2, ↓D3, ↓D4, ↓D5, ↓D6, ↓D7, ↓D8, ↓D9, U0, U1, U2, U3, U4, U5, U6, U7, U8, U9, U10, ↓reduceIte, Nat.reduceAdd, Nat.reduceMul, Nat.reduceSub, Nat.reduceEqDiff, Nat.reduceBEq, Nat.reduceLeDiff, Nat.reduceLT, Int.reduceAdd, Int.reduceMul, Int.reduceSub, Int.reduceLT, Int.reduceLE, Int.reduceToNat, Int.reduceEq, Int.reduceNe, Int.reduceBEq, Int.reduceBNe, ne_eq, eq_self]
            exact ⟨K _ (by simp [gt, e15]) (by simp [gt, e16]) (by simp [gt, e17]) (by simp [gt, e18]) ⟨by simp [gt, e2], by simp [gt, e7], by simp [gt, e8], by simp [gt, e9], by simp [gt, e10], by simp [gt, e11], by simp [gt, e12]⟩ (by simp [gt]), by simp [gt, iv, e19]; omega⟩
          · have e18' : gt F' 18 = .bool true := by rw [e18, qb]
            have hz : w.get (2 + j) = body vb := by rw [hwb j h0 hlt qb (by rw [← evb qb]; omega) (by rw [← evb qb]; omega), if_neg (by rw [← evb qb]; omega), evb qb]
            have hnz : (body vb != body vb) = false := by simp
            have wv' := wvb qb
            simp only [e15, e16', e17, e18', e19, e2, e7, e8, e9, e10, e11, e12, pa1, pa2, wrap_w64, wv, pa3, pb1, pb2, wrap_w64, wv', pb3, u_putpg, hbd, hz, hnz, wi, ↓D0, ↓D1, ↓D2, ↓D3, ↓D4, ↓D5, ↓D6, ↓D7, ↓D8, ↓D9, U0, U1, U2, U3, U4, U5, U6, U7, U8, U9, U10, ↓reduceIte, Nat.reduceAdd, Nat.reduceMul, Nat.reduceSub, Nat.reduceEqDiff, Nat.reduceBEq, Nat.reduceLeDiff, Nat.reduceLT, Int.reduceAdd, Int.reduceMul, Int.reduceSub, Int.reduceLT, Int.reduceLE, Int.reduceToNat, Int.reduceEq, Int.reduceNe, Int.reduceBEq, Int.reduceBNe, ne_eq, eq_self]
            exact ⟨K _ (by simp [gt, e15]) (by simp [gt, e16]) (by simp [gt, e17]) (by simp [gt, e18]) ⟨by simp [gt, e2], by simp [gt, e7], by simp [gt, e8], by simp [gt, e9], by simp [gt, e10], by simp [gt, e11], by simp [gt, e12]⟩ (by simp [gt]), by simp [gt, iv, e19]; omega⟩
          · have hz : w.get (2 + j) = 0 := hwz j h0 hlt (.inr (by rw [← eva qa]; exact pr)) (.inr (by rw [← evb qb]; exact pr'))
            have wv' := wvb qb
            have e18' : gt F' 18 = .bool true := by rw [e18, qb]
            simp only [e15, e16', e17, e18', e19, e2, e7, e8, e9, e10, e11, e12, pa1, pa2, wrap_w64, wv, pa3, wrap_w64, pb1, pb2, wv', pb3, hz, wi, ↓D0, ↓D1, ↓D2, ↓D3, ↓D4, ↓D5, ↓D6, ↓D7, ↓D8, ↓D9, U0, U1, U2, U3, U4, U5, U6, U7, U8, U9, U10, ↓reduceIte, Nat.reduceAdd, Nat.reduceMul, Nat.reduceSub, Nat.reduceEqDiff, Nat.reduceBEq, Nat.reduceLeDiff, Nat.reduceLT, Int.reduceAdd, Int.reduceMul, Int.reduceSub, Int.reduceLT, Int.reduceLE, Int.reduceToNat, Int.reduceEq, Int.reduceNe, Int.reduceBEq, Int.reduceBNe, ne_eq, eq_self]
            exact ⟨K _ (by simp [gt, e15]) (by simp [gt, e16]) (by simp [gt, e17]) (by simp [gt, e18]) ⟨by simp [gt, e2], by simp [gt, e7], by simp [gt, e8], by simp [gt, e9], by simp [gt, e10], by simp [gt, e11], by simp [gt, e12]⟩ (by simp [gt]), by simp [gt, iv, e19]; omega⟩
          · have hz : w.get (2 + j) = 0 := hwz j h0 hlt (.inr (by rw [← eva qa]; exact pr)) (.inr (by rw [← evb qb]; exact pr'))
            have e18' : gt F' 18 = .bool true := by rw [e18, qb]
            simp only [e15, e16', e17, e18', e19, e2, e7, e8, e9, e10, e11, e12, pa1, pa2, wrap_w64, wv, pa3, wrap_w64, pb1, pb2, hz, wi, ↓D0, ↓D1, ↓D2, ↓D3, ↓D4, ↓D5, ↓D6, ↓D7, ↓D8, ↓D9, U0, U1, U2, U3, U4, U5, U6, U7, U8, U9, U10, ↓reduceIte, Nat.reduceAdd, Nat.reduceMul, Nat.reduceSub, Nat.reduceEqDiff, Nat.reduceBEq, Nat.reduceLeDiff, Nat.reduceLT, Int.reduceAdd, Int.reduceMul, Int.reduceSub, Int.reduceLT, Int.reduceLE, Int.reduceToNat, Int.reduceEq, Int.reduceNe, Int.reduceBEq, Int.reduceBNe, ne_eq, eq_self]
            exact ⟨K _ (by simp [gt, e15]) (by simp [gt, e16]) (by simp [gt, e17]) (by simp [gt, e18]) ⟨by simp [gt, e2], by simp [gt, e7], by simp [gt, e8], by simp [gt, e9], by simp [gt, e10], by simp [gt, e11], by simp [gt, e12]⟩ (by simp [gt]), by simp [gt, iv, e19]; omega⟩
          · have hz : w.get (2 + j) = 0 := hwz j h0 hlt (.inr (by rw [← eva qa]; exact pr)) (.inl qb)
            have e18' : gt F' 18 = .bool false := by rw [e18, qb]
            simp only [e15, e16', e17, e18', e19, e2, e7, e8, e9, e10, e11, e12, pa1, pa2, wrap_w64, wv, pa3, wrap_w64, hz, wi, ↓D0, ↓D1, ↓D2, ↓D3, ↓D4, ↓D5, ↓D6, ↓D7, ↓D8, ↓D9, U0, U1, U2, U3, U4, U5, U6, U7, U8, U9, U10, ↓reduceIte, Nat.reduceAdd, Nat.reduceMul, Nat.reduceSub, Nat.reduceEqDiff, Nat.reduceBEq, Nat.reduceLeDiff, Nat.reduceLT, Int.reduceAdd, Int.reduceMul, Int.reduceSub, Int.reduceLT, Int.reduceLE, Int.reduceToNat, Int.reduceEq, Int.reduceNe, Int.reduceBEq, Int.reduceBNe, ne_eq, eq_self]
            exact ⟨K _ (by simp [gt, e15]) (by simp [gt, e16]) (by simp [gt, e17]) (by simp [gt, e18]) ⟨by simp [gt, e2], by simp [gt, e7], by simp [gt, e8], by simp [gt, e9], by simp [gt, e10], by simp [gt, e11], by simp [gt, e12]⟩ (by simp [gt]), by simp [gt, iv, e19]; omega⟩
        · have e16' : gt F' 16 = .bool true := by rw [e16, qa]
          rcases pos_cases fb j vb Y with ⟨qb, pb1, pe⟩ | ⟨qb, pb1, pb2, pb3, pr'⟩ | ⟨qb, pb1, pb2, pb3, pr'⟩ | ⟨qb, pb1, pb2, pr'⟩ | qb
          · have e18' : gt F' 18 = .bool true := by rw [e18, qb]
            have hz : w.get (2 + j) = held 1 := by rw [hwb j h0 hlt qb (by rw [← evb qb]; omega) (by rw [← evb qb]; omega), if_pos (by rw [← evb qb]; exact pe)]
            have hnz : (held 1 != held 1) = false := by simp
            simp only [e15, e16', e17, e18', e19, e2, e7, e8, e9, e10, e11, e12, pa1, pa2, pb1, u_putpg, h11, hz, hnz, wrap_w64, wi, ↓D0, ↓D1, ↓D2, ↓D3, ↓D4, ↓D5, ↓D6, ↓D7, ↓D8, ↓D9, U0, U1, U2, U3, U4, U5, U6, U7, U8, U9, U10, ↓reduceIte, Nat.reduceAdd, Nat.reduceMul, Nat.reduceSub, Nat.reduceEqDiff, Nat.reduceBEq, Nat.reduceLeDiff, Nat.reduceLT, Int.reduceAdd, Int.reduceMul, Int.reduceSub, Int.reduceLT, Int.reduceLE, Int.reduceToNat, Int.reduceEq, Int.reduceNe, Int.reduceBEq, Int.reduceBNe, ne_eq, eq_self]
            exact ⟨K _ (by simp [gt, e15]) (by simp [gt, e16]) (by simp [gt, e17]) (by simp [gt, e18]) ⟨by simp [gt, e2], by simp [gt, e7], by simp [gt, e8], by simp [gt, e9], by simp [gt, e10], by simp [gt, e11], by simp [gt, e12]⟩ (by simp [gt]), by simp [gt, iv, e19]; omega⟩
          · have e18' : gt F' 18 = .bool true := by rw [e18, qb]
            have hz : w.get (2 + j) = body vb := by rw [hwb j h0 hlt qb (by rw [← evb qb]; omega) (by rw [← evb qb]; omega), if_neg (by rw [← evb qb]; omega), evb qb]
            have hnz : (body vb != body vb) = false := by simp
            have wv' := wvb qb
            simp only [e15, e16', e17, e18', e19, e2, e7, e8, e9, e10, e11, e12, pa1, pa2, pb1, pb2, wrap_w64, wv', pb3, u_putpg, hbd, hz, hnz, wi, ↓D0, ↓D1, ↓D2, ↓D3, ↓D4, ↓D5, ↓D6, ↓D7, ↓D8, ↓D9, U0, U1, U2, U3, U4, U5, U6, U7, U8, U9, U10, ↓reduceIte, Nat.reduceAdd, Nat.reduceMul, Nat.reduceSub, Nat.reduceEqDiff, Nat.reduceBEq, Nat.reduceLeDiff, Nat.reduceLT, Int.reduceAdd, Int.reduceMul, Int.reduceSub, Int.reduceLT, Int.reduceLE, Int.reduceToNat, Int.reduceEq, Int.reduceNe, Int.reduceBEq, Int.reduceBNe, ne_eq, eq_self]
            exact ⟨K _ (by simp [gt, e15]) (by simp [gt, e16]) (by simp [gt, e17]) (by simp [gt, e18]) ⟨by simp [gt, e2], by simp [gt, e7], by simp [gt, e8], by simp [gt, e9], by simp [gt, e10], by simp [gt, e11], by simp [gt, e12]⟩ (by simp [gt]), by simp [gt, iv, e19]; omega⟩
          · have hz : w.get (2 + j) = 0 := hwz j h0 hlt (.inr (by rw [← eva qa]; exact pr)) (.inr (by rw [← evb qb]; exact pr'))
            have wv' := wvb qb
            have e18' : gt F' 18 = .bool true := by rw [e18, qb]
            simp only [e15, e16', e17, e18', e19, e2, e7, e8, e9, e10, e11, e12, pa1, pa2, wrap_w64, pb1, pb2, wv', pb3, hz, wi, ↓D0, ↓D1, ↓D2, ↓D3, ↓D4, ↓D5, ↓D6, ↓D7, ↓D8, ↓D9, U0, U1, U2, U3, U4, U5, U6, U7, U8, U9, U10, ↓reduceIte, Nat.reduceAdd, Nat.reduceMul, Nat.reduceSub, Nat.reduceEqDiff, Nat.reduceBEq, Nat.reduceLeDiff, Nat.reduceLT, Int.reduceAdd, Int.reduceMul, Int.reduceSub, Int.reduceLT, Int.reduceLE, Int.reduceToNat, Int.reduceEq, Int.reduceNe, Int.reduceBEq, Int.reduceBNe, ne_eq, eq_self]
            exact ⟨K _ (by simp [gt, e15]) (by simp [gt, e16]) (by simp [gt, e17]) (by simp [gt, e18]) ⟨by simp [gt, e2], by simp [gt, e7], by simp [gt, e8], by simp [gt, e9], by simp [gt, e10], by simp [gt, e11], by simp [gt, e12]⟩ (by simp [gt]), by simp [gt, iv, e19]; omega⟩
          · have hz : w.get (2 + j) = 0 := hwz j h0 hlt (.inr (by rw [← eva qa]; exact pr)) (.inr (by rw [← evb qb]; exact pr'))
            have e18' : gt F' 18 = .bool true := by rw [e18, qb]
            simp only [e15, e16', e17, e18', e19, e2, e7, e8, e9, e10, e11, e12, pa1, pa2, wrap_w64, pb1, pb2, hz, wi, ↓D0, ↓D1, ↓D2, ↓D3, ↓D4, ↓D5, ↓D6, ↓D7, ↓D8, ↓D9, U0, U1, U2, U3, U4, U5, U6, U7, U8, U9, U10, ↓reduceIte, Nat.reduceAdd, Nat.reduceMul, Nat.reduceSub, Nat.reduceEqDiff, Nat.reduceBEq, Nat.reduceLeDiff, Nat.reduceLT, Int.reduceAdd, Int.reduceMul, Int.reduceSub, Int.reduceLT, Int.reduceLE, Int.reduceToNat, Int.reduceEq, Int.reduceNe, Int.reduceBEq, Int.reduceBNe, ne_eq, eq_self]
            exact ⟨K _ (by simp [gt, e15]) (by simp [gt, e16]) (by simp [gt, e17]) (by simp [gt, e18]) ⟨by simp [gt, e2], by simp [gt, e7], by simp [gt, e8], by simp [gt, e9], by simp [gt, e10], by simp [gt, e11], by simp [gt, e12]⟩ (by simp [gt]), by simp [gt, iv, e19]; omega⟩
          · have hz : w.get (2 + j) = 0 := hwz j h0 hlt (.inr (by rw [← eva qa]; exact pr)) (.inl qb)
            have e18' : gt F' 18 = .bool false := by rw [e18, qb]
            simp only [e15, e16', e17, e18', e19, e2, e7, e8, e9, e10, e11, e12, pa1, pa2, wrap_w64, hz, wi, ↓D0, ↓D1, ↓D2, ↓D3, ↓D4, ↓D5, ↓D6, ↓D7, ↓D8, ↓D9, U0, U1, U2, U3, U4, U5, U6, U7, U8, U9, U10, ↓reduceIte, Nat.reduceAdd, Nat.reduceMul, Nat.reduceSub, Nat.reduceEqDiff, Nat.reduceBEq, Nat.reduceLeDiff, Nat.reduceLT, Int.reduceAdd, Int.reduceMul, Int.reduceSub, Int.reduceLT, Int.reduceLE, Int.reduceToNat, Int.reduceEq, Int.reduceNe, Int.reduceBEq, Int.reduceBNe, ne_eq, eq_self]
            exact ⟨K _ (by simp [gt, e15]) (by simp [gt, e16]) (by simp [gt, e17]) (by simp [gt, e18]) ⟨by simp [gt, e2], by simp [gt, e7], by simp [gt, e8], by simp [gt, e9], by simp [gt, e10], by simp [gt, e11], by simp [gt, e12]⟩ (by simp [gt]), by simp [gt, iv, e19]; omega⟩
        · have e16' : gt F' 16 = .bool false := by rw [e16, qa]
          rcases pos_cases fb j vb Y with ⟨qb, pb1, pe⟩ | ⟨qb, pb1, pb2, pb3, pr'⟩ | ⟨qb, pb1, pb2, pb3, pr'⟩ | ⟨qb, pb1, pb2, pr'⟩ | qb
          · have e18' : gt F' 18 = .bool true := by rw [e18, qb]
            have hz : w.get (2 + j) = held 1 := by rw [hwb j h0 hlt qb (by rw [← evb qb]; omega) (by rw [← evb qb]; omega), if_pos (by rw [← evb qb]; exact pe)]
            have hnz : (held 1 != held 1) = false := by simp
            simp only [e15, e16', e17, e18', e19, e2, e7, e8, e9, e10, e11, e12, pb1, u_putpg, h11, hz, hnz, wrap_w64, wi, ↓D0, ↓D1, ↓D2, ↓D3, ↓D4, ↓D5, ↓D6, ↓D7, ↓D8, ↓D9, U0, U1, U2, U3, U4, U5, U6, U7, U8, U9, U10, ↓reduceIte, Nat.reduceAdd, Nat.reduceMul, Nat.reduceSub, Nat.reduceEqDiff, Nat.reduceBEq, Nat.reduceLeDiff, Nat.reduceLT, Int.reduceAdd, Int.reduceMul, Int.reduceSub, Int.reduceLT, Int.reduceLE, Int.reduceToNat, Int.reduceEq, Int.reduceNe, Int.reduceBEq, Int.reduceBNe, ne_eq, eq_self]
            exact ⟨K _ (by simp [gt, e15]) (by simp [gt, e16]) (by simp [gt, e17]) (by simp [gt, e18]) ⟨by simp [gt, e2], by simp [gt, e7], by simp [gt, e8], by simp [gt, e9], by simp [gt, e10], by simp [gt, e11], by simp [gt, e12]⟩ (by simp [gt]), by simp [gt, iv, e19]; omega⟩
          · have e18' : gt F' 18 = .bool true := by rw [e18, qb]
            have hz : w.get (2 + j) = body vb := by rw [hwb j h0 hlt qb (by rw [← evb qb]; omega) (by rw [← evb qb]; omega), if_neg (by rw [← evb qb]; omega), evb qb]
            have hnz : (body vb != body vb) = false := by simp
            have wv' := wvb qb
            simp only [e15, e16', e17, e18', e19, e2, e7, e8, e9, e10, e11, e12, pb1, pb2, wrap_w64, wv', pb3, u_putpg, hbd, hz, hnz, wi, ↓D0, ↓D1, ↓D2, ↓D3, ↓D4, ↓D5, ↓D6, ↓D7, ↓D8, ↓D9, U0, U1, U2, U3, U4, U5, U6, U7, U8, U9, U10, ↓reduceIte, Nat.reduceAdd, Nat.reduceMul, Nat.reduceSub, Nat.reduceEqDiff, Nat.reduceBEq, Nat.reduceLeDiff, Nat.reduceLT, Int.reduceAdd, Int.reduceMul, Int.reduceSub, Int.reduceLT, Int.reduceLE, Int.reduceToNat, Int.reduceEq, Int.reduceNe, Int.reduceBEq, Int.reduceBNe, ne_eq, eq_self]
            exact ⟨K _ (by simp [gt, e15]) (by simp [gt, e16]) (by simp [gt, e17]) (by simp [gt, e18]) ⟨by simp [gt, e2], by simp [gt, e7], by simp [gt, e8], by simp [gt, e9], by simp [gt, e10], by simp [gt, e11], by simp [gt, e12]⟩ (by simp [gt]), by simp [gt, iv, e19]; omega⟩
          · have hz : w.get (2 + j) = 0 := hwz j h0 hlt (.inl qa) (.inr (by rw [← evb qb]; exact pr'))
            have wv' := wvb qb
            have e18' : gt F' 18 = .bool true := by rw [e18, qb]
            simp only [e15, e16', e17, e18', e19, e2, e7, e8, e9, e10, e11, e12, wrap_w64, pb1, pb2, wv', pb3, hz, wi, ↓D0, ↓D1, ↓D2, ↓D3, ↓D4, ↓D5, ↓D6, ↓D7, ↓D8, ↓D9, U0, U1, U2, U3, U4, U5, U6, U7, U8, U9, U10, ↓reduceIte, Nat.reduceAdd, Nat.reduceMul, Nat.reduceSub, Nat.reduceEqDiff, Nat.reduceBEq, Nat.reduceLeDiff, Nat.reduceLT, Int.reduceAdd, Int.reduceMul, Int.reduceSub, Int.reduceLT, Int.reduceLE, Int.reduceToNat, Int.reduceEq, Int.reduceNe, Int.reduceBEq, Int.reduceBNe, ne_eq, eq_self]
            exact ⟨K _ (by simp [gt, e15]) (by simp [gt, e16]) (by simp [gt, e17]) (by simp [gt, e18]) ⟨by simp [gt, e2], by simp [gt, e7], by simp [gt, e8], by simp [gt, e9], by simp [gt, e10], by simp [gt, e11], by simp [gt, e12]⟩ (by simp [gt]), by simp [gt, iv, e19]; omega⟩
          · have hz : w.get (2 + j) = 0 := hwz j h0 hlt (.inl qa) (.inr (by rw [← evb qb]; exact pr'))
            have e18' : gt F' 18 = .bool true := by rw [e18, qb]
            simp only [e15, e16', e17, e18', e19, e2, e7, e8, e9, e10, e11, e12, wrap_w64, pb1, pb2, hz, wi, ↓D0, ↓D1, ↓D2, ↓D3, ↓D4, ↓D5, ↓D6, ↓D7, ↓D8, ↓D9, U0, U1, U2, U3, U4, U5, U6, U7, U8, U9, U10, ↓reduceIte, Nat.reduceAdd, Nat.reduceMul, Nat.reduceSub, Nat.reduceEqDiff, Nat.reduceBEq, Nat.reduceLeDiff, Nat.reduceLT, Int.reduceAdd, Int.reduceMul, Int.reduceSub, Int.reduceLT, Int.reduceLE, Int.reduceToNat, Int.reduceEq, Int.reduceNe, Int.reduceBEq, Int.reduceBNe, ne_eq, eq_self]
            exact ⟨K _ (by simp [gt, e15]) (by simp [gt, e16]) (by simp [gt, e17]) (by simp [gt, e18]) ⟨by simp [gt, e2], by simp [gt, e7], by simp [gt, e8], by simp [gt, e9], by simp [gt, e10], by simp [gt, e11], by simp [gt, e12]⟩ (by simp [gt]), by simp [gt, iv, e19]; omega⟩
          · have hz : w.get (2 + j) = 0 := hwz j h0 hlt (.inl qa) (.inl qb)
            have e18' : gt F' 18 = .bool false := by rw [e18, qb]
            simp only [e15, e16', e17, e18', e19, e2, e7, e8, e9, e10, e11, e12, wrap_w64, hz, wi, ↓D0, ↓D1, ↓D2, ↓D3, ↓D4, ↓D5, ↓D6, ↓D7, ↓D8, ↓D9, U0, U1, U2, U3, U4, U5, U6, U7, U8, U9, U10, ↓reduceIte, Nat.reduceAdd, Nat.reduceMul, Nat.reduceSub, Nat.reduceEqDiff, Nat.reduceBEq, Nat.reduceLeDiff, Nat.reduceLT, Int.reduceAdd, Int.reduceMul, Int.reduceSub, Int.reduceLT, Int.reduceLE, Int.reduceToNat, Int.reduceEq, Int.reduceNe, Int.reduceBEq, Int.reduceBNe, ne_eq, eq_self]
            exact ⟨K _ (by simp [gt, e15]) (by simp [gt, e16]) (by simp [gt, e17]) (by simp [gt, e18]) ⟨by simp [gt, e2], by simp [gt, e7], by simp [gt, e8], by simp [gt, e9], by simp [gt, e10], by simp [gt, e11], by simp [gt, e12]⟩ (by simp [gt]), by simp [gt, iv, e19]; omega⟩
      have d1 : decide (j < P) = false := decide_eq_false hlt
      have hx1 := hS.lk 2 rfl
      have r0 := fun o => rd_of hx1 o
      have hST := hS.tail.tail.tail
      by_cases gX : P < X
      · have dX : decide (P < X) = true := decide_eq_true gX
        simp only [e15, e16, e17, e18, e19, e2, e7, e8, e9, e10, e11, e12, hx1, r0, d1, dX, ↓D0, ↓D1, ↓D2, ↓D3, ↓D4, ↓D5, ↓D6, ↓D7, ↓D8, ↓D9, U0, U1, U2, U3, U4, U5, U6, U7, U8, U9, U10, ↓reduceIte, Nat.reduceAdd, Nat.reduceMul, Nat.reduceSub, Nat.reduceEqDiff, Nat.reduceBEq, Nat.reduceLeDiff, Nat.reduceLT, Int.reduceAdd, Int.reduceMul, Int.reduceSub, Int.reduceLT, Int.reduceLE, Int.reduceToNat, Int.reduceEq, Int.reduceNe, Int.reduceBEq, Int.reduceBNe, ne_eq, eq_self]
        first | exact hST | exact ⟨rfl, hST⟩
      have dX : decide (P < X) = false := decide_eq_false gX
      by_cases gY : P < Y
      · have dY : decide (P < Y) = true := decide_eq_true gY
        simp only [e15, e16, e17, e18, e19, e2, e7, e8, e9, e10, e11, e12, hx1, r0, d1, dX, dY, ↓D0, ↓D1, ↓D2, ↓D3, ↓D4, ↓D5, ↓D6, ↓D7, ↓D8, ↓D9, U0, U1, U2, U3, U4, U5, U6, U7, U8, U9, U10, ↓reduceIte, Nat.reduceAdd, Nat.reduceMul, Nat.reduceSub, Nat.reduceEqDiff, Nat.reduceBEq, Nat.reduceLeDiff, Nat.reduceLT, Int.reduceAdd, Int.reduceMul, Int.reduceSub, Int.reduceLT, Int.reduceLE, Int.reduceToNat, Int.reduceEq, Int.reduceNe, Int.reduceBEq, Int.reduceBNe, ne_eq, eq_self]
        first | exact hST | exact ⟨rfl, hST⟩
      have dY : decide (P < Y) = false := decide_eq_false gY
      rcases hone (by omega) (by omega) with qf | qf
      · rw [qf] at e16
        simp only [e15, e16, e17, e18, e19, e2, e7, e8, e9, e10, e11, e12, hx1, r0, d1, dX, dY, ↓D0, ↓D1, ↓D2, ↓D3, ↓D4, ↓D5, ↓D6, ↓D7, ↓D8, ↓D9, U0, U1, U2, U3, U4, U5, U6, U7, U8, U9, U10, ↓reduceIte, Nat.reduceAdd, Nat.reduceMul, Nat.reduceSub, Nat.reduceEqDiff, Nat.reduceBEq, Nat.reduceLeDiff, Nat.reduceLT, Int.reduceAdd, Int.reduceMul, Int.reduceSub, Int.reduceLT, Int.reduceLE, Int.reduceToNat, Int.reduceEq, Int.reduceNe, Int.reduceBEq, Int.reduceBNe, ne_eq, eq_self]
        first | exact hST | exact ⟨rfl, hST⟩
      · rw [qf] at e18
        cases qg : fa
        · rw [qg] at e16
          simp only [e15, e16, e17, e18, e19, e2, e7, e8, e9, e10, e11, e12, hx1, r0, d1, dX, dY, ↓D0, ↓D1, ↓D2, ↓D3, ↓D4, ↓D5, ↓D6, ↓D7, ↓D8, ↓D9, U0, U1, U2, U3, U4, U5, U6, U7, U8, U9, U10, ↓reduceIte, Nat.reduceAdd, Nat.reduceMul, Nat.reduceSub, Nat.reduceEqDiff, Nat.reduceBEq, Nat.reduceLeDiff, Nat.reduceLT, Int.reduceAdd, Int.reduceMul, Int.reduceSub, Int.reduceLT, Int.reduceLE, Int.reduceToNat, Int.reduceEq, Int.reduceNe, Int.reduceBEq, Int.reduceBNe, ne_eq, eq_self]
          first | exact hST | exact ⟨rfl, hST⟩
        · rw [qg] at e16
          simp only [e15, e16, e17, e18, e19, e2, e7, e8, e9, e10, e11, e12, hx1, r0, d1, dX, dY, ↓D0, ↓D1, ↓D2, ↓D3, ↓D4, ↓D5, ↓D6, ↓D7, ↓D8, ↓D9, U0, U1, U2, U3, U4, U5, U6, U7, U8, U9, U10, ↓reduceIte, Nat.reduceAdd, Nat.reduceMul, Nat.reduceSub, Nat.reduceEqDiff, Nat.reduceBEq, Nat.reduceLeDiff, Nat.reduceLT, Int.reduceAdd, Int.reduceMul, Int.reduceSub, Int.reduceLT, Int.reduceLE, Int.reduceToNat, Int.reduceEq, Int.reduceNe, Int.reduceBEq, Int.reduceBNe, ne_eq, eq_self]
          first | exact hST | exact ⟨rfl, hST⟩
    · have v2 : vb = tb.hd := evb q2
      simp only [e14, e2, e7, e8, e9, e10, e11, e12, dB, hfa, hfb, q1, q2, ↓D0, ↓D1, ↓D2, ↓D3, ↓D4, ↓D5, ↓D6, ↓D7, ↓D8, ↓D9, U0, U1, U2, U3, U4, U5, U6, U7, U8, U9, U10, ↓reduceIte, Nat.reduceAdd, Nat.reduceMul, Nat.reduceSub, Nat.reduceEqDiff, Nat.reduceBEq, Nat.reduceLeDiff, Nat.reduceLT, Int.reduceAdd, Int.reduceMul, Int.reduceSub, Int.reduceLT, Int.reduceLE, Int.reduceToNat, Int.reduceEq, Int.reduceNe, Int.reduceBEq, Int.reduceBNe, ne_eq, eq_self]
      refine loop_intro (rtB P X Y va vb fa fb n cap a x b ka kb s w (h :: l)) (fun F' _ => (P - iv (gt F' 19)).toNat)
        (GO _ (by simp [gt, v1]) (by simp [gt, q1]) (by simp [gt, v2]) (by simp [gt, q2]) ⟨by simp [gt, e2], by simp [gt, e7], by simp [gt, e8], by simp [gt, e9], by simp [gt, e10], by simp [gt, e11], by simp [gt, e12]⟩ (by simp [gt])) ?_
      rintro F' H' ⟨j, h0, h1, e19, e15, e16, e17, e18, ⟨e2, e7, e8, e9, e10, e11, e12⟩, hS⟩
      have hx1 := hS.lk 2 rfl
      have r0 := fun o => rd_of hx1 o
      have r1 := fun o n => rdn_of hx1 o n
      by_cases hlt : j < P
      · have d1 : decide (j < P) = true := decide_eq_true hlt
        have wi : w64 (j + 1) = j + 1 := w64_eq (by omega) (by omega)
        have hpj := hpg j h0 hlt
        simp only [e15, e16, e17, e18, e19, e2, e7, e8, e9, e10, e11, e12, hx1, r0, r1, u_page, hpj, d1, ↓D0, ↓D1, ↓D2, ↓D3, ↓D4, ↓D5, ↓D6, ↓D7, ↓D8, ↓D9, U0, U1, U2, U3, U4, U5, U6, U7, U8, U9, U10, ↓reduceIte, Nat.reduceAdd, Nat.reduceMul, Nat.reduceSub, Nat.reduceEqDiff, Nat.reduceBEq, Nat.reduceLeDiff, Nat.reduceLT, Int.reduceAdd, Int.reduceMul, Int.reduceSub, Int.reduceLT, Int.reduceLE, Int.reduceToNat, Int.reduceEq, Int.reduceNe, Int.reduceBEq, Int.reduceBNe, ne_eq, eq_self]
        refine callT_of (c_look (2 + j) (by omega) (by omega) hS) ?_
        rintro v H' ⟨rfl, hS⟩
        have K : ∀ (F2 : Fr), gt F2 15 = .int .i64 va → gt F2 16 = .bool fa → gt F2 17 = .int .i64 vb → gt F2 18 = .bool fb → rtG P X Y n cap a x b ka kb F2 → gt F2 19 = .int .i64 (j + 1) →
            rtB P X Y va vb fa fb n cap a x b ka kb s w (h :: l) F2 H' := fun F2 q15 q16 q17 q18 qg q19 => ⟨j + 1, by omega, by omega, q19, q15, q16, q17, q18, qg, hS⟩
        have h10 : putPg 1 0 0 = held 0 := rfl
        have h11 : putPg 1 1 0 = held 1 := rfl
        have hbd : ∀ x, putPg 4 x 0 = body x := fun _ => rfl
        rcases pos_cases fa j va X with ⟨qa, pa1, pe⟩ | ⟨qa, pa1, pa2, pa3, pr⟩ | ⟨qa, pa1, pa2, pa3, pr⟩ | ⟨qa, pa1, pa2, pr⟩ | qa
        · have e16' : gt F' 16 = .bool true := by rw [e16, qa]
          have hz : w.get (2 + j) = held 0 := by rw [hwa j h0 hlt qa (by rw [← eva qa]; omega) (by rw [← eva qa]; omega), if_pos (by rw [← eva qa]; exact pe)]
          have hnz : (held 0 != held 0) = false := by simp
          simp only [e15, e16', e17, e18, e19, e2, e7, e8, e9, e10, e11, e12, pa1, u_putpg, h10, hz, hnz, wrap_w64, wi, ↓D0, ↓D1, ↓D2, ↓D3, ↓D4, ↓D5, ↓D6, ↓D7, ↓D8, ↓D9, U0, U1, U2, U3, U4, U5, U6, U7, U8, U9, U10, ↓reduceIte, Nat.reduceAdd, Nat.reduceMul, Nat.reduceSub, Nat.reduceEqDiff, Nat.reduceBEq, Nat.reduceLeDiff, Nat.reduceLT, Int.reduceAdd, Int.reduceMul, Int.reduceSub, Int.reduceLT, Int.reduceLE, Int.reduceToNat, Int.reduceEq, Int.reduceNe, Int.reduceBEq, Int.reduceBNe, ne_eq, eq_self]
          exact ⟨K _ (by simp [gt, e15]) (by simp [gt, e16]) (by simp [gt, e17]) (by simp [gt, e18]) ⟨by simp [gt, e2], by simp [gt, e7], by simp [gt, e8], by simp [gt, e9], by simp [gt, e10], by simp [gt, e11], by simp [gt, e12]⟩ (by simp [gt]), by simp [gt, iv, e19]; omega⟩
        · have e16' : gt F' 16 = .bool true := by rw [e16, qa]
          have hz : w.get (2 + j) = body va := by rw [hwa j h0 hlt qa (by rw [← eva qa]; omega) (by rw [← eva qa]; omega), if_neg (by rw [← eva qa]; omega), eva qa]
          have hnz : (body va != body va) = false := by simp
          have wv := wva qa
          simp only [e15, e16', e17, e18, e19, e2, e7, e8, e9, e10, e11, e12, pa1, pa2, wrap_w64, wv, pa3, u_putpg, hbd, hz, hnz, wi, ↓D0, ↓D1, ↓D2, ↓D3, ↓D4, ↓D5, ↓D6, ↓D7, ↓D8, ↓D9, U0, U1, U2, U3, U4, U5, U6, U7, U8, U9, U10, ↓reduceIte, Nat.reduceAdd, Nat.reduceMul, Nat.reduceSub, Nat.reduceEqDiff, Nat.reduceBEq, Nat.reduceLeDiff, Nat.reduceLT, Int.reduceAdd, Int.reduceMul, Int.reduceSub, Int.reduceLT, Int.reduceLE, Int.reduceToNat, Int.reduceEq, Int.reduceNe, Int.reduceBEq, Int.reduceBNe, ne_eq, eq_self]
          exact ⟨K _ (by simp [gt, e15]) (by simp [gt, e16]) (by simp [gt, e17]) (by simp [gt, e18]) ⟨by simp [gt, e2], by simp [gt, e7], by simp [gt, e8], by simp [gt, e9], by simp [gt, e10], by simp [gt, e11], by simp [gt, e12]⟩ (by simp [gt]), by simp [gt, iv, e19]; omega⟩
        · have wv := wva qa
          have e16' : gt F' 16 = .bool true := by rw [e16, qa]
          rcases pos_cases fb j vb Y with ⟨qb, pb1, pe⟩ | ⟨qb, pb1, pb2, pb3, pr'⟩ | ⟨qb, pb1, pb2, pb3, pr'⟩ | ⟨qb, pb1, pb2, pr'⟩ | qb
          · have e18' : gt F' 18 = .bool true := by rw [e18, qb]
            have hz : w.get (2 + j) = held 1 := by rw [hwb j h0 hlt qb (by rw [← evb qb]; omega) (by rw [← evb qb]; omega), if_pos (by rw [← evb qb]; exact pe)]
            have hnz : (held 1 != held 1) = false := by simp
            simp only [e15, e16', e17, e18', e19, e2, e7, e8, e9, e10, e11, e12, pa1, pa2, wrap_w64, wv, pa3, pb1, u_putpg, h11, hz, hnz, wrap_w64, wi, ↓D0, ↓D1, ↓D2, ↓D3, ↓D4, ↓D5, ↓D6, ↓D7, ↓D8, ↓D9, U0, U1, U2, U3, U4, U5, U6, U7, U8, U9, U10, ↓reduceIte, Nat.reduceAdd, Nat.reduceMul, Nat.reduceSub, Nat.reduceEqDiff, Nat.reduceBEq, Nat.reduceLeDiff, Nat.reduceLT, Int.reduceAdd, Int.reduceMul, Int.reduceSub, Int.reduceLT, Int.reduceLE, Int.reduceToNat, Int.reduceEq, Int.reduceNe, Int.reduceBEq, Int.reduceBNe, ne_eq, eq_self]
            exact ⟨K _ (by simp [gt, e15]) (by simp [gt, e16]) (by simp [gt, e17]) (by simp [gt, e18]) ⟨by simp [gt, e2], by simp [gt, e7], by simp [gt, e8], by simp [gt, e9], by simp [gt, e10], by simp [gt, e11], by simp [gt, e12]⟩ (by simp [gt]), by simp [gt, iv, e19]; omega⟩
          · have e18' : gt F' 18 = .bool true := by rw [e18, qb]
            have hz : w.get (2 + j) = body vb := by rw [hwb j h0 hlt qb (by rw [← evb qb]; omega) (by rw [← evb qb]; omega), if_neg (by rw [← evb qb]; omega), evb qb]
            have hnz : (body vb != body vb) = false := by simp
            have wv' := wvb qb
            simp only [e15, e16', e17, e18', e19, e2, e7, e8, e9, e10, e11, e12, pa1, pa2, wrap_w64, wv, pa3, pb1, pb2, wrap_w64, wv', pb3, u_putpg, hbd, hz, hnz, wi, ↓D0, ↓D1, ↓D2, ↓D3, ↓D4, ↓D5, ↓D6, ↓D7, ↓D8, ↓D9, U0, U1, U2, U3, U4, U5, U6, U7, U8, U9, U10, ↓reduceIte, Nat.reduceAdd, Nat.reduceMul, Nat.reduceSub, Nat.reduceEqDiff, Nat.reduceBEq, Nat.reduceLeDiff, Nat.reduceLT, Int.reduceAdd, Int.reduceMul, Int.reduceSub, Int.reduceLT, Int.reduceLE, Int.reduceToNat, Int.reduceEq, Int.reduceNe, Int.reduceBEq, Int.reduceBNe, ne_eq, eq_self]
            exact ⟨K _ (by simp [gt, e15]) (by simp [gt, e16]) (by simp [gt, e17]) (by simp [gt, e18]) ⟨by simp [gt, e2], by simp [gt, e7], by simp [gt, e8], by simp [gt, e9], by simp [gt, e10], by simp [gt, e11], by simp [gt, e12]⟩ (by simp [gt]), by simp [gt, iv, e19]; omega⟩
          · have hz : w.get (2 + j) = 0 := hwz j h0 hlt (.inr (by rw [← eva qa]; exact pr)) (.inr (by rw [← evb qb]; exact pr'))
            have wv' := wvb qb
            have e18' : gt F' 18 = .bool true := by rw [e18, qb]
            simp only [e15, e16', e17, e18', e19, e2, e7, e8, e9, e10, e11, e12, pa1, pa2, wrap_w64, wv, pa3, wrap_w64, pb1, pb2, wv', pb3, hz, wi, ↓D0, ↓D1, ↓D2, ↓D3, ↓D4, ↓D5, ↓D6, ↓D7, ↓D8, ↓D9, U0, U1, U2, U3, U4, U5, U6, U7, U8, U9, U10, ↓reduceIte, Nat.reduceAdd, Nat.reduceMul, Nat.reduceSub, Nat.reduceEqDiff, Nat.reduceBEq, Nat.reduceLeDiff, Nat.reduceLT, Int.reduceAdd, Int.reduceMul, Int.reduceSub, Int.reduceLT, Int.reduceLE, Int.reduceToNat, Int.reduceEq, Int.reduceNe, Int.reduceBEq, Int.reduceBNe, ne_eq, eq_self]
            exact ⟨K _ (by simp [gt, e15]) (by simp [gt, e16]) (by simp [gt, e17]) (by simp [gt, e18]) ⟨by simp [gt, e2], by simp [gt, e7], by simp [gt, e8], by simp [gt, e9], by simp [gt, e10], by simp [gt, e11], by simp [gt, e12]⟩ (by simp [gt]), by simp [gt, iv, e19]; omega⟩
          · have hz : w.get (2 + j) = 0 := hwz j h0 hlt (.inr (by rw [← eva qa]; exact pr)) (.inr (by rw [← evb qb]; exact pr'))
            have e18' : gt F' 18 = .bool true := by rw [e18, qb]
            simp only [e15, e16', e17, e18', e19, e2, e7, e8, e9, e10, e11, e12, pa1, pa2, wrap_w64, wv, pa3, wrap_w64, pb1, pb2, hz, wi, ↓D0, ↓D1, ↓D2, ↓D3, ↓D4, ↓D5, ↓D6, ↓D7, ↓D8, ↓D9, U0, U1, U2, U3, U4, U5, U6, U7, U8, U9, U10, ↓reduceIte, Nat.reduceAdd, Nat.reduceMul, Nat.reduceSub, Nat.reduceEqDiff, Nat.reduceBEq, Nat.reduceLeDiff, Nat.reduceLT, Int.reduceAdd, Int.reduceMul, Int.reduceSub, Int.reduceLT, Int.reduceLE, Int.reduceToNat, Int.reduceEq, Int.reduceNe, Int.reduceBEq, Int.reduceBNe, ne_eq, eq_self]
            exact ⟨K _ (by simp [gt, e15]) (by simp [gt, e16]) (by simp [gt, e17]) (by simp [gt, e18]) ⟨by simp [gt, e2], by simp [gt, e7], by simp [gt, e8], by simp [gt, e9], by simp [gt, e10], by simp [gt, e11], by simp [gt, e12]⟩ (by simp [gt]), by simp [gt, iv, e19]; omega⟩
          · have hz : w.get (2 + j) = 0 := hwz j h0 hlt (.inr (by rw [← eva qa]; exact pr)) (.inl qb)
            have e18' : gt F' 18 = .bool false := by rw [e18, qb]
            simp only [e15, e16', e17, e18', e19, e2, e7, e8, e9, e10, e11, e12, pa1, pa2, wrap_w64, wv, pa3, wrap_w64, hz, wi, ↓D0, ↓D1, ↓D2, ↓D3, ↓D4, ↓D5, ↓D6, ↓D7, ↓D8, ↓D9, U0, U1, U2, U3, U4, U5, U6, U7, U8, U9, U10, ↓reduceIte, Nat.reduceAdd, Nat.reduceMul, Nat.reduceSub, Nat.reduceEqDiff, Nat.reduceBEq, Nat.reduceLeDiff, Nat.reduceLT, Int.reduceAdd, Int.reduceMul, Int.reduceSub, Int.reduceLT, Int.reduceLE, Int.reduceToNat, Int.reduceEq, Int.reduceNe, Int.reduceBEq, Int.reduceBNe, ne_eq, eq_self]
            exact ⟨K _ (by simp [gt, e15]) (by simp [gt, e16]) (by simp [gt, e17]) (by simp [gt, e18]) ⟨by simp [gt, e2], by simp [gt, e7], by simp [gt, e8], by simp [gt, e9], by simp [gt, e10], by simp [gt, e11], by simp [gt, e12]⟩ (by simp [gt]), by simp [gt, iv, e19]; omega⟩
        · have e16' : gt F' 16 = .bool true := by rw [e16, qa]
          rcases pos_cases fb j vb Y with ⟨qb, pb1, pe⟩ | ⟨qb, pb1, pb2, pb3, pr'⟩ | ⟨qb, pb1, pb2, pb3, pr'⟩ | ⟨qb, pb1, pb2, pr'⟩ | qb
          · have e18' : gt F' 18 = .bool true := by rw [e18, qb]
            have hz : w.get (2 + j) = held 1 := by rw [hwb j h0 hlt qb (by rw [← evb qb]; omega) (by rw [← evb qb]; omega), if_pos (by rw [← evb qb]; exact pe)]
            have hnz : (held 1 != held 1) = false := by simp
            simp only [e15, e16', e17, e18', e19, e2, e7, e8, e9, e10, e11, e12, pa1, pa2, pb1, u_putpg, h11, hz, hnz, wrap_w64, wi, ↓D0, ↓D1, ↓D2, ↓D3, ↓D4, ↓D5, ↓D6, ↓D7, ↓D8, ↓D9, U0, U1, U2, U3, U4, U5, U6, U7, U8, U9, U10, ↓reduceIte, Nat.reduceAdd, Nat.reduceMul, Nat.reduceSub, Nat.reduceEqDiff, Nat.reduceBEq, Nat.reduceLeDiff, Nat.reduceLT, Int.reduceAdd, Int.reduceMul, Int.reduceSub, Int.reduceLT, Int.reduceLE, Int.reduceToNat, Int.reduceEq, Int.reduceNe, Int.reduceBEq, Int.reduceBNe, ne_eq, eq_self]
            exact ⟨K _ (by simp [gt, e15]) (by simp [gt, e16]) (by simp [gt, e17]) (by simp [gt, e18]) ⟨by simp [gt, e2], by simp [gt, e7], by simp [gt, e8], by simp [gt, e9], by simp [gt, e10], by simp [gt, e11], by simp [gt, e12]⟩ (by simp [gt]), by simp [gt, iv, e19]; omega⟩
          · have e18' : gt F' 18 = .bool true := by rw [e18, qb]
            have hz : w.get (2 + j) = body vb := by rw [hwb j h0 hlt qb (by rw [← evb qb]; omega) (by rw [← evb qb]; omega), if_neg (by rw [← evb qb]; omega), evb qb]
            have hnz : (body vb != body vb) = false := by simp
            have wv' := wvb qb
            simp only [e15, e16', e17, e18', e19, e2, e7, e8, e9, e10, e11, e12, pa1, pa2, pb1, pb2, wrap_w64, wv', pb3, u_putpg, hbd, hz, hnz, wi, ↓D0, ↓D1, ↓D2, ↓D3, ↓D4, ↓D5, ↓D6, ↓D7, ↓D8, ↓D9, U0, U1, U2, U3, U4, U5, U6, U7, U8, U9, U10, ↓reduceIte, Nat.reduceAdd, Nat.reduceMul, Nat.reduceSub, Nat.reduceEqDiff, Nat.reduceBEq, Nat.reduceLeDiff, Nat.reduceLT, Int.reduceAdd, Int.reduceMul, Int.reduceSub, Int.reduceLT, Int.reduceLE, Int.reduceToNat, Int.reduceEq, Int.reduceNe, Int.reduceBEq, Int.reduceBNe, ne_eq, eq_self]
            exact ⟨K _ (by simp [gt, e15]) (by simp [gt, e16]) (by simp [gt, e17]) (by simp [gt, e18]) ⟨by simp [gt, e2], by simp [gt, e7], by simp [gt, e8], by simp [gt, e9], by simp [gt, e10], by simp [gt, e11], by simp [gt, e12]⟩ (by simp [gt]), by simp [gt, iv, e19]; omega⟩
          · have hz : w.get (2 + j) = 0 := hwz j h0 hlt (.inr (by rw [← eva qa]; exact pr)) (.inr (by rw [← evb qb]; exact pr'))
            have wv' := wvb qb
            have e18' : gt F' 18 = .bool true := by rw [e18, qb]
            simp only [e15, e16', e17, e18', e19, e2, e7, e8, e9, e10, e11, e12, pa1, pa2, wrap_w64, pb1, pb2, wv', pb3, hz, wi, ↓D0, ↓D1, ↓D2, ↓D3, ↓D4, ↓D5, ↓D6, ↓D7, ↓D8, ↓D9, U0, U1, U2, U3, U4, U5, U6, U7, U8, U9, U10, ↓reduceIte, Nat.reduceAdd, Nat.reduceMul, Nat.reduceSub, Nat.reduceEqDiff, Nat.reduceBEq, Nat.reduceLeDiff, Nat.reduceLT, Int.reduceAdd, Int.reduceMul, Int.reduceSub, Int.reduceLT, Int.reduceLE, Int.reduceToNat, Int.reduceEq, Int.reduceNe, Int.reduceBEq, Int.reduceBNe, ne_eq, eq_self]
            exact ⟨K _ (by simp [gt, e15]) (by simp [gt, e16]) (by simp [gt, e17]) (by simp [gt, e18]) ⟨by simp [gt, e2], by simp [gt, e7], by simp [gt, e8], by simp [gt, e9], by simp [gt, e10], by simp [gt, e11], by simp [gt, e12]⟩ (by simp [gt]), by simp [gt, iv, e19]; omega⟩
          · have hz : w.get (2 + j) = 0 := hwz j h0 hlt (.inr (by rw [← eva qa]; exact pr)) (.inr (by rw [← evb qb]; exact pr'))
            have e18' : gt F' 18 = .bool true := by rw [e18, qb]
            simp only [e15, e16', e17, e18', e19, e2, e7, e8, e9, e10, e11, e12, pa1, pa2, wrap_w64, pb1, pb2, hz, wi, ↓D0, ↓D1, ↓D2, ↓D3, ↓D4, ↓D5, ↓D6, ↓D7, ↓D8, ↓D9, U0, U1, U2, U3, U4, U5, U6, U7, U8, U9, U10, ↓reduceIte, Nat.reduceAdd, Nat.reduceMul, Nat.reduceSub, Nat.reduceEqDiff, Nat.reduceBEq, Nat.reduceLeDiff, Nat.reduceLT, Int.reduceAdd, Int.reduceMul, Int.reduceSub, Int.reduceLT, Int.reduceLE, Int.reduceToNat, Int.reduceEq, Int.reduceNe, Int.reduceBEq, Int.reduceBNe, ne_eq, eq_self]
            exact ⟨K _ (by simp [gt, e15]) (by simp [gt, e16]) (by simp [gt, e17]) (by simp [gt, e18]) ⟨by simp [gt, e2], by simp [gt, e7], by simp [gt, e8], by simp [gt, e9], by simp [gt, e10], by simp [gt, e11], by simp [gt, e12]⟩ (by simp [gt]), by simp [gt, iv, e19]; omega⟩
          · have hz : w.get (2 + j) = 0 := hwz j h0 hlt (.inr (by rw [← eva qa]; exact pr)) (.inl qb)
            have e18' : gt F' 18 = .bool false := by rw [e18, qb]
            simp only [e15, e16', e17, e18', e19, e2, e7, e8, e9, e10, e11, e12, pa1, pa2, wrap_w64, hz, wi, ↓D0, ↓D1, ↓D2, ↓D3, ↓D4, ↓D5, ↓D6, ↓D7, ↓D8, ↓D9, U0, U1, U2, U3, U4, U5, U6, U7, U8, U9, U10, ↓reduceIte, Nat.reduceAdd, Nat.reduceMul, Nat.reduceSub, Nat.reduceEqDiff, Nat.reduceBEq, Nat.reduceLeDiff, Nat.reduceLT, Int.reduceAdd, Int.reduceMul, Int.reduceSub, Int.reduceLT, Int.reduceLE, Int.reduceToNat, Int.reduceEq, Int.reduceNe, Int.reduceBEq, Int.reduceBNe, ne_eq, eq_self]
            exact ⟨K _ (by simp [gt, e15]) (by simp [gt, e16]) (by simp [gt, e17]) (by simp [gt, e18]) ⟨by simp [gt, e2], by simp [gt, e7], by simp [gt, e8], by simp [gt, e9], by simp [gt, e10], by simp [gt, e11], by simp [gt, e12]⟩ (by simp [gt]), by simp [gt, iv, e19]; omega⟩
        · have e16' : gt F' 16 = .bool false := by rw [e16, qa]
          rcases pos_cases fb j vb Y with ⟨qb, pb1, pe⟩ | ⟨qb, pb1, pb2, pb3, pr'⟩ | ⟨qb, pb1, pb2, pb3, pr'⟩ | ⟨qb, pb1, pb2, pr'⟩ | qb
          · have e18' : gt F' 18 = .bool true := by rw [e18, qb]
            have hz : w.get (2 + j) = held 1 := by rw [hwb j h0 hlt qb (by rw [← evb qb]; omega) (by rw [← evb qb]; omega), if_pos (by rw [← evb qb]; exact pe)]
            have hnz : (held 1 != held 1) = false := by simp
            simp only [e15, e16', e17, e18', e19, e2, e7, e8, e9, e10, e11, e12, pb1, u_putpg, h11, hz, hnz, wrap_w64, wi, ↓D0, ↓D1, ↓D2, ↓D3, ↓D4, ↓D5, ↓D6, ↓D7, ↓D8, ↓D9, U0, U1, U2, U3, U4, U5, U6, U7, U8, U9, U10, ↓reduceIte, Nat.reduceAdd, Nat.reduceMul, Nat.reduceSub, Nat.reduceEqDiff, Nat.reduceBEq, Nat.reduceLeDiff, Nat.reduceLT, Int.reduceAdd, Int.reduceMul, Int.reduceSub, Int.reduceLT, Int.reduceLE, Int.reduceToNat, Int.reduceEq, Int.reduceNe, Int.reduceBEq, Int.reduceBNe, ne_eq, eq_self]
            exact ⟨K _ (by simp [gt, e15]) (by simp [gt, e16]) (by simp [gt, e17]) (by simp [gt, e18]) ⟨by simp [gt, e2], by simp [gt, e7], by simp [gt, e8], by simp [gt, e9], by simp [gt, e10], by simp [gt, e11], by simp [gt, e12]⟩ (by simp [gt]), by simp [gt, iv, e19]; omega⟩
          · have e18' : gt F' 18 = .bool true := by rw [e18, qb]
            have hz : w.get (2 + j) = body vb := by rw [hwb j h0 hlt qb (by rw [← evb qb]; omega) (by rw [← evb qb]; omega), if_neg (by rw [← evb qb]; omega), evb qb]
            have hnz : (body vb != body vb) = false := by simp
            have wv' := wvb qb
            simp only [e15, e16', e17, e18', e19, e2, e7, e8, e9, e10, e11, e12, pb1, pb2, wrap_w64, wv', pb3, u_putpg, hbd, hz, hnz, wi, ↓D0, ↓D1, ↓D2, ↓D3, ↓D4, ↓D5, ↓D6, ↓D7, ↓D8, ↓D9, U0, U1, U2, U3, U4, U5, U6, U7, U8, U9, U10, ↓reduceIte, Nat.reduceAdd, Nat.reduceMul, Nat.reduceSub, Nat.reduceEqDiff, Nat.reduceBEq, Nat.reduceLeDiff, Nat.reduceLT, Int.reduceAdd, Int.reduceMul, Int.reduceSub, Int.reduceLT, Int.reduceLE, Int.reduceToNat, Int.reduceEq, Int.reduceNe, Int.reduceBEq, Int.reduceBNe, ne_eq, eq_self]
            exact ⟨K _ (by simp [gt, e15]) (by simp [gt, e16]) (by simp [gt, e17]) (by simp [gt, e18]) ⟨by simp [gt, e2], by simp [gt, e7], by simp [gt, e8], by simp [gt, e9], by simp [gt, e10], by simp [gt, e11], by simp [gt, e12]⟩ (by simp [gt]), by simp [gt, iv, e19]; omega⟩
          · have hz : w.get (2 + j) = 0 := hwz j h0 hlt (.inl qa) (.inr (by rw [← evb qb]; exact pr'))
            have wv' := wvb qb
            have e18' : gt F' 18 = .bool true := by rw [e18, qb]
            simp only [e15, e16', e17, e18', e19, e2, e7, e8, e9, e10, e11, e12, wrap_w64, pb1, pb2, wv', pb3, hz, wi, ↓D0, ↓D1, ↓D2, ↓D3, ↓D4, ↓D5, ↓D6, ↓D7, ↓D8, ↓D9, U0, U1, U2, U3, U4, U5, U6, U7, U8, U9, U10, ↓reduceIte, Nat.reduceAdd, Nat.reduceMul, Nat.reduceSub, Nat.reduceEqDiff, Nat.reduceBEq, Nat.reduceLeDiff, Nat.reduceLT, Int.reduceAdd, Int.reduceMul, Int.reduceSub, Int.reduceLT, Int.reduceLE, Int.reduceToNat, Int.reduceEq, Int.reduceNe, Int.reduceBEq, Int.reduceBNe, ne_eq, eq_self]
            exact ⟨K _ (by simp [gt, e15]) (by simp [gt, e16]) (by simp [gt, e17]) (by simp [gt, e18]) ⟨by simp [gt, e2], by simp [gt, e7], by simp [gt, e8], by simp [gt, e9], by simp [gt, e10], by simp [gt, e11], by simp [gt, e12]⟩ (by simp [gt]), by simp [gt, iv, e19]; omega⟩
          · have hz : w.get (2 + j) = 0 := hwz j h0 hlt (.inl qa) (.inr (by rw [← evb qb]; exact pr'))
            have e18' : gt F' 18 = .bool true := by rw [e18, qb]
            simp only [e15, e16', e17, e18', e19, e2, e7, e8, e9, e10, e11, e12, wrap_w64, pb1, pb2, hz, wi, ↓D0, ↓D1, ↓D2, ↓D3, ↓D4, ↓D5, ↓D6, ↓D7, ↓D8, ↓D9, U0, U1, U2, U3, U4, U5, U6, U7, U8, U9, U10, ↓reduceIte, Nat.reduceAdd, Nat.reduceMul, Nat.reduceSub, Nat.reduceEqDiff, Nat.reduceBEq, Nat.reduceLeDiff, Nat.reduceLT, Int.reduceAdd, Int.reduceMul, Int.reduceSub, Int.reduceLT, Int.reduceLE, Int.reduceToNat, Int.reduceEq, Int.reduceNe, Int.reduceBEq, Int.reduceBNe, ne_eq, eq_self]
            exact ⟨K _ (by simp [gt, e15]) (by simp [gt, e16]) (by simp [gt, e17]) (by simp [gt, e18]) ⟨by simp [gt, e2], by simp [gt, e7], by simp [gt, e8], by simp [gt, e9], by simp [gt, e10], by simp [gt, e11], by simp [gt, e12]⟩ (by simp [gt]), by simp [gt, iv, e19]; omega⟩
          · have hz : w.get (2 + j) = 0 := hwz j h0 hlt (.inl qa) (.inl qb)
            have e18' : gt F' 18 = .bool false := by rw [e18, qb]
            simp only [e15, e16', e17, e18', e19, e2, e7, e8, e9, e10, e11, e12, wrap_w64, hz, wi, ↓D0, ↓D1, ↓D2, ↓D3, ↓D4, ↓D5, ↓D6, ↓D7, ↓D8, ↓D9, U0, U1, U2, U3, U4, U5, U6, U7, U8, U9, U10, ↓reduceIte, Nat.reduceAdd, Nat.reduceMul, Nat.reduceSub, Nat.reduceEqDiff, Nat.reduceBEq, Nat.reduceLeDiff, Nat.reduceLT, Int.reduceAdd, Int.reduceMul, Int.reduceSub, Int.reduceLT, Int.reduceLE, Int.reduceToNat, Int.reduceEq, Int.reduceNe, Int.reduceBEq, Int.reduceBNe, ne_eq, eq_self]
            exact ⟨K _ (by simp [gt, e15]) (by simp [gt, e16]) (by simp [gt, e17]) (by simp [gt, e18]) ⟨by simp [gt, e2], by simp [gt, e7], by simp [gt, e8], by simp [gt, e9], by simp [gt, e10], by simp [gt, e11], by simp [gt, e12]⟩ (by simp [gt]), by simp [gt, iv, e19]; omega⟩
      have d1 : decide (j < P) = false := decide_eq_false hlt
      have hx1 := hS.lk 2 rfl
      have r0 := fun o => rd_of hx1 o
      have hST := hS.tail.tail.tail
      by_cases gX : P < X
      · have dX : decide (P < X) = true := decide_eq_true gX
        simp only [e15, e16, e17, e18, e19, e2, e7, e8, e9, e10, e11, e12, hx1, r0, d1, dX, ↓D0, ↓D1, ↓D2, ↓D3, ↓D4, ↓D5, ↓D6, ↓D7, ↓D8, ↓D9, U0, U1, U2, U3, U4, U5, U6, U7, U8, U9, U10, ↓reduceIte, Nat.reduceAdd, Nat.reduceMul, Nat.reduceSub, Nat.reduceEqDiff, Nat.reduceBEq, Nat.reduceLeDiff, Nat.reduceLT, Int.reduceAdd, Int.reduceMul, Int.reduceSub, Int.reduceLT, Int.reduceLE, Int.reduceToNat, Int.reduceEq, Int.reduceNe, Int.reduceBEq, Int.reduceBNe, ne_eq, eq_self]
        first | exact hST | exact ⟨rfl, hST⟩
      have dX : decide (P < X) = false := decide_eq_false gX
      by_cases gY : P < Y
      · have dY : decide (P < Y) = true := decide_eq_true gY
        simp only [e15, e16, e17, e18, e19, e2, e7, e8, e9, e10, e11, e12, hx1, r0, d1, dX, dY, ↓D0, ↓D1, ↓D2, ↓D3, ↓D4, ↓D5, ↓D6, ↓D7, ↓D8, ↓D9, U0, U1, U2, U3, U4, U5, U6, U7, U8, U9, U10, ↓reduceIte, Nat.reduceAdd, Nat.reduceMul, Nat.reduceSub, Nat.reduceEqDiff, Nat.reduceBEq, Nat.reduceLeDiff, Nat.reduceLT, Int.reduceAdd, Int.reduceMul, Int.reduceSub, Int.reduceLT, Int.reduceLE, Int.reduceToNat, Int.reduceEq, Int.reduceNe, Int.reduceBEq, Int.reduceBNe, ne_eq, eq_self]
        first | exact hST | exact ⟨rfl, hST⟩
      have dY : decide (P < Y) = false := decide_eq_false gY
      rcases hone (by omega) (by omega) with qf | qf
      · rw [qf] at e16
        simp only [e15, e16, e17, e18, e19, e2, e7, e8, e9, e10, e11, e12, hx1, r0, d1, dX, dY, ↓D0, ↓D1, ↓D2, ↓D3, ↓D4, ↓D5, ↓D6, ↓D7, ↓D8, ↓D9, U0, U1, U2, U3, U4, U5, U6, U7, U8, U9, U10, ↓reduceIte, Nat.reduceAdd, Nat.reduceMul, Nat.reduceSub, Nat.reduceEqDiff, Nat.reduceBEq, Nat.reduceLeDiff, Nat.reduceLT, Int.reduceAdd, Int.reduceMul, Int.reduceSub, Int.reduceLT, Int.reduceLE, Int.reduceToNat, Int.reduceEq, Int.reduceNe, Int.reduceBEq, Int.reduceBNe, ne_eq, eq_self]
        first | exact hST | exact ⟨rfl, hST⟩
      · rw [qf] at e18
        cases qg : fa
        · rw [qg] at e16
          simp only [e15, e16, e17, e18, e19, e2, e7, e8, e9, e10, e11, e12, hx1, r0, d1, dX, dY, ↓D0, ↓D1, ↓D2, ↓D3, ↓D4, ↓D5, ↓D6, ↓D7, ↓D8, ↓D9, U0, U1, U2, U3, U4, U5, U6, U7, U8, U9, U10, ↓reduceIte, Nat.reduceAdd, Nat.reduceMul, Nat.reduceSub, Nat.reduceEqDiff, Nat.reduceBEq, Nat.reduceLeDiff, Nat.reduceLT, Int.reduceAdd, Int.reduceMul, Int.reduceSub, Int.reduceLT, Int.reduceLE, Int.reduceToNat, Int.reduceEq, Int.reduceNe, Int.reduceBEq, Int.reduceBNe, ne_eq, eq_self]
          first | exact hST | exact ⟨rfl, hST⟩
        · rw [qg] at e16
          simp only [e15, e16, e17, e18, e19, e2, e7, e8, e9, e10, e11, e12, hx1, r0, d1, dX, dY, ↓D0, ↓D1, ↓D2, ↓D3, ↓D4, ↓D5, ↓D6, ↓D7, ↓D8, ↓D9, U0, U1, U2, U3, U4, U5, U6, U7, U8, U9, U10, ↓reduceIte, Nat.reduceAdd, Nat.reduceMul, Nat.reduceSub, Nat.reduceEqDiff, Nat.reduceBEq, Nat.reduceLeDiff, Nat.reduceLT, Int.reduceAdd, Int.reduceMul, Int.reduceSub, Int.reduceLT, Int.reduceLE, Int.reduceToNat, Int.reduceEq, Int.reduceNe, Int.reduceBEq, Int.reduceBNe, ne_eq, eq_self]
          first | exact hST | exact ⟨rfl, hST⟩
  · have v1 : va = ta.hd := eva q1
    cases q2 : fb
    · have v2 : vb = 0 := by rw [← hvb, hfb, q2]; rfl
      simp only [e14, e2, e7, e8, e9, e10, e11, e12, dB, hfa, hfb, q1, q2, ↓D0, ↓D1, ↓D2, ↓D3, ↓D4, ↓D5, ↓D6, ↓D7, ↓D8, ↓D9, U0, U1, U2, U3, U4, U5, U6, U7, U8, U9, U10, ↓reduceIte, Nat.reduceAdd, Nat.reduceMul, Nat.reduceSub, Nat.reduceEqDiff, Nat.reduceBEq, Nat.reduceLeDiff, Nat.reduceLT, Int.reduceAdd, Int.reduceMul, Int.reduceSub, Int.reduceLT, Int.reduceLE, Int.reduceToNat, Int.reduceEq, Int.reduceNe, Int.reduceBEq, Int.reduceBNe, ne_eq, eq_self]
      refine loop_intro (rtB P X Y va vb fa fb n cap a x b ka kb s w (h :: l)) (fun F' _ => (P - iv (gt F' 19)).toNat)
        (GO _ (by simp [gt, v1]) (by simp [gt, q1]) (by simp [gt, v2]) (by simp [gt, q2]) ⟨by simp [gt, e2], by simp [gt, e7], by simp [gt, e8], by simp [gt, e9], by simp [gt, e10], by simp [gt, e11], by simp [gt, e12]⟩ (by simp [gt])) ?_
      rintro F' H' ⟨j, h0, h1, e19, e15, e16, e17, e18, ⟨e2, e7, e8, e9, e10, e11, e12⟩, hS⟩
      have hx1 := hS.lk 2 rfl
      have r0 := fun o => rd_of hx1 o
      have r1 := fun o n => rdn_of hx1 o n
      by_cases hlt : j < P
      · have d1 : decide (j < P) = true := decide_eq_true hlt
        have wi : w64 (j + 1) = j + 1 := w64_eq (by omega) (by omega)
        have hpj := hpg j h0 hlt
        simp only [e15, e16, e17, e18, e19, e2, e7, e8, e9, e10, e11, e12, hx1, r0, r1, u_page, hpj, d1, ↓D0, ↓D1, ↓D2, ↓D3, ↓D4, ↓D5, ↓D6, ↓D7, ↓D8, ↓D9, U0, U1, U2, U3, U4, U5, U6, U7, U8, U9, U10, ↓reduceIte, Nat.reduceAdd, Nat.reduceMul, Nat.reduceSub, Nat.reduceEqDiff, Nat.reduceBEq, Nat.reduceLeDiff, Nat.reduceLT, Int.reduceAdd, Int.reduceMul, Int.reduceSub, Int.reduceLT, Int.reduceLE, Int.reduceToNat, Int.reduceEq, Int.reduceNe, Int.reduceBEq, Int.reduceBNe, ne_eq, eq_self]
        refine callT_of (c_look (2 + j) (by omega) (by omega) hS) ?_
        rintro v H' ⟨rfl, hS⟩
        have K : ∀ (F2 : Fr), gt F2 15 = .int .i64 va → gt F2 16 = .bool fa → gt F2 17 = .int .i64 vb → gt F2 18 = .bool fb → rtG P X Y n cap a x b ka kb F2 → gt F2 19 = .int .i64 (j + 1) →
            rtB P X Y va vb fa fb n cap a x b ka kb s w (h :: l) F2 H' := fun F2 q15 q16 q17 q18 qg q19 => ⟨j + 1, by omega, by omega, q19, q15, q16, q17, q18, qg, hS⟩
        have h10 : putPg 1 0 0 = held 0 := rfl
        have h11 : putPg 1 1 0 = held 1 := rfl
        have hbd : ∀ x, putPg 4 x 0 = body x := fun _ => rfl
        rcases pos_cases fa j va X with ⟨qa, pa1, pe⟩ | ⟨qa, pa1, pa2, pa3, pr⟩ | ⟨qa, pa1, pa2, pa3, pr⟩ | ⟨qa, pa1, pa2, pr⟩ | qa
        · have e16' : gt F' 16 = .bool true := by rw [e16, qa]
          have hz : w.get (2 + j) = held 0 := by rw [hwa j h0 hlt qa (by rw [← eva qa]; omega) (by rw [← eva qa]; omega), if_pos (by rw [← eva qa]; exact pe)]
          have hnz : (held 0 != held 0) = false := by simp
          simp only [e15, e16', e17, e18, e19, e2, e7, e8, e9, e10, e11, e12, pa1, u_putpg, h10, hz, hnz, wrap_w64, wi, ↓D0, ↓D1, ↓D2, ↓D3, ↓D4, ↓D5, ↓D6, ↓D7, ↓D8, ↓D9, U0, U1, U2, U3, U4, U5, U6, U7, U8, U9, U10, ↓reduceIte, Nat.reduceAdd, Nat.reduceMul, Nat.reduceSub, Nat.reduceEqDiff, Nat.reduceBEq, Nat.reduceLeDiff, Nat.reduceLT, Int.reduceAdd, Int.reduceMul, Int.reduceSub, Int.reduceLT, Int.reduceLE, Int.reduceToNat, Int.reduceEq, Int.reduceNe, Int.reduceBEq, Int.reduceBNe, ne_eq, eq_self]
          exact ⟨K _ (by simp [gt, e15]) (by simp [gt, e16]) (by simp [gt, e17]) (by simp [gt, e18]) ⟨by simp [gt, e2], by simp [gt, e7], by simp [gt, e8], by simp [gt, e9], by simp [gt, e10], by simp [gt, e11], by simp [gt, e12]⟩ (by simp [gt]), by simp [gt, iv, e19]; omega⟩
        · have e16' : gt F' 16 = .bool true := by rw [e16, qa]
          have hz : w.get (2 + j) = body va := by rw [hwa j h0 hlt qa (by rw [← eva qa]; omega) (by rw [← eva qa]; omega), if_neg (by rw [← eva qa]; omega), eva qa]
          have hnz : (body va != body va) = false := by simp
          have wv := wva qa
          simp only [e15, e16', e17, e18, e19, e2, e7, e8, e9, e10, e11, e12, pa1, pa2, wrap_w64, wv, pa3, u_putpg, hbd, hz, hnz, wi, ↓D0, ↓D1, ↓D2, ↓D3, ↓D4, ↓D5, ↓D6, ↓D7, ↓D8, ↓D9, U0, U1, U2, U3, U4, U5, U6, U7, U8, U9, U10, ↓reduceIte, Nat.reduceAdd, Nat.reduceMul, Nat.reduceSub, Nat.reduceEqDiff, Nat.reduceBEq, Nat.reduceLeDiff, Nat.reduceLT, Int.reduceAdd, Int.reduceMul, Int.reduceSub, Int.reduceLT, Int.reduceLE, Int.reduceToNat, Int.reduceEq, Int.reduceNe, Int.reduceBEq, Int.reduceBNe, ne_eq, eq_self]
          exact ⟨K _ (by simp [gt, e15]) (by simp [gt, e16]) (by simp [gt, e17]) (by simp [gt, e18]) ⟨by simp [gt, e2], by simp [gt, e7], by simp [gt, e8], by simp [gt, e9], by simp [gt, e10], by simp [gt, e11], by simp [gt, e12]⟩ (by simp [gt]), by simp [gt, iv, e19]; omega⟩
        · have wv := wva qa
          have e16' : gt F' 16 = .bool true := by rw [e16, qa]
          rcases pos_cases fb j vb Y with ⟨qb, pb1, pe⟩ | ⟨qb, pb1, pb2, pb3, pr'⟩ | ⟨qb, pb1, pb2, pb3, pr'⟩ | ⟨qb, pb1, pb2, pr'⟩ | qb
          · have e18' : gt F' 18 = .bool true := by rw [e18, qb]
            have hz : w.get (2 + j) = held 1 := by rw [hwb j h0 hlt qb (by rw [← evb qb]; omega) (by rw [← evb qb]; omega), if_pos (by rw [← evb qb]; exact pe)]
            have hnz : (held 1 != held 1) = false := by simp
            simp only [e15, e16', e17, e18', e19, e2, e7, e8, e9, e10, e11, e12, pa1, pa2, wrap_w64, wv, pa3, pb1, u_putpg, h11, hz, hnz, wrap_w64, wi, ↓D0, ↓D1, ↓D2, ↓D3, ↓D4, ↓D5, ↓D6, ↓D7, ↓D8, ↓D9, U0, U1, U2, U3, U4, U5, U6, U7, U8, U9, U10, ↓reduceIte, Nat.reduceAdd, Nat.reduceMul, Nat.reduceSub, Nat.reduceEqDiff, Nat.reduceBEq, Nat.reduceLeDiff, Nat.reduceLT, Int.reduceAdd, Int.reduceMul, Int.reduceSub, Int.reduceLT, Int.reduceLE, Int.reduceToNat, Int.reduceEq, Int.reduceNe, Int.reduceBEq, Int.reduceBNe, ne_eq, eq_self]
            exact ⟨K _ (by simp [gt, e15]) (by simp [gt, e16]) (by simp [gt, e17]) (by simp [gt, e18]) ⟨by simp [gt, e2], by simp [gt, e7], by simp [gt, e8], by simp [gt, e9], by simp [gt, e10], by simp [gt, e11], by simp [gt, e12]⟩ (by simp [gt]), by simp [gt, iv, e19]; omega⟩
          · have e18' : gt F' 18 = .bool true := by rw [e18, qb]
            have hz : w.get (2 + j) = body vb := by rw [hwb j h0 hlt qb (by rw [← evb qb]; omega) (by rw [← evb qb]; omega), if_neg (by rw [← evb qb]; omega), evb qb]
            have hnz : (body vb != body vb) = false := by simp
            have wv' := wvb qb
            simp only [e15, e16', e17, e18', e19, e2, e7, e8, e9, e10, e11, e12, pa1, pa2, wrap_w64, wv, pa3, pb1, pb2, wrap_w64, wv', pb3, u_putpg, hbd, hz, hnz, wi, ↓D0, ↓D1, ↓D2, ↓D3, ↓D4, ↓D5, ↓D6, ↓D7, ↓D8, ↓D9, U0, U1, U2, U3, U4, U5, U6, U7, U8, U9, U10, ↓reduceIte, Nat.reduceAdd, Nat.reduceMul, Nat.reduceSub, Nat.reduceEqDiff, Nat.reduceBEq, Nat.reduceLeDiff, Nat.reduceLT, Int.reduceAdd, Int.reduceMul, Int.reduceSub, Int.reduceLT, Int.reduceLE, Int.reduceToNat, Int.reduceEq, Int.reduceNe, Int.reduceBEq, Int.reduceBNe, ne_eq, eq_self]
            exact ⟨K _ (by simp [gt, e15]) (by simp [gt, e16]) (by simp [gt, e17]) (by simp [gt, e18]) ⟨by simp [gt, e2], by simp [gt, e7], by simp [gt, e8], by simp [gt, e9], by simp [gt, e10], by simp [gt, e11], by simp [gt, e12]⟩ (by simp [gt]), by simp [gt, iv, e19]; omega⟩
          · have hz : w.get (2 + j) = 0 := hwz j h0 hlt (.inr (by rw [← eva qa]; exact pr)) (.inr (by rw [← evb qb]; exact pr'))
            have wv' := wvb qb
            have e18' : gt F' 18 = .bool true := by rw [e18, qb]
            simp only [e15, e16', e17, e18', e19, e2, e7, e8, e9, e10, e11, e12, pa1, pa2, wrap_w64, wv, pa3, wrap_w64, pb1, pb2, wv', pb3, hz, wi, ↓D0, ↓D1, ↓D2, ↓D3, ↓D4, ↓D5, ↓D6, ↓D7, ↓D8, ↓D9, U0, U1, U2, U3, U4, U5, U6, U7, U8, U9, U10, ↓reduceIte, Nat.reduceAdd, Nat.reduceMul, Nat.reduceSub, Nat.reduceEqDiff, Nat.reduceBEq, Nat.reduceLeDiff, Nat.reduceLT, Int.reduceAdd, Int.reduceMul, Int.reduceSub, Int.reduceLT, Int.reduceLE, Int.reduceToNat, Int.reduceEq, Int.reduceNe, Int.reduceBEq, Int.reduceBNe, ne_eq, eq_self]
            exact ⟨K _ (by simp [gt, e15]) (by simp [gt, e16]) (by simp [gt, e17]) (by simp [gt, e18]) ⟨by simp [gt, e2], by simp [gt, e7], by simp [gt, e8], by simp [gt, e9], by simp [gt, e10], by simp [gt, e11], by simp [gt, e12]⟩ (by simp [gt]), by simp [gt, iv, e19]; omega⟩
          · have hz : w.get (2 + j) = 0 := hwz j h0 hlt (.inr (by rw [← eva qa]; exact pr)) (.inr (by rw [← evb qb]; exact pr'))
            have e18' : gt F' 18 = .bool true := by rw [e18, qb]
            simp only [e15, e16', e17, e18', e19, e2, e7, e8, e9, e10, e11, e12, pa1, pa2, wrap_w64, wv, pa3, wrap_w64, pb1, pb2, hz, wi, ↓D0, ↓D1, ↓D2, ↓D3, ↓D4, ↓D5, ↓D6, ↓D7, ↓D8, ↓D9, U0, U1, U2, U3, U4, U5, U6, U7, U8, U9, U10, ↓reduceIte, Nat.reduceAdd, Nat.reduceMul, Nat.reduceSub, Nat.reduceEqDiff, Nat.reduceBEq, Nat.reduceLeDiff, Nat.reduceLT, Int.reduceAdd, Int.reduceMul, Int.reduceSub, Int.reduceLT, Int.reduceLE, Int.reduceToNat, Int.reduceEq, Int.reduceNe, Int.reduceBEq, Int.reduceBNe, ne_eq, eq_self]
            exact ⟨K _ (by simp [gt, e15]) (by simp [gt, e16]) (by simp [gt, e17]) (by simp [gt, e18]) ⟨by simp [gt, e2], by simp [gt, e7], by simp [gt, e8], by simp [gt, e9], by simp [gt, e10], by simp [gt, e11], by simp [gt, e12]⟩ (by simp [gt]), by simp [gt, iv, e19]; omega⟩
          · have hz : w.get (2 + j) = 0 := hwz j h0 hlt (.inr (by rw [← eva qa]; exact pr)) (.inl qb)
            have e18' : gt F' 18 = .bool false := by rw [e18, qb]
            simp only [e15, e16', e17, e18', e19, e2, e7, e8, e9, e10, e11, e12, pa1, pa2, wrap_w64, wv, pa3, wrap_w64, hz, wi, ↓D0, ↓D1, ↓D2, ↓D3, ↓D4, ↓D5, ↓D6, ↓D7, ↓D8, ↓D9, U0, U1, U2, U3, U4, U5, U6, U7, U8, U9, U10, ↓reduceIte, Nat.reduceAdd, Nat.reduceMul, Nat.reduceSub, Nat.reduceEqDiff, Nat.reduceBEq, Nat.reduceLeDiff, Nat.reduceLT, Int.reduceAdd, Int.reduceMul, Int.reduceSub, Int.reduceLT, Int.reduceLE, Int.reduceToNat, Int.reduceEq, Int.reduceNe, Int.reduceBEq, Int.reduceBNe, ne_eq, eq_self]
            exact ⟨K _ (by simp [gt, e15]) (by simp [gt, e16]) (by simp [gt, e17]) (by simp [gt, e18]) ⟨by simp [gt, e2], by simp [gt, e7], by simp [gt, e8], by simp [gt, e9], by simp [gt, e10], by simp [gt, e11], by simp [gt, e12]⟩ (by simp [gt]), by simp [gt, iv, e19]; omega⟩
        · have e16' : gt F' 16 = .bool true := by rw [e16, qa]
          rcases pos_cases fb j vb Y with ⟨qb, pb1, pe⟩ | ⟨qb, pb1, pb2, pb3, pr'⟩ | ⟨qb, pb1, pb2, pb3, pr'⟩ | ⟨qb, pb1, pb2, pr'⟩ | qb
          · have e18' : gt F' 18 = .bool true := by rw [e18, qb]
            have hz : w.get (2 + j) = held 1 := by rw [hwb j h0 hlt qb (by rw [← evb qb]; omega) (by rw [← evb qb]; omega), if_pos (by rw [← evb qb]; exact pe)]
            have hnz : (held 1 != held 1) = false := by simp
            simp only [e15, e16', e17, e18', e19, e2, e7, e8, e9, e10, e11, e12, pa1, pa2, pb1, u_putpg, h11, hz, hnz, wrap_w64, wi, ↓D0, ↓D1, ↓D2, ↓D3, ↓D4, ↓D5, ↓D6, ↓D7, ↓D8, ↓D9, U0, U1, U2, U3, U4, U5, U6, U7, U8, U9, U10, ↓reduceIte, Nat.reduceAdd, Nat.reduceMul, Nat.reduceSub, Nat.reduceEqDiff, Nat.reduceBEq, Nat.reduceLeDiff, Nat.reduceLT, Int.reduceAdd, Int.reduceMul, Int.reduceSub, Int.reduceLT, Int.reduceLE, Int.reduceToNat, Int.reduceEq, Int.reduceNe, Int.reduceBEq, Int.reduceBNe, ne_eq, eq_self]
            exact ⟨K _ (by simp [gt, e15]) (by simp [gt, e16]) (by simp [gt, e17]) (by simp [gt, e18]) ⟨by simp [gt, e2], by simp [gt, e7], by simp [gt, e8], by simp [gt, e9], by simp [gt, e10], by simp [gt, e11], by simp [gt, e12]⟩ (by simp [gt]), by simp [gt, iv, e19]; omega⟩
          · have e18' : gt F' 18 = .bool true := by rw [e18, qb]
            have hz : w.get (2 + j) = body vb := by rw [hwb j h0 hlt qb (by rw [← evb qb]; omega) (by rw [← evb qb]; omega), if_neg (by rw [← evb qb]; omega), evb qb]
            have hnz : (body vb != body vb) = false := by simp
            have wv' := wvb qb
            simp only [e15, e16', e17, e18', e19, e2, e7, e8, e9, e10, e11, e12, pa1, pa2, pb1, pb2, wrap_w64, wv', pb3, u_putpg, hbd, hz, hnz, wi, ↓D0, ↓D1, ↓D2, ↓D3, ↓D4, ↓D5, ↓D6, ↓D7, ↓D8, ↓D9, U0, U1, U2, U3, U4, U5, U6, U7, U8, U9, U10, ↓reduceIte, Nat.reduceAdd, Nat.reduceMul, Nat.reduceSub, Nat.reduceEqDiff, Nat.reduceBEq, Nat.reduceLeDiff, Nat.reduceLT, Int.reduceAdd, Int.reduceMul, Int.reduceSub, Int.reduceLT, Int.reduceLE, Int.reduceToNat, Int.reduceEq, Int.reduceNe, Int.reduceBEq, Int.reduceBNe, ne_eq, eq_self]
            exact ⟨K _ (by simp [gt, e15]) (by simp [gt, e16]) (by simp [gt, e17]) (by simp [gt, e18]) ⟨by simp [gt, e2], by simp [gt, e7], by simp [gt, e8], by simp [gt, e9], by simp [gt, e10], by simp [gt, e11], by simp [gt, e12]⟩ (by simp [gt]), by simp [gt, iv, e19]; omega⟩
          · have hz : w.get (2 + j) = 0 := hwz j h0 hlt (.inr (by rw [← eva qa]; exact pr)) (.inr (by rw [← evb qb]; exact pr'))
            have wv' := wvb qb
            have e18' : gt F' 18 = .bool true := by rw [e18, qb]
            simp only [e15, e16', e17, e18', e19, e2, e7, e8, e9, e10, e11, e12, pa1, pa2, wrap_w64, pb1, pb2, wv', pb3, hz, wi, ↓D0, ↓D1, ↓D2, ↓D3, ↓D4, ↓D5, ↓D6, ↓D7, ↓D8, ↓D9, U0, U1, U2, U3, U4, U5, U6, U7, U8, U9, U10, ↓reduceIte, Nat.reduceAdd, Nat.reduceMul, Nat.reduceSub, Nat.reduceEqDiff, Nat.reduceBEq, Nat.reduceLeDiff, Nat.reduceLT, Int.reduceAdd, Int.reduceMul, Int.reduceSub, Int.reduceLT, Int.reduceLE, Int.reduceToNat, Int.reduceEq, Int.reduceNe, Int.reduceBEq, Int.reduceBNe, ne_eq, eq_self]
            exact ⟨K _ (by simp [gt, e15]) (by simp [gt, e16]) (by simp [gt, e17]) (by simp [gt, e18]) ⟨by simp [gt, e2], by simp [gt, e7], by simp [gt, e8], by simp [gt, e9], by simp [gt, e10], by simp [gt, e11], by simp [gt, e12]⟩ (by simp [gt]), by simp [gt, iv, e19]; omega⟩
          · have hz : w.get (2 + j) = 0 := hwz j h0 hlt (.inr (by rw [← eva qa]; exact pr)) (.inr (by rw [← evb qb]; exact pr'))
            have e18' : gt F' 18 = .bool true := by rw [e18, qb]
            simp only [e15, e16', e17, e18', e19, e2, e7, e8, e9, e10, e11, e12, pa1, pa2, wrap_w64, pb1, pb2, hz, wi, ↓D0, ↓D1, ↓D2, ↓D3, ↓D4, ↓D5, ↓D6, ↓D7, ↓D8, ↓D9, U0, U1, U2, U3, U4, U5, U6, U7, U8, U9, U10, ↓reduceIte, Nat.reduceAdd, Nat.reduceMul, Nat.reduceSub, Nat.reduceEqDiff, Nat.reduceBEq, Nat.reduceLeDiff, Nat.reduceLT, Int.reduceAdd, Int.reduceMul, Int.reduceSub, Int.reduceLT, Int.reduceLE, Int.reduceToNat, Int.reduceEq, Int.reduceNe, Int.reduceBEq, Int.reduceBNe, ne_eq, eq_self]
            exact ⟨K _ (by simp [gt, e15]) (by simp [gt, e16]) (by simp [gt, e17]) (by simp [gt, e18]) ⟨by simp [gt, e2], by simp [gt, e7], by simp [gt, e8], by simp [gt, e9], by simp [gt, e10], by simp [gt, e11], by simp [gt, e12]⟩ (by simp [gt]), by simp [gt, iv, e19]; omega⟩
          · have hz : w.get (2 + j) = 0 := hwz j h0 hlt (.inr (by rw [← eva qa]; exact pr)) (.inl qb)
            have e18' : gt F' 18 = .bool false := by rw [e18, qb]
            simp only [e15, e16', e17, e18', e19, e2, e7, e8, e9, e10, e11, e12, pa1, pa2, wrap_w64, hz, wi, ↓D0, ↓D1, ↓D2, ↓D3, ↓D4, ↓D5, ↓D6, ↓D7, ↓D8, ↓D9, U0, U1, U2, U3, U4, U5, U6, U7, U8, U9, U10, ↓reduceIte, Nat.reduceAdd, Nat.reduceMul, Nat.reduceSub, Nat.reduceEqDiff, Nat.reduceBEq, Nat.reduceLeDiff, Nat.reduceLT, Int.reduceAdd, Int.reduceMul, Int.reduceSub, Int.reduceLT, Int.reduceLE, Int.reduceToNat, Int.reduceEq, Int.reduceNe, Int.reduceBEq, Int.reduceBNe, ne_eq, eq_self]
            exact ⟨K _ (by simp [gt, e15]) (by simp [gt, e16]) (by simp [gt, e17]) (by simp [gt, e18]) ⟨by simp [gt, e2], by simp [gt, e7], by simp [gt, e8], by simp [gt, e9], by simp [gt, e10], by simp [gt, e11], by simp [gt, e12]⟩ (by simp [gt]), by simp [gt, iv, e19]; omega⟩
        · have e16' : gt F' 16 = .bool false := by rw [e16, qa]
          rcases pos_cases fb j vb Y with ⟨qb, pb1, pe⟩ | ⟨qb, pb1, pb2, pb3, pr'⟩ | ⟨qb, pb1, pb2, pb3, pr'⟩ | ⟨qb, pb1, pb2, pr'⟩ | qb
          · have e18' : gt F' 18 = .bool true := by rw [e18, qb]
            have hz : w.get (2 + j) = held 1 := by rw [hwb j h0 hlt qb (by rw [← evb qb]; omega) (by rw [← evb qb]; omega), if_pos (by rw [← evb qb]; exact pe)]
            have hnz : (held 1 != held 1) = false := by simp
            simp only [e15, e16', e17, e18', e19, e2, e7, e8, e9, e10, e11, e12, pb1, u_putpg, h11, hz, hnz, wrap_w64, wi, ↓D0, ↓D1, ↓D2, ↓D3, ↓D4, ↓D5, ↓D6, ↓D7, ↓D8, ↓D9, U0, U1, U2, U3, U4, U5, U6, U7, U8, U9, U10, ↓reduceIte, Nat.reduceAdd, Nat.reduceMul, Nat.reduceSub, Nat.reduceEqDiff, Nat.reduceBEq, Nat.reduceLeDiff, Nat.reduceLT, Int.reduceAdd, Int.reduceMul, Int.reduceSub, Int.reduceLT, Int.reduceLE, Int.reduceToNat, Int.reduceEq, Int.reduceNe, Int.reduceBEq, Int.reduceBNe, ne_eq, eq_self]
            exact ⟨K _ (by simp [gt, e15]) (by simp [gt, e16]) (by simp [gt, e17]) (by simp [gt, e18]) ⟨by simp [gt, e2], by simp [gt, e7], by simp [gt, e8], by simp [gt, e9], by simp [gt, e10], by simp [gt, e11], by simp [gt, e12]⟩ (by simp [gt]), by simp [gt, iv, e19]; omega⟩
          · have e18' : gt F' 18 = .bool true := by rw [e18, qb]
            have hz : w.get (2 + j) = body vb := by rw [hwb j h0 hlt qb (by rw [← evb qb]; omega) (by rw [← evb qb]; omega), if_neg (by rw [← evb qb]; omega), evb qb]
            have hnz : (body vb != body vb) = false := by simp
            have wv' := wvb qb
            simp only [e15, e16', e17, e18', e19, e2, e7, e8, e9, e10, e11, e12, pb1, pb2, wrap_w64, wv', pb3, u_putpg, hbd, hz, hnz, wi, ↓D0, ↓D1, ↓D2, ↓D3, ↓D4, ↓D5, ↓D6, ↓D7, ↓D8, ↓D9, U0, U1, U2, U3, U4, U5, U6, U7, U8, U9, U10, ↓reduceIte, Nat.reduceAdd, Nat.reduceMul, Nat.reduceSub, Nat.reduceEqDiff, Nat.reduceBEq, Nat.reduceLeDiff, Nat.reduceLT, Int.reduceAdd, Int.reduceMul, Int.reduceSub, Int.reduceLT, Int.reduceLE, Int.reduceToNat, Int.reduceEq, Int.reduceNe, Int.reduceBEq, Int.reduceBNe, ne_eq, eq_self]
            exact ⟨K _ (by simp [gt, e15]) (by simp [gt, e16]) (by simp [gt, e17]) (by simp [gt, e18]) ⟨by simp [gt, e2], by simp [gt, e7], by simp [gt, e8], by simp [gt, e9], by simp [gt, e10], by simp [gt, e11], by simp [gt, e12]⟩ (by simp [gt]), by simp [gt, iv, e19]; omega⟩
          · have hz : w.get (2 + j) = 0 := hwz j h0 hlt (.inl qa) (.inr (by rw [← evb qb]; exact pr'))
            have wv' := wvb qb
            have e18' : gt F' 18 = .bool true := by rw [e18, qb]
            simp only [e15, e16', e17, e18', e19, e2, e7, e8, e9, e10, e11, e12, wrap_w64, pb1, pb2, wv', pb3, hz, wi, ↓D0, ↓D1, ↓D2, ↓D3, ↓D4, ↓D5, ↓D6, ↓D7, ↓D8, ↓D9, U0, U1, U2, U3, U4, U5, U6, U7, U8, U9, U10, ↓reduceIte, Nat.reduceAdd, Nat.reduceMul, Nat.reduceSub, Nat.reduceEqDiff, Nat.reduceBEq, Nat.reduceLeDiff, Nat.reduceLT, Int.reduceAdd, Int.reduceMul, Int.reduceSub, Int.reduceLT, Int.reduceLE, Int.reduceToNat, Int.reduceEq, Int.reduceNe, Int.reduceBEq, Int.reduceBNe, ne_eq, eq_self]
            exact ⟨K _ (by simp [gt, e15]) (by simp [gt, e16]) (by simp [gt, e17]) (by simp [gt, e18]) ⟨by simp [gt, e2], by simp [gt, e7], by simp [gt, e8], by simp [gt, e9], by simp [gt, e10], by simp [gt, e11], by simp [gt, e12]⟩ (by simp [gt]), by simp [gt, iv, e19]; omega⟩
          · have hz : w.get (2 + j) = 0 := hwz j h0 hlt (.inl qa) (.inr (by rw [← evb qb]; exact pr'))
            have e18' : gt F' 18 = .bool true := by rw [e18, qb]
            simp only [e15, e16', e17, e18', e19, e2, e7, e8, e9, e10, e11, e12, wrap_w64, pb1, pb2, hz, wi, ↓D0, ↓D1, ↓D2, ↓D3, ↓D4, ↓D5, ↓D6, ↓D7, ↓D8, ↓D9, U0, U1, U2, U3, U4, U5, U6, U7, U8, U9, U10, ↓reduceIte, Nat.reduceAdd, Nat.reduceMul, Nat.reduceSub, Nat.reduceEqDiff, Nat.reduceBEq, Nat.reduceLeDiff, Nat.reduceLT, Int.reduceAdd, Int.reduceMul, Int.reduceSub, Int.reduceLT, Int.reduceLE, Int.reduceToNat, Int.reduceEq, Int.reduceNe, Int.reduceBEq, Int.reduceBNe, ne_eq, eq_self]
            exact ⟨K _ (by simp [gt, e15]) (by simp [gt, e16]) (by simp [gt, e17]) (by simp [gt, e18]) ⟨by simp [gt, e2], by simp [gt, e7], by simp [gt, e8], by simp [gt, e9], by simp [gt, e10], by simp [gt, e11], by simp [gt, e12]⟩ (by simp [gt]), by simp [gt, iv, e19]; omega⟩
          · have hz : w.get (2 + j) = 0 := hwz j h0 hlt (.inl qa) (.inl qb)
            have e18' : gt F' 18 = .bool false := by rw [e18, qb]
            simp only [e15, e16', e17, e18', e19, e2, e7, e8, e9, e10, e11, e12, wrap_w64, hz, wi, ↓D0, ↓D1, ↓D2, ↓D3, ↓D4, ↓D5, ↓D6, ↓D7, ↓D8, ↓D9, U0, U1, U2, U3, U4, U5, U6, U7, U8, U9, U10, ↓reduceIte, Nat.reduceAdd, Nat.reduceMul, Nat.reduceSub, Nat.reduceEqDiff, Nat.reduceBEq, Nat.reduceLeDiff, Nat.reduceLT, Int.reduceAdd, Int.reduceMul, Int.reduceSub, Int.reduceLT, Int.reduceLE, Int.reduceToNat, Int.reduceEq, Int.reduceNe, Int.reduceBEq, Int.reduceBNe, ne_eq, eq_self]
            exact ⟨K _ (by simp [gt, e15]) (by simp [gt, e16]) (by simp [gt, e17]) (by simp [gt, e18]) ⟨by simp [gt, e2], by simp [gt, e7], by simp [gt, e8], by simp [gt, e9], by simp [gt, e10], by simp [gt, e11], by simp [gt, e12]⟩ (by simp [gt]), by simp [gt, iv, e19]; omega⟩
      have d1 : decide (j < P) = false := decide_eq_false hlt
      have hx1 := hS.lk 2 rfl
      have r0 := fun o => rd_of hx1 o
      have hST := hS.tail.tail.tail
      by_cases gX : P < X
      · have dX : decide (P < X) = true := decide_eq_true gX
        simp only [e15, e16, e17, e18, e19, e2, e7, e8, e9, e10, e11, e12, hx1, r0, d1, dX, ↓D0, ↓D1, ↓D2, ↓D3, ↓D4, ↓D5, ↓D6, ↓D7, ↓D8, ↓D9, U0, U1, U2, U3, U4, U5, U6, U7, U8, U9, U10, ↓reduceIte, Nat.reduceAdd, Nat.reduceMul, Nat.reduceSub, Nat.reduceEqDiff, Nat.reduceBEq, Nat.reduceLeDiff, Nat.reduceLT, Int.reduceAdd, Int.reduceMul, Int.reduceSub, Int.reduceLT, Int.reduceLE, Int.reduceToNat, Int.reduceEq, Int.reduceNe, Int.reduceBEq, Int.reduceBNe, ne_eq, eq_self]
        first | exact hST | exact ⟨rfl, hST⟩
      have dX : decide (P < X) = false := decide_eq_false gX
      by_cases gY : P < Y
      · have dY : decide (P < Y) = true := decide_eq_true gY
        simp only [e15, e16, e17, e18, e19, e2, e7, e8, e9, e10, e11, e12, hx1, r0, d1, dX, dY, ↓D0, ↓D1, ↓D2, ↓D3, ↓D4, ↓D5, ↓D6, ↓D7, ↓D8, ↓D9, U0, U1, U2, U3, U4, U5, U6, U7, U8, U9, U10, ↓reduceIte, Nat.reduceAdd, Nat.reduceMul, Nat.reduceSub, Nat.reduceEqDiff, Nat.reduceBEq, Nat.reduceLeDiff, Nat.reduceLT, Int.reduceAdd, Int.reduceMul, Int.reduceSub, Int.reduceLT, Int.reduceLE, Int.reduceToNat, Int.reduceEq, Int.reduceNe, Int.reduceBEq, Int.reduceBNe, ne_eq, eq_self]
        first | exact hST | exact ⟨rfl, hST⟩
      have dY : decide (P < Y) = false := decide_eq_false gY
      rcases hone (by omega) (by omega) with qf | qf
      · rw [qf] at e16
        simp only [e15, e16, e17, e18, e19, e2, e7, e8, e9, e10, e11, e12, hx1, r0, d1, dX, dY, ↓D0, ↓D1, ↓D2, ↓D3, ↓D4, ↓D5, ↓D6, ↓D7, ↓D8, ↓D9, U0, U1, U2, U3, U4, U5, U6, U7, U8, U9, U10, ↓reduceIte, Nat.reduceAdd, Nat.reduceMul, Nat.reduceSub, Nat.reduceEqDiff, Nat.reduceBEq, Nat.reduceLeDiff, Nat.reduceLT, Int.reduceAdd, Int.reduceMul, Int.reduceSub, Int.reduceLT, Int.reduceLE, Int.reduceToNat, Int.reduceEq, Int.reduceNe, Int.reduceBEq, Int.reduceBNe, ne_eq, eq_self]
        first | exact hST | exact ⟨rfl, hST⟩
      · rw [qf] at e18
        cases qg : fa
        · rw [qg] at e16
          simp only [e15, e16, e17, e18, e19, e2, e7, e8, e9, e10, e11, e12, hx1, r0, d1, dX, dY, ↓D0, ↓D1, ↓D2, ↓D3, ↓D4, ↓D5, ↓D6, ↓D7, ↓D8, ↓D9, U0, U1, U2, U3, U4, U5, U6, U7, U8, U9, U10, ↓reduceIte, Nat.reduceAdd, Nat.reduceMul, Nat.reduceSub, Nat.reduceEqDiff, Nat.reduceBEq, Nat.reduceLeDiff, Nat.reduceLT, Int.reduceAdd, Int.reduceMul, Int.reduceSub, Int.reduceLT, Int.reduceLE, Int.reduceToNat, Int.reduceEq, Int.reduceNe, Int.reduceBEq, Int.reduceBNe, ne_eq, eq_self]
          first | exact hST | exact ⟨rfl, hST⟩
        · rw [qg] at e16
          simp only [e15, e16, e17, e18, e19, e2, e7, e8, e9, e10, e11, e12, hx1, r0, d1, dX, dY, ↓D0, ↓D1, ↓D2, ↓D3, ↓D4, ↓D5, ↓D6, ↓D7, ↓D8, ↓D9, U0, U1, U2, U3, U4, U5, U6, U7, U8, U9, U10, ↓reduceIte, Nat.reduceAdd, Nat.reduceMul, Nat.reduceSub, Nat.reduceEqDiff, Nat.reduceBEq, Nat.reduceLeDiff, Nat.reduceLT, Int.reduceAdd, Int.reduceMul, Int.reduceSub, Int.reduceLT, Int.reduceLE, Int.reduceToNat, Int.reduceEq, Int.reduceNe, Int.reduceBEq, Int.reduceBNe, ne_eq, eq_self]
          first | exact hST | exact ⟨rfl, hST⟩
    · have v2 : vb = tb.hd := evb q2
      cases q3 : decide (ta.hd < tb.hd + Y)
      · simp only [e14, e2, e7, e8, e9, e10, e11, e12, dB, hfa, hfb, q1, q2, wrap_w64, wxx, wyy, q3, ↓D0, ↓D1, ↓D2, ↓D3, ↓D4, ↓D5, ↓D6, ↓D7, ↓D8, ↓D9, U0, U1, U2, U3, U4, U5, U6, U7, U8, U9, U10, ↓reduceIte, Nat.reduceAdd, Nat.reduceMul, Nat.reduceSub, Nat.reduceEqDiff, Nat.reduceBEq, Nat.reduceLeDiff, Nat.reduceLT, Int.reduceAdd, Int.reduceMul, Int.reduceSub, Int.reduceLT, Int.reduceLE, Int.reduceToNat, Int.reduceEq, Int.reduceNe, Int.reduceBEq, Int.reduceBNe, ne_eq, eq_self]
        refine loop_intro (rtB P X Y va vb fa fb n cap a x b ka kb s w (h :: l)) (fun F' _ => (P - iv (gt F' 19)).toNat)
          (GO _ (by simp [gt, v1]) (by simp [gt, q1]) (by simp [gt, v2]) (by simp [gt, q2]) ⟨by simp [gt, e2], by simp [gt, e7], by simp [gt, e8], by simp [gt, e9], by simp [gt, e10], by simp [gt, e11], by simp [gt, e12]⟩ (by simp [gt])) ?_
        rintro F' H' ⟨j, h0, h1, e19, e15, e16, e17, e18, ⟨e2, e7, e8, e9, e10, e11, e12⟩, hS⟩
        have hx1 := hS.lk 2 rfl
        have r0 := fun o => rd_of hx1 o
        have r1 := fun o n => rdn_of hx1 o n
        by_cases hlt : j < P
        · have d1 : decide (j < P) = true := decide_eq_true hlt
          have wi : w64 (j + 1) = j + 1 := w64_eq (by omega) (by omega)
          have hpj := hpg j h0 hlt
          simp only [e15, e16, e17, e18, e19, e2, e7, e8, e9, e10, e11, e12, hx1, r0, r1, u_page, hpj, d1, ↓D0, ↓D1, ↓D2, ↓D3, ↓D4, ↓D5, ↓D6, ↓D7, ↓D8, ↓D9, U0, U1, U2, U3, U4, U5, U6, U7, U8, U9, U10, ↓reduceIte, Nat.reduceAdd, Nat.reduceMul, Nat.reduceSub, Nat.reduceEqDiff, Nat.reduceBEq, Nat.reduceLeDiff, Nat.reduceLT, Int.reduceAdd, Int.reduceMul, Int.reduceSub, Int.reduceLT, Int.reduceLE, Int.reduceToNat, Int.reduceEq, Int.reduceNe, Int.reduceBEq, Int.reduceBNe, ne_eq, eq_self]
          refine callT_of (c_look (2 + j) (by omega) (by omega) hS) ?_
          rintro v H' ⟨rfl, hS⟩
          have K : ∀ (F2 : Fr), gt F2 15 = .int .i64 va → gt F2 16 = .bool fa → gt F2 17 = .int .i64 vb → gt F2 18 = .bool fb → rtG P X Y n cap a x b ka kb F2 → gt F2 19 = .int .i64 (j + 1) →
              rtB P X Y va vb fa fb n cap a x b ka kb s w (h :: l) F2 H' := fun F2 q15 q16 q17 q18 qg q19 => ⟨j + 1, by omega, by omega, q19, q15, q16, q17, q18, qg, hS⟩
          have h10 : putPg 1 0 0 = held 0 := rfl
          have h11 : putPg 1 1 0 = held 1 := rfl
          have hbd : ∀ x, putPg 4 x 0 = body x := fun _ => rfl
          rcases pos_cases fa j va X with ⟨qa, pa1, pe⟩ | ⟨qa, pa1, pa2, pa3, pr⟩ | ⟨qa, pa1, pa2, pa3, pr⟩ | ⟨qa, pa1, pa2, pr⟩ | qa
          · have e16' : gt F' 16 = .bool true := by rw [e16, qa]
            have hz : w.get (2 + j) = held 0 := by rw [hwa j h0 hlt qa (by rw [← eva qa]; omega) (by rw [← eva qa]; omega), if_pos (by rw [← eva qa]; exact pe)]
            have hnz : (held 0 != held 0) = false := by simp
            simp only [e15, e16', e17, e18, e19, e2, e7, e8, e9, e10, e11, e12, pa1, u_putpg, h10, hz, hnz, wrap_w64, wi, ↓D0, ↓D1, ↓D2, ↓D3, ↓D4, ↓D5, ↓D6, ↓D7, ↓D8, ↓D9, U0, U1, U2, U3, U4, U5, U6, U7, U8, U9, U10, ↓reduceIte, Nat.reduceAdd, Nat.reduceMul, Nat.reduceSub, Nat.reduceEqDiff, Nat.reduceBEq, Nat.reduceLeDiff, Nat.reduceLT, Int.reduceAdd, Int.reduceMul, Int.reduceSub, Int.reduceLT, Int.reduceLE, Int.reduceToNat, Int.reduceEq, Int.reduceNe, Int.reduceBEq, Int.reduceBNe, ne_eq, eq_self]
            exact ⟨K _ (by simp [gt, e15]) (by simp [gt, e16]) (by simp [gt, e17]) (by simp [gt, e18]) ⟨by simp [gt, e2], by simp [gt, e7], by simp [gt, e8], by simp [gt, e9], by simp [gt, e10], by simp [gt, e11], by simp [gt, e12]⟩ (by simp [gt]), by simp [gt, iv, e19]; omega⟩
          · have e16' : gt F' 16 = .bool true := by rw [e16, qa]
            have hz : w.get (2 + j) = body va := by rw [hwa j h0 hlt qa (by rw [← eva qa]; omega) (by rw [← eva qa]; omega), if_neg (by rw [← eva qa]; omega), eva qa]
            have hnz : (body va != body va) = false := by simp
            have wv := wva qa
            simp only [e15, e16', e17, e18, e19, e2, e7, e8, e9, e10, e11, e12, pa1, pa2, wrap_w64, wv, pa3, u_putpg, hbd, hz, hnz, wi, ↓D0, ↓D1, ↓D2, ↓D3, ↓D4, ↓D5, ↓D6, ↓D7, ↓D8, ↓D9, U0, U1, U2, U3, U4, U5, U6, U7, U8, U9, U10, ↓reduceIte, Nat.reduceAdd, Nat.reduceMul, Nat.reduceSub, Nat.reduceEqDiff, Nat.reduceBEq, Nat.reduceLeDiff, Nat.reduceLT, Int.reduceAdd, Int.reduceMul, Int.reduceSub, Int.reduceLT, Int.reduceLE, Int.reduceToNat, Int.reduceEq, Int.reduceNe, Int.reduceBEq, Int.reduceBNe, ne_eq, eq_self]
            exact ⟨K _ (by simp [gt, e15]) (by simp [gt, e16]) (by simp [gt, e17]) (by simp [gt, e18]) ⟨by simp [gt, e2], by simp [gt, e7], by simp [gt, e8], by simp [gt, e9], by simp [gt, e10], by simp [gt, e11], by simp [gt, e12]⟩ (by simp [gt]), by simp [gt, iv, e19]; omega⟩
          · have wv := wva qa
            have e16' : gt F' 16 = .bool true := by rw [e16, qa]
            rcases pos_cases fb j vb Y with ⟨qb, pb1, pe⟩ | ⟨qb, pb1, pb2, pb3, pr'⟩ | ⟨qb, pb1, pb2, pb3, pr'⟩ | ⟨qb, pb1, pb2, pr'⟩ | qb
            · have e18' : gt F' 18 = .bool true := by rw [e18, qb]
              have hz : w.get (2 + j) = held 1 := by rw [hwb j h0 hlt qb (by rw [← evb qb]; omega) (by rw [← evb qb]; omega), if_pos (by rw [← evb qb]; exact pe)]
              have hnz : (held 1 != held 1) = false := by simp
              simp only [e15, e16', e17, e18', e19, e2, e7, e8, e9, e10, e11, e12, pa1, pa2, wrap_w64, wv, pa3, pb1, u_putpg, h11, hz, hnz, wrap_w64, wi, ↓D0, ↓D1, ↓D2, ↓D3, ↓D4, ↓D5, ↓D6, ↓D7, ↓D8, ↓D9, U0, U1, U2, U3, U4, U5, U6, U7, U8, U9, U10, ↓reduceIte, Nat.reduceAdd, Nat.reduceMul, Nat.reduceSub, Nat.reduceEqDiff, Nat.reduceBEq, Nat.reduceLeDiff, Nat.reduceLT, Int.reduceAdd, Int.reduceMul, Int.reduceSub, Int.reduceLT, Int.reduceLE, Int.reduceToNat, Int.reduceEq, Int.reduceNe, Int.reduceBEq, Int.reduceBNe, ne_eq, eq_self]
              exact ⟨K _ (by simp [gt, e15]) (by simp [gt, e16]) (by simp [gt, e17]) (by simp [gt, e18]) ⟨by simp [gt, e2], by simp [gt, e7], by simp [gt, e8], by simp [gt, e9], by simp [gt, e10], by simp [gt, e11], by simp [gt, e12]⟩ (by simp [gt]), by simp [gt, iv, e19]; omega⟩
            · have e18' : gt F' 18 = .bool true := by rw [e18, qb]
              have hz : w.get (2 + j) = body vb := by rw [hwb j h0 hlt qb (by rw [← evb qb]; omega) (by rw [← evb qb]; omega), if_neg (by rw [← evb qb]; omega), evb qb]
              have hnz : (body vb != body vb) = false := by simp
              have wv' := wvb qb
              simp only [e15, e16', e17, e18', e19, e2, e7, e8, e9, e10, e11, e12, pa1, pa2, wrap_w64, wv, pa3, pb1, pb2, wrap_w64, wv', pb3, u_putpg, hbd, hz, hnz, wi, ↓D0, ↓D1, ↓D2, ↓D3, ↓D4, ↓D5, ↓D6, ↓D7, ↓D8, ↓D9, U0, U1, U2, U3, U4, U5, U6, U7, U8, U9, U10, ↓reduceIte, Nat.reduceAdd, Nat.reduceMul, Nat.reduceSub, Nat.reduceEqDiff, Nat.reduceBEq, Nat.reduceLeDiff, Nat.reduceLT, Int.reduceAdd, Int.reduceMul, Int.reduceSub, Int.reduceLT, Int.reduceLE, Int.reduceToNat, Int.reduceEq, Int.reduceNe, Int.reduceBEq, Int.reduceBNe, ne_eq, eq_self]
              exact ⟨K _ (by simp [gt, e15]) (by simp [gt, e16]) (by simp [gt, e17]) (by simp [gt, e18]) ⟨by simp [gt, e2], by simp [gt, e7], by simp [gt, e8], by simp [gt, e9], by simp [gt, e10], by simp [gt, e11], by simp [gt, e12]⟩ (by simp [gt]), by simp [gt, iv, e19]; omega⟩
            · have hz : w.get (2 + j) = 0 := hwz j h0 hlt (.inr (by rw [← eva qa]; exact pr)) (.inr (by rw [← evb qb]; exact pr'))
              have wv' := wvb qb
              have e18' : gt F' 18 = .bool true := by rw [e18, qb]
              simp only [e15, e16', e17, e18', e19, e2, e7, e8, e9, e10, e11, e12, pa1, pa2, wrap_w64, wv, pa3, wrap_w64, pb1, pb2, wv', pb3, hz, wi, ↓D0, ↓D1, ↓D2, ↓D3, ↓D4, ↓D5, ↓D6, ↓D7, ↓D8, ↓D9, U0, U1, U2, U3, U4, U5, U6, U7, U8, U9, U10, ↓reduceIte, Nat.reduceAdd, Nat.reduceMul, Nat.reduceSub, Nat.reduceEqDiff, Nat.reduceBEq, Nat.reduceLeDiff, Nat.reduceLT, Int.reduceAdd, Int.reduceMul, Int.reduceSub, Int.reduceLT, Int.reduceLE, Int.reduceToNat, Int.reduceEq, Int.reduceNe, Int.reduceBEq, Int.reduceBNe, ne_eq, eq_self]
              exact ⟨K _ (by simp [gt, e15]) (by simp [gt, e16]) (by simp [gt, e17]) (by simp [gt, e18]) ⟨by simp [gt, e2], by simp [gt, e7], by simp [gt, e8], by simp [gt, e9], by simp [gt, e10], by simp [gt, e11], by simp [gt, e12]⟩ (by simp [gt]), by simp [gt, iv, e19]; omega⟩
            · have hz : w.get (2 + j) = 0 := hwz j h0 hlt (.inr (by rw [← eva qa]; exact pr)) (.inr (by rw [← evb qb]; exact pr'))
              have e18' : gt F' 18 = .bool true := by rw [e18, qb]
              simp only [e15, e16', e17, e18', e19, e2, e7, e8, e9, e10, e11, e12, pa1, pa2, wrap_w64, wv, pa3, wrap_w64, pb1, pb2, hz, wi, ↓D0, ↓D1, ↓D2, ↓D3, ↓D4, ↓D5, ↓D6, ↓D7, ↓D8, ↓D9, U0, U1, U2, U3, U4, U5, U6, U7, U8, U9, U10, ↓reduceIte, Nat.reduceAdd, Nat.reduceMul, Nat.reduceSub, Nat.reduceEqDiff, Nat.reduceBEq, Nat.reduceLeDiff, Nat.reduceLT, Int.reduceAdd, Int.reduceMul, Int.reduceSub, Int.reduceLT, Int.reduceLE, Int.reduceToNat, Int.reduceEq, Int.reduceNe, Int.reduceBEq, Int.reduceBNe, ne_eq, eq_self]
              exact ⟨K _ (by simp [gt, e15]) (by simp [gt, e16]) (by simp [gt, e17]) (by simp [gt, e18]) ⟨by simp [gt, e2], by simp [gt, e7], by simp [gt, e8], by simp [gt, e9], by simp [gt, e10], by simp [gt, e11], by simp [gt, e12]⟩ (by simp [gt]), by simp [gt, iv, e19]; omega⟩
            · have hz : w.get (2 + j) = 0 := hwz j h0 hlt (.inr (by rw [← eva qa]; exact pr)) (.inl qb)
              have e18' : gt F' 18 = .bool false := by rw [e18, qb]
              simp only [e15, e16', e17, e18', e19, e2, e7, e8, e9, e10, e11, e12, pa1, pa2, wrap_w64, wv, pa3, wrap_w64, hz, wi, ↓D0, ↓D1, ↓D2, ↓D3, ↓D4, ↓D5, ↓D6, ↓D7, ↓D8, ↓D9, U0, U1, U2, U3, U4, U5, U6, U7, U8, U9, U10, ↓reduceIte, Nat.reduceAdd, Nat.reduceMul, Nat.reduceSub, Nat.reduceEqDiff, Nat.reduceBEq, Nat.reduceLeDiff, Nat.reduceLT, Int.reduceAdd, Int.reduceMul, Int.reduceSub, Int.reduceLT, Int.reduceLE, Int.reduceToNat, Int.reduceEq, Int.reduceNe, Int.reduceBEq, Int.reduceBNe, ne_eq, eq_self]
              exact ⟨K _ (by simp [gt, e15]) (by simp [gt, e16]) (by simp [gt, e17]) (by simp [gt, e18]) ⟨by simp [gt, e2], by simp [gt, e7], by simp [gt, e8], by simp [gt, e9], by simp [gt, e10], by simp [gt, e11], by simp [gt, e12]⟩ (by simp [gt]), by simp [gt, iv, e19]; omega⟩
          · have e16' : gt F' 16 = .bool true := by rw [e16, qa]
            rcases pos_cases fb j vb Y with ⟨qb, pb1, pe⟩ | ⟨qb, pb1, pb2, pb3, pr'⟩ | ⟨qb, pb1, pb2, pb3, pr'⟩ | ⟨qb, pb1, pb2, pr'⟩ | qb
            · have e18' : gt F' 18 = .bool true := by rw [e18, qb]
              have hz : w.get (2 + j) = held 1 := by rw [hwb j h0 hlt qb (by rw [← evb qb]; omega) (by rw [← evb qb]; omega), if_pos (by rw [← evb qb]; exact pe)]
              have hnz : (held 1 != held 1) = false := by simp
              simp only [e15, e16', e17, e18', e19, e2, e7, e8, e9, e10, e11, e12, pa1, pa2, pb1, u_putpg, h11, hz, hnz, wrap_w64, wi, ↓D0, ↓D1, ↓D2, ↓D3, ↓D4, ↓D5, ↓D6, ↓D7, ↓D8, ↓D9, U0, U1, U2, U3, U4, U5, U6, U7, U8, U9, U10, ↓reduceIte, Nat.reduceAdd, Nat.reduceMul, Nat.reduceSub, Nat.reduceEqDiff, Nat.reduceBEq, Nat.reduceLeDiff, Nat.reduceLT, Int.reduceAdd, Int.reduceMul, Int.reduceSub, Int.reduceLT, Int.reduceLE, Int.reduceToNat, Int.reduceEq, Int.reduceNe, Int.reduceBEq, Int.reduceBNe, ne_eq, eq_self]
              exact ⟨K _ (by simp [gt, e15]) (by simp [gt, e16]) (by simp [gt, e17]) (by simp [gt, e18]) ⟨by simp [gt, e2], by simp [gt, e7], by simp [gt, e8], by simp [gt, e9], by simp [gt, e10], by simp [gt, e11], by simp [gt, e12]⟩ (by simp [gt]), by simp [gt, iv, e19]; omega⟩
            · have e18' : gt F' 18 = .bool true := by rw [e18, qb]
              have hz : w.get (2 + j) = body vb := by rw [hwb j h0 hlt qb (by rw [← evb qb]; omega) (by rw [← evb qb]; omega), if_neg (by rw [← evb qb]; omega), evb qb]
              have hnz : (body vb != body vb) = false := by simp
              have wv' := wvb qb
              simp only [e15, e16', e17, e18', e19, e2, e7, e8, e9, e10, e11, e12, pa1, pa2, pb1, pb2, wrap_w64, wv', pb3, u_putpg, hbd, hz, hnz, wi, ↓D0, ↓D1, ↓D2, ↓D3, ↓D4, ↓D5, ↓D6, ↓D7, ↓D8, ↓D9, U0, U1, U2, U3, U4, U5, U6, U7, U8, U9, U10, ↓reduceIte, Nat.reduceAdd, Nat.reduceMul, Nat.reduceSub, Nat.reduceEqDiff, Nat.reduceBEq, Nat.reduceLeDiff, Nat.reduceLT, Int.reduceAdd, Int.reduceMul, Int.reduceSub, Int.reduceLT, Int.reduceLE, Int.reduceToNat, Int.reduceEq, Int.reduceNe, Int.reduceBEq, Int.reduceBNe, ne_eq, eq_self]
              exact ⟨K _ (by simp [gt, e15]) (by simp [gt, e16]) (by simp [gt, e17]) (by simp [gt, e18]) ⟨by simp [gt, e2], by simp [gt, e7], by simp [gt, e8], by simp [gt, e9], by simp [gt, e10], by simp [gt, e11], by simp [gt, e12]⟩ (by simp [gt]), by simp [gt, iv, e19]; omega⟩
            · have hz : w.get (2 + j) = 0 := hwz j h0 hlt (.inr (by rw [← eva qa]; exact pr)) (.inr (by rw [← evb qb]; exact pr'))
              have wv' := wvb qb
              have e18' : gt F' 18 = .bool true := by rw [e18, qb]
              simp only [e15, e16', e17, e18', e19, e2, e7, e8, e9, e10, e11, e12, pa1, pa2, wrap_w64, pb1, pb2, wv', pb3, hz, wi, ↓D0, ↓D1, ↓D2, ↓D3, ↓D4, ↓D5, ↓D6, ↓D7, ↓D8, ↓D9, U0, U1, U2, U3, U4, U5, U6, U7, U8, U9, U10, ↓reduceIte, Nat.reduceAdd, Nat.reduceMul, Nat.reduceSub, Nat.reduceEqDiff, Nat.reduceBEq, Nat.reduceLeDiff, Nat.reduceLT, Int.reduceAdd, Int.reduceMul, Int.reduceSub, Int.reduceLT, Int.reduceLE, Int.reduceToNat, Int.reduceEq, Int.reduceNe, Int.reduceBEq, Int.reduceBNe, ne_eq, eq_self]
              exact ⟨K _ (by simp [gt, e15]) (by simp [gt, e16]) (by simp [gt, e17]) (by simp [gt, e18]) ⟨by simp [gt, e2], by simp [gt, e7], by simp [gt, e8], by simp [gt, e9], by simp [gt, e10], by simp [gt, e11], by simp [gt, e12]⟩ (by simp [gt]), by simp [gt, iv, e19]; omega⟩
            · have hz : w.get (2 + j) = 0 := hwz j h0 hlt (.inr (by rw [← eva qa]; exact pr)) (.inr (by rw [← evb qb]; exact pr'))
              have e18' : gt F' 18 = .bool true := by rw [e18, qb]
              simp only [e15, e16', e17, e18', e19, e2, e7, e8, e9, e10, e11, e12, pa1, pa2, wrap_w64, pb1, pb2, hz, wi, ↓D0, ↓D1, ↓D2, ↓D3, ↓D4, ↓D5, ↓D6, ↓D7, ↓D8, ↓D9, U0, U1, U2, U3, U4, U5, U6, U7, U8, U9, U10, ↓reduceIte, Nat.reduceAdd, Nat.reduceMul, Nat.reduceSub, Nat.reduceEqDiff, Nat.reduceBEq, Nat.reduceLeDiff, Nat.reduceLT, Int.reduceAdd, Int.reduceMul, Int.reduceSub, Int.reduceLT, Int.reduceLE, Int.reduceToNat, Int.reduceEq, Int.reduceNe, Int.reduceBEq, Int.reduceBNe, ne_eq, eq_self]
              exact ⟨K _ (by simp [gt, e15]) (by simp [gt, e16]) (by simp [gt, e17]) (by simp [gt, e18]) ⟨by simp [gt, e2], by simp [gt, e7], by simp [gt, e8], by simp [gt, e9], by simp [gt, e10], by simp [gt, e11], by simp [gt, e12]⟩ (by simp [gt]), by simp [gt, iv, e19]; omega⟩
            · have hz : w.get (2 + j) = 0 := hwz j h0 hlt (.inr (by rw [← eva qa]; exact pr)) (.inl qb)
              have e18' : gt F' 18 = .bool false := by rw [e18, qb]
              simp only [e15, e16', e17, e18', e19, e2, e7, e8, e9, e10, e11, e12, pa1, pa2, wrap_w64, hz, wi, ↓D0, ↓D1, ↓D2, ↓D3, ↓D4, ↓D5, ↓D6, ↓D7, ↓D8, ↓D9, U0, U1, U2, U3, U4, U5, U6, U7, U8, U9, U10, ↓reduceIte, Nat.reduceAdd, Nat.reduceMul, Nat.reduceSub, Nat.reduceEqDiff, Nat.reduceBEq, Nat.reduceLeDiff, Nat.reduceLT, Int.reduceAdd, Int.reduceMul, Int.reduceSub, Int.reduceLT, Int.reduceLE, Int.reduceToNat, Int.reduceEq, Int.reduceNe, Int.reduceBEq, Int.reduceBNe, ne_eq, eq_self]
              exact ⟨K _ (by simp [gt, e15]) (by simp [gt, e16]) (by simp [gt, e17]) (by simp [gt, e18]) ⟨by simp [gt, e2], by simp [gt, e7], by simp [gt, e8], by simp [gt, e9], by simp [gt, e10], by simp [gt, e11], by simp [gt, e12]⟩ (by simp [gt]), by simp [gt, iv, e19]; omega⟩
          · have e16' : gt F' 16 = .bool false := by rw [e16, qa]
            rcases pos_cases fb j vb Y with ⟨qb, pb1, pe⟩ | ⟨qb, pb1, pb2, pb3, pr'⟩ | ⟨qb, pb1, pb2, pb3, pr'⟩ | ⟨qb, pb1, pb2, pr'⟩ | qb
            · have e18' : gt F' 18 = .bool true := by rw [e18, qb]
              have hz : w.get (2 + j) = held 1 := by rw [hwb j h0 hlt qb (by rw [← evb qb]; omega) (by rw [← evb qb]; omega), if_pos (by rw [← evb qb]; exact pe)]
              have hnz : (held 1 != held 1) = false := by simp
              simp only [e15, e16', e17, e18', e19, e2, e7, e8, e9, e10, e11, e12, pb1, u_putpg, h11, hz, hnz, wrap_w64, wi, ↓D0, ↓D1, ↓D2, ↓D3, ↓D4, ↓D5, ↓D6, ↓D7, ↓D8, ↓D9, U0, U1, U2, U3, U4, U5, U6, U7, U8, U9, U10, ↓reduceIte, Nat.reduceAdd, Nat.reduceMul, Nat.reduceSub, Nat.reduceEqDiff, Nat.reduceBEq, Nat.reduceLeDiff, Nat.reduceLT, Int.reduceAdd, Int.reduceMul, Int.reduceSub, Int.reduceLT, Int.reduceLE, Int.reduceToNat, Int.reduceEq, Int.reduceNe, Int.reduceBEq, Int.reduceBNe, ne_eq, eq_self]
              exact ⟨K _ (by simp [gt, e15]) (by simp [gt, e16]) (by simp [gt, e17]) (by simp [gt, e18]) ⟨by simp [gt, e2], by simp [gt, e7], by simp [gt, e8], by simp [gt, e9], by simp [gt, e10], by simp [gt, e11], by simp [gt, e12]⟩ (by simp [gt]), by simp [gt, iv, e19]; omega⟩
            · have e18' : gt F' 18 = .bool true := by rw [e18, qb]
              have hz : w.get (2 + j) = body vb := by rw [hwb j h0 hlt qb (by rw [← evb qb]; omega) (by rw [← evb qb]; omega), if_neg (by rw [← evb qb]; omega), evb qb]
              have hnz : (body vb != body vb) = false := by simp
              have wv' := wvb qb
              simp only [e15, e16', e17, e18', e19, e2, e7, e8, e9, e10, e11, e12, pb1, pb2, wrap_w64, wv', pb3, u_putpg, hbd, hz, hnz, wi, ↓D0, ↓D1, ↓D2, ↓D3, ↓D4, ↓D5, ↓D6, ↓D7, ↓D8, ↓D9, U0, U1, U2, U3, U4, U5, U6, U7, U8, U9, U10, ↓reduceIte, Nat.reduceAdd, Nat.reduceMul, Nat.reduceSub, Nat.reduceEqDiff, Nat.reduceBEq, Nat.reduceLeDiff, Nat.reduceLT, Int.reduceAdd, Int.reduceMul, Int.reduceSub, Int.reduceLT, Int.reduceLE, Int.reduceToNat, Int.reduceEq, Int.reduceNe, Int.reduceBEq, Int.reduceBNe, ne_eq, eq_self]
              exact ⟨K _ (by simp [gt, e15]) (by simp [gt, e16]) (by simp [gt, e17]) (by simp [gt, e18]) ⟨by simp [gt, e2], by simp [gt, e7], by simp [gt, e8], by simp [gt, e9], by simp [gt, e10], by simp [gt, e11], by simp [gt, e12]⟩ (by simp [gt]), by simp [gt, iv, e19]; omega⟩
            · have hz : w.get (2 + j) = 0 := hwz j h0 hlt (.inl qa) (.inr (by rw [← evb qb]; exact pr'))
              have wv' := wvb qb
              have e18' : gt F' 18 = .bool true := by rw [e18, qb]
              simp only [e15, e16', e17, e18', e19, e2, e7, e8, e9, e10, e11, e12, wrap_w64, pb1, pb2, wv', pb3, hz, wi, ↓D0, ↓D1, ↓D2, ↓D3, ↓D4, ↓D5, ↓D6, ↓D7, ↓D8, ↓D9, U0, U1, U2, U3, U4, U5, U6, U7, U8, U9, U10, ↓reduceIte, Nat.reduceAdd, Nat.reduceMul, Nat.reduceSub, Nat.reduceEqDiff, Nat.reduceBEq, Nat.reduceLeDiff, Nat.reduceLT, Int.reduceAdd, Int.reduceMul, Int.reduceSub, Int.reduceLT, Int.reduceLE, Int.reduceToNat, Int.reduceEq, Int.reduceNe, Int.reduceBEq, Int.reduceBNe, ne_eq, eq_self]
              exact ⟨K _ (by simp [gt, e15]) (by simp [gt, e16]) (by simp [gt, e17]) (by simp [gt, e18]) ⟨by simp [gt, e2], by simp [gt, e7], by simp [gt, e8], by simp [gt, e9], by simp [gt, e10], by simp [gt, e11], by simp [gt, e12]⟩ (by simp [gt]), by simp [gt, iv, e19]; omega⟩
            · have hz : w.get (2 + j) = 0 := hwz j h0 hlt (.inl qa) (.inr (by rw [← evb qb]; exact pr'))
              have e18' : gt F' 18 = .bool true := by rw [e18, qb]
              simp only [e15, e16', e17, e18', e19, e2, e7, e8, e9, e10, e11, e12, wrap_w64, pb1, pb2, hz, wi, ↓D0, ↓D1, ↓D2, ↓D3, ↓D4, ↓D5, ↓D6, ↓D7, ↓D8, ↓D9, U0, U1, U2, U3, U4, U5, U6, U7, U8, U9, U10, ↓reduceIte, Nat.reduceAdd, Nat.reduceMul, Nat.reduceSub, Nat.reduceEqDiff, Nat.reduceBEq, Nat.reduceLeDiff, Nat.reduceLT, Int.reduceAdd, Int.reduceMul, Int.reduceSub, Int.reduceLT, Int.reduceLE, Int.reduceToNat, Int.reduceEq, Int.reduceNe, Int.reduceBEq, Int.reduceBNe, ne_eq, eq_self]
              exact ⟨K _ (by simp [gt, e15]) (by simp [gt, e16]) (by simp [gt, e17]) (by simp [gt, e18]) ⟨by simp [gt, e2], by simp [gt, e7], by simp [gt, e8], by simp [gt, e9], by simp [gt, e10], by simp [gt, e11], by simp [gt, e12]⟩ (by simp [gt]), by simp [gt, iv, e19]; omega⟩
            · have hz : w.get (2 + j) = 0 := hwz j h0 hlt (.inl qa) (.inl qb)
              have e18' : gt F' 18 = .bool false := by rw [e18, qb]
              simp only [e15, e16', e17, e18', e19, e2, e7, e8, e9, e10, e11, e12, wrap_w64, hz, wi, ↓D0, ↓D1, ↓D2, ↓D3, ↓D4, ↓D5, ↓D6, ↓D7, ↓D8, ↓D9, U0, U1, U2, U3, U4, U5, U6, U7, U8, U9, U10, ↓reduceIte, Nat.reduceAdd, Nat.reduceMul, Nat.reduceSub, Nat.reduceEqDiff, Nat.reduceBEq, Nat.reduceLeDiff, Nat.reduceLT, Int.reduceAdd, Int.reduceMul, Int.reduceSub, Int.reduceLT, Int.reduceLE, Int.reduceToNat, Int.reduceEq, Int.reduceNe, Int.reduceBEq, Int.reduceBNe, ne_eq, eq_self]
              exact ⟨K _ (by simp [gt, e15]) (by simp [gt, e16]) (by simp [gt, e17]) (by simp [gt, e18]) ⟨by simp [gt, e2], by simp [gt, e7], by simp [gt, e8], by simp [gt, e9], by simp [gt, e10], by simp [gt, e11], by simp [gt, e12]⟩ (by simp [gt]), by simp [gt, iv, e19]; omega⟩
        have d1 : decide (j < P) = false := decide_eq_false hlt
        have hx1 := hS.lk 2 rfl
        have r0 := fun o => rd_of hx1 o
        have hST := hS.tail.tail.tail
        by_cases gX : P < X
        · have dX : decide (P < X) = true := decide_eq_true gX
          simp only [e15, e16, e17, e18, e19, e2, e7, e8, e9, e10, e11, e12, hx1, r0, d1, dX, ↓D0, ↓D1, ↓D2, ↓D3, ↓D4, ↓D5, ↓D6, ↓D7, ↓D8, ↓D9, U0, U1, U2, U3, U4, U5, U6, U7, U8, U9, U10, ↓reduceIte, Nat.reduceAdd, Nat.reduceMul, Nat.reduceSub, Nat.reduceEqDiff, Nat.reduceBEq, Nat.reduceLeDiff, Nat.reduceLT, Int.reduceAdd, Int.reduceMul, Int.reduceSub, Int.reduceLT, Int.reduceLE, Int.reduceToNat, Int.reduceEq, Int.reduceNe, Int.reduceBEq, Int.reduceBNe, ne_eq, eq_self]
          first | exact hST | exact ⟨rfl, hST⟩
        have dX : decide (P < X) = false := decide_eq_false gX
        by_cases gY : P < Y
        · have dY : decide (P < Y) = true := decide_eq_true gY
          simp only [e15, e16, e17, e18, e19, e2, e7, e8, e9, e10, e11, e12, hx1, r0, d1, dX, dY, ↓D0, ↓D1, ↓D2, ↓D3, ↓D4, ↓D5, ↓D6, ↓D7, ↓D8, ↓D9, U0, U1, U2, U3, U4, U5, U6, U7, U8, U9, U10, ↓reduceIte, Nat.reduceAdd, Nat.reduceMul, Nat.reduceSub, Nat.reduceEqDiff, Nat.reduceBEq, Nat.reduceLeDiff, Nat.reduceLT, Int.reduceAdd, Int.reduceMul, Int.reduceSub, Int.reduceLT, Int.reduceLE, Int.reduceToNat, Int.reduceEq, Int.reduceNe, Int.reduceBEq, Int.reduceBNe, ne_eq, eq_self]
          first | exact hST | exact ⟨rfl, hST⟩
        have dY : decide (P < Y) = false := decide_eq_false gY
        rcases hone (by omega) (by omega) with qf | qf
        · rw [qf] at e16
          simp only [e15, e16, e17, e18, e19, e2, e7, e8, e9, e10, e11, e12, hx1, r0, d1, dX, dY, ↓D0, ↓D1, ↓D2, ↓D3, ↓D4, ↓D5, ↓D6, ↓D7, ↓D8, ↓D9, U0, U1, U2, U3, U4, U5, U6, U7, U8, U9, U10, ↓reduceIte, Nat.reduceAdd, Nat.reduceMul, Nat.reduceSub, Nat.reduceEqDiff, Nat.reduceBEq, Nat.reduceLeDiff, Nat.reduceLT, Int.reduceAdd, Int.reduceMul, Int.reduceSub, Int.reduceLT, Int.reduceLE, Int.reduceToNat, Int.reduceEq, Int.reduceNe, Int.reduceBEq, Int.reduceBNe, ne_eq, eq_self]
          first | exact hST | exact ⟨rfl, hST⟩
        · rw [qf] at e18
          cases qg : fa
          · rw [qg] at e16
            simp only [e15, e16, e17, e18, e19, e2, e7, e8, e9, e10, e11, e12, hx1, r0, d1, dX, dY, ↓D0, ↓D1, ↓D2, ↓D3, ↓D4, ↓D5, ↓D6, ↓D7, ↓D8, ↓D9, U0, U1, U2, U3, U4, U5, U6, U7, U8, U9, U10, ↓reduceIte, Nat.reduceAdd, Nat.reduceMul, Nat.reduceSub, Nat.reduceEqDiff, Nat.reduceBEq, Nat.reduceLeDiff, Nat.reduceLT, Int.reduceAdd, Int.reduceMul, Int.reduceSub, Int.reduceLT, Int.reduceLE, Int.reduceToNat, Int.reduceEq, Int.reduceNe, Int.reduceBEq, Int.reduceBNe, ne_eq, eq_self]
            first | exact hST | exact ⟨rfl, hST⟩
          · rw [qg] at e16
            simp only [e15, e16, e17, e18, e19, e2, e7, e8, e9, e10, e11, e12, hx1, r0, d1, dX, dY, ↓D0, ↓D1, ↓D2, ↓D3, ↓D4, ↓D5, ↓D6, ↓D7, ↓D8, ↓D9, U0, U1, U2, U3, U4, U5, U6, U7, U8, U9, U10, ↓reduceIte, Nat.reduceAdd, Nat.reduceMul, Nat.reduceSub, Nat.reduceEqDiff, Nat.reduceBEq, Nat.reduceLeDiff, Nat.reduceLT, Int.reduceAdd, Int.reduceMul, Int.reduceSub, Int.reduceLT, Int.reduceLE, Int.reduceToNat, Int.reduceEq, Int.reduceNe, Int.reduceBEq, Int.reduceBNe, ne_eq, eq_self]
            first | exact hST | exact ⟨rfl, hST⟩
      · have q4 := hdj q1 q2 q3
        simp only [e14, e2, e7, e8, e9, e10, e11, e12, dB, hfa, hfb, q1, q2, wrap_w64, wxx, wyy, q3, q4, ↓D0, ↓D1, ↓D2, ↓D3, ↓D4, ↓D5, ↓D6, ↓D7, ↓D8, ↓D9, U0, U1, U2, U3, U4, U5, U6, U7, U8, U9, U10, ↓reduceIte, Nat.reduceAdd, Nat.reduceMul, Nat.reduceSub, Nat.reduceEqDiff, Nat.reduceBEq, Nat.reduceLeDiff, Nat.reduceLT, Int.reduceAdd, Int.reduceMul, Int.reduceSub, Int.reduceLT, Int.reduceLE, Int.reduceToNat, Int.reduceEq, Int.reduceNe, Int.reduceBEq, Int.reduceBNe, ne_eq, eq_self]
        refine loop_intro (rtB P X Y va vb fa fb n cap a x b ka kb s w (h :: l)) (fun F' _ => (P - iv (gt F' 19)).toNat)
          (GO _ (by simp [gt, v1]) (by simp [gt, q1]) (by simp [gt, v2]) (by simp [gt, q2]) ⟨by simp [gt, e2], by simp [gt, e7], by simp [gt, e8], by simp [gt, e9], by simp [gt, e10], by simp [gt, e11], by simp [gt, e12]⟩ (by simp [gt])) ?_
        rintro F' H' ⟨j, h0, h1, e19, e15, e16, e17, e18, ⟨e2, e7, e8, e9, e10, e11, e12⟩, hS⟩
        have hx1 := hS.lk 2 rfl
        have r0 := fun o => rd_of hx1 o
        have r1 := fun o n => rdn_of hx1 o n
        by_cases hlt : j < P
        · have d1 : decide (j < P) = true := decide_eq_true hlt
          have wi : w64 (j + 1) = j + 1 := w64_eq (by omega) (by omega)
          have hpj := hpg j h0 hlt
          simp only [e15, e16, e17, e18, e19, e2, e7, e8, e9, e10, e11, e12, hx1, r0, r1, u_page, hpj, d1, ↓D0, ↓D1, ↓D2, ↓D3, ↓D4, ↓D5, ↓D6, ↓D7, ↓D8, ↓D9, U0, U1, U2, U3, U4, U5, U6, U7, U8, U9, U10, ↓reduceIte, Nat.reduceAdd, Nat.reduceMul, Nat.reduceSub, Nat.reduceEqDiff, Nat.reduceBEq, Nat.reduceLeDiff, Nat.reduceLT, Int.reduceAdd, Int.reduceMul, Int.reduceSub, Int.reduceLT, Int.reduceLE, Int.reduceToNat, Int.reduceEq, Int.reduceNe, Int.reduceBEq, Int.reduceBNe, ne_eq, eq_self]
          refine callT_of (c_look (2 + j) (by omega) (by omega) hS) ?_
          rintro v H' ⟨rfl, hS⟩
          have K : ∀ (F2 : Fr), gt F2 15 = .int .i64 va → gt F2 16 = .bool fa → gt F2 17 = .int .i64 vb → gt F2 18 = .bool fb → rtG P X Y n cap a x b ka kb F2 → gt F2 19 = .int .i64 (j + 1) →
              rtB P X Y va vb fa fb n cap a x b ka kb s w (h :: l) F2 H' := fun F2 q15 q16 q17 q18 qg q19 => ⟨j + 1, by omega, by omega, q19, q15, q16, q17, q18, qg, hS⟩
          have h10 : putPg 1 0 0 = held 0 := rfl
          have h11 : putPg 1 1 0 = held 1 := rfl
          have hbd : ∀ x, putPg 4 x 0 = body x := fun _ => rfl
          rcases pos_cases fa j va X with ⟨qa, pa1, pe⟩ | ⟨qa, pa1, pa2, pa3, pr⟩ | ⟨qa, pa1, pa2, pa3, pr⟩ | ⟨qa, pa1, pa2, pr⟩ | qa
          · have e16' : gt F' 16 = .bool true := by rw [e16, qa]
            have hz : w.get (2 + j) = held 0 := by rw [hwa j h0 hlt qa (by rw [← eva qa]; omega) (by rw [← eva qa]; omega), if_pos (by rw [← eva qa]; exact pe)]
            have hnz : (held 0 != held 0) = false := by simp
            simp only [e15, e16', e17, e18, e19, e2, e7, e8, e9, e10, e11, e12, pa1, u_putpg, h10, hz, hnz, wrap_w64, wi, ↓D0, ↓D1, ↓D2, ↓D3, ↓D4, ↓D5, ↓D6, ↓D7, ↓D8, ↓D9, U0, U1, U2, U3, U4, U5, U6, U7, U8, U9, U10, ↓reduceIte, Nat.reduceAdd, Nat.reduceMul, Nat.reduceSub, Nat.reduceEqDiff, Nat.reduceBEq, Nat.reduceLeDiff, Nat.reduceLT, Int.reduceAdd, Int.reduceMul, Int.reduceSub, Int.reduceLT, Int.reduceLE, Int.reduceToNat, Int.reduceEq, Int.reduceNe, Int.reduceBEq, Int.reduceBNe, ne_eq, eq_self]
            exact ⟨K _ (by simp [gt, e15]) (by simp [gt, e16]) (by simp [gt, e17]) (by simp [gt, e18]) ⟨by simp [gt, e2], by simp [gt, e7], by simp [gt, e8], by simp [gt, e9], by simp [gt, e10], by simp [gt, e11], by simp [gt, e12]⟩ (by simp [gt]), by simp [gt, iv, e19]; omega⟩
          · have e16' : gt F' 16 = .bool true := by rw [e16, qa]
            have hz : w.get (2 + j) = body va := by rw [hwa j h0 hlt qa (by rw [← eva qa]; omega) (by rw [← eva qa]; omega), if_neg (by rw [← eva qa]; omega), eva qa]
            have hnz : (body va != body va) = false := by simp
            have wv := wva qa
            simp only [e15, e16', e17, e18, e19, e2, e7, e8, e9, e10, e11, e12, pa1, pa2, wrap_w64, wv, pa3, u_putpg, hbd, hz, hnz, wi, ↓D0, ↓D1, ↓D2, ↓D3, ↓D4, ↓D5, ↓D6, ↓D7, ↓D8, ↓D9, U0, U1, U2, U3, U4, U5, U6, U7, U8, U9, U10, ↓reduceIte, Nat.reduceAdd, Nat.reduceMul, Nat.reduceSub, Nat.reduceEqDiff, Nat.reduceBEq, Nat.reduceLeDiff, Nat.reduceLT, Int.reduceAdd, Int.reduceMul, Int.reduceSub, Int.reduceLT, Int.reduceLE, Int.reduceToNat, Int.reduceEq, Int.reduceNe, Int.reduceBEq, Int.reduceBNe, ne_eq, eq_self]
            exact ⟨K _ (by simp [gt, e15]) (by simp [gt, e16]) (by simp [gt, e17]) (by simp [gt, e18]) ⟨by simp [gt, e2], by simp [gt, e7], by simp [gt, e8], by simp [gt, e9], by simp [gt, e10], by simp [gt, e11], by simp [gt, e12]⟩ (by simp [gt]), by simp [gt, iv, e19]; omega⟩
          · have wv := wva qa
            have e16' : gt F' 16 = .bool true := by rw [e16, qa]
            rcases pos_cases fb j vb Y with ⟨qb, pb1, pe⟩ | ⟨qb, pb1, pb2, pb3, pr'⟩ | ⟨qb, pb1, pb2, pb3, pr'⟩ | ⟨qb, pb1, pb2, pr'⟩ | qb
            · have e18' : gt F' 18 = .bool true := by rw [e18, qb]
              have hz : w.get (2 + j) = held 1 := by rw [hwb j h0 hlt qb (by rw [← evb qb]; omega) (by rw [← evb qb]; omega), if_pos (by rw [← evb qb]; exact pe)]
              have hnz : (held 1 != held 1) = false := by simp
              simp only [e15, e16', e17, e18', e19, e2, e7, e8, e9, e10, e11, e12, pa1, pa2, wrap_w64, wv, pa3, pb1, u_putpg, h11, hz, hnz, wrap_w64, wi, ↓D0, ↓D1, ↓D2, ↓D3, ↓D4, ↓D5, ↓D6, ↓D7, ↓D8, ↓D9, U0, U1, U2, U3, U4, U5, U6, U7, U8, U9, U10, ↓reduceIte, Nat.reduceAdd, Nat.reduceMul, Nat.reduceSub, Nat.reduceEqDiff, Nat.reduceBEq, Nat.reduceLeDiff, Nat.reduceLT, Int.reduceAdd, Int.reduceMul, Int.reduceSub, Int.reduceLT, Int.reduceLE, Int.reduceToNat, Int.reduceEq, Int.reduceNe, Int.reduceBEq, Int.reduceBNe, ne_eq, eq_self]
              exact ⟨K _ (by simp [gt, e15]) (by simp [gt, e16]) (by simp [gt, e17]) (by simp [gt, e18]) ⟨by simp [gt, e2], by simp [gt, e7], by simp [gt, e8], by simp [gt, e9], by simp [gt, e10], by simp [gt, e11], by simp [gt, e12]⟩ (by simp [gt]), by simp [gt, iv, e19]; omega⟩
            · have e18' : gt F' 18 = .bool true := by rw [e18, qb]
              have hz : w.get (2 + j) = body vb := by rw [hwb j h0 hlt qb (by rw [← evb qb]; omega) (by rw [← evb qb]; omega), if_neg (by rw [← evb qb]; omega), evb qb]
              have hnz : (body vb != body vb) = false := by simp
              have wv' := wvb qb
              simp only [e15, e16', e17, e18', e19, e2, e7, e8, e9, e10, e11, e12, pa1, pa2, wrap_w64, wv, pa3, pb1, pb2, wrap_w64, wv', pb3, u_putpg, hbd, hz, hnz, wi, ↓D0, ↓D1, ↓D2, ↓D3, ↓D4, ↓D5, ↓D6, ↓D7, ↓D8, ↓D9, U0, U1, U2, U3, U4, U5, U6, U7, U8, U9, U10, ↓reduceIte, Nat.reduceAdd, Nat.reduceMul, Nat.reduceSub, Nat.reduceEqDiff, Nat.reduceBEq, Nat.reduceLeDiff, Nat.reduceLT, Int.reduceAdd, Int.reduceMul, Int.reduceSub, Int.reduceLT, Int.reduceLE, Int.reduceToNat, Int.reduceEq, Int.reduceNe, Int.reduceBEq, Int.reduceBNe, ne_eq, eq_self]
              exact ⟨K _ (by simp [gt, e15]) (by simp [gt, e16]) (by simp [gt, e17]) (by simp [gt, e18]) ⟨by simp [gt, e2], by simp [gt, e7], by simp [gt, e8], by simp [gt, e9], by simp [gt, e10], by simp [gt, e11], by simp [gt, e12]⟩ (by simp [gt]), by simp [gt, iv, e19]; omega⟩
            · have hz : w.get (2 + j) = 0 := hwz j h0 hlt (.inr (by rw [← eva qa]; exact pr)) (.inr (by rw [← evb qb]; exact pr'))
              have wv' := wvb qb
              have e18' : gt F' 18 = .bool true := by rw [e18, qb]
              simp only [e15, e16', e17, e18', e19, e2, e7, e8, e9, e10, e11, e12, pa1, pa2, wrap_w64, wv, pa3, wrap_w64, pb1, pb2, wv', pb3, hz, wi, ↓D0, ↓D1, ↓D2, ↓D3, ↓D4, ↓D5, ↓D6, ↓D7, ↓D8, ↓D9, U0, U1, U2, U3, U4, U5, U6, U7, U8, U9, U10, ↓reduceIte, Nat.reduceAdd, Nat.reduceMul, Nat.reduceSub, Nat.reduceEqDiff, Nat.reduceBEq, Nat.reduceLeDiff, Nat.reduceLT, Int.reduceAdd, Int.reduceMul, Int.reduceSub, Int.reduceLT, Int.reduceLE, Int.reduceToNat, Int.reduceEq, Int.reduceNe, Int.reduceBEq, Int.reduceBNe, ne_eq, eq_self]
              exact ⟨K _ (by simp [gt, e15]) (by simp [gt, e16]) (by simp [gt, e17]) (by simp [gt, e18]) ⟨by simp [gt, e2], by simp [gt, e7], by simp [gt, e8], by simp [gt, e9], by simp [gt, e10], by simp [gt, e11], by simp [gt, e12]⟩ (by simp [gt]), by simp [gt, iv, e19]; omega⟩
            · have hz : w.get (2 + j) = 0 := hwz j h0 hlt (.inr (by rw [← eva qa]; exact pr)) (.inr (by rw [← evb qb]; exact pr'))
              have e18' : gt F' 18 = .bool true := by rw [e18, qb]
              simp only [e15, e16', e17, e18', e19, e2, e7, e8, e9, e10, e11, e12, pa1, pa2, wrap_w64, wv, pa3, wrap_w64, pb1, pb2, hz, wi, ↓D0, ↓D1, ↓D2, ↓D3, ↓D4, ↓D5, ↓D6, ↓D7, ↓D8, ↓D9, U0, U1, U2, U3, U4, U5, U6, U7, U8, U9, U10, ↓reduceIte, Nat.reduceAdd, Nat.reduceMul, Nat.reduceSub, Nat.reduceEqDiff, Nat.reduceBEq, Nat.reduceLeDiff, Nat.reduceLT, Int.reduceAdd, Int.reduceMul, Int.reduceSub, Int.reduceLT, Int.reduceLE, Int.reduceToNat, Int.reduceEq, Int.reduceNe, Int.reduceBEq, Int.reduceBNe, ne_eq, eq_self]
              exact ⟨K _ (by simp [gt, e15]) (by simp [gt, e16]) (by simp [gt, e17]) (by simp [gt, e18]) ⟨by simp [gt, e2], by simp [gt, e7], by simp [gt, e8], by simp [gt, e9], by simp [gt, e10], by simp [gt, e11], by simp [gt, e12]⟩ (by simp [gt]), by simp [gt, iv, e19]; omega⟩
            · have hz : w.get (2 + j) = 0 := hwz j h0 hlt (.inr (by rw [← eva qa]; exact pr)) (.inl qb)
              have e18' : gt F' 18 = .bool false := by rw [e18, qb]
              simp only [e15, e16', e17, e18', e19, e2, e7, e8, e9, e10, e11, e12, pa1, pa2, wrap_w64, wv, pa3, wrap_w64, hz, wi, ↓D0, ↓D1, ↓D2, ↓D3, ↓D4, ↓D5, ↓D6, ↓D7, ↓D8, ↓D9, U0, U1, U2, U3, U4, U5, U6, U7, U8, U9, U10, ↓reduceIte, Nat.reduceAdd, Nat.reduceMul, Nat.reduceSub, Nat.reduceEqDiff, Nat.reduceBEq, Nat.reduceLeDiff, Nat.reduceLT, Int.reduceAdd, Int.reduceMul, Int.reduceSub, Int.reduceLT, Int.reduceLE, Int.reduceToNat, Int.reduceEq, Int.reduceNe, Int.reduceBEq, Int.reduceBNe, ne_eq, eq_self]
              exact ⟨K _ (by simp [gt, e15]) (by simp [gt, e16]) (by simp [gt, e17]) (by simp [gt, e18]) ⟨by simp [gt, e2], by simp [gt, e7], by simp [gt, e8], by simp [gt, e9], by simp [gt, e10], by simp [gt, e11], by simp [gt, e12]⟩ (by simp [gt]), by simp [gt, iv, e19]; omega⟩
          · have e16' : gt F' 16 = .bool true := by rw [e16, qa]
            rcases pos_cases fb j vb Y with ⟨qb, pb1, pe⟩ | ⟨qb, pb1, pb2, pb3, pr'⟩ | ⟨qb, pb1, pb2, pb3, pr'⟩ | ⟨qb, pb1, pb2, pr'⟩ | qb
            · have e18' : gt F' 18 = .bool true := by rw [e18, qb]
              have hz : w.get (2 + j) = held 1 := by rw [hwb j h0 hlt qb (by rw [← evb qb]; omega) (by rw [← evb qb]; omega), if_pos (by rw [← evb qb]; exact pe)]
              have hnz : (held 1 != held 1) = false := by simp
              simp only [e15, e16', e17, e18', e19, e2, e7, e8, e9, e10, e11, e12, pa1, pa2, pb1, u_putpg, h11, hz, hnz, wrap_w64, wi, ↓D0, ↓D1, ↓D2, ↓D3, ↓D4, ↓D5, ↓D6, ↓D7, ↓D8, ↓D9, U0, U1, U2, U3, U4, U5, U6, U7, U8, U9, U10, ↓reduceIte, Nat.reduceAdd, Nat.reduceMul, Nat.reduceSub, Nat.reduceEqDiff, Nat.reduceBEq, Nat.reduceLeDiff, Nat.reduceLT, Int.reduceAdd, Int.reduceMul, Int.reduceSub, Int.reduceLT, Int.reduceLE, Int.reduceToNat, Int.reduceEq, Int.reduceNe, Int.reduceBEq, Int.reduceBNe, ne_eq, eq_self]
              exact ⟨K _ (by simp [gt, e15]) (by simp [gt, e16]) (by simp [gt, e17]) (by simp [gt, e18]) ⟨by simp [gt, e2], by simp [gt, e7], by simp [gt, e8], by simp [gt, e9], by simp [gt, e10], by simp [gt, e11], by simp [gt, e12]⟩ (by simp [gt]), by simp [gt, iv, e19]; omega⟩
            · have e18' : gt F' 18 = .bool true := by rw [e18, qb]
              have hz : w.get (2 + j) = body vb := by rw [hwb j h0 hlt qb (by rw [← evb qb]; omega) (by rw [← evb qb]; omega), if_neg (by rw [← evb qb]; omega), evb qb]
              have hnz : (body vb != body vb) = false := by simp
              have wv' := wvb qb
              simp only [e15, e16', e17, e18', e19, e2, e7, e8, e9, e10, e11, e12, pa1, pa2, pb1, pb2, wrap_w64, wv', pb3, u_putpg, hbd, hz, hnz, wi, ↓D0, ↓D1, ↓D2, ↓D3, ↓D4, ↓D5, ↓D6, ↓D7, ↓D8, ↓D9, U0, U1, U2, U3, U4, U5, U6, U7, U8, U9, U10, ↓reduceIte, Nat.reduceAdd, Nat.reduceMul, Nat.reduceSub, Nat.reduceEqDiff, Nat.reduceBEq, Nat.reduceLeDiff, Nat.reduceLT, Int.reduceAdd, Int.reduceMul, Int.reduceSub, Int.reduceLT, Int.reduceLE, Int.reduceToNat, Int.reduceEq, Int.reduceNe, Int.reduceBEq, Int.reduceBNe, ne_eq, eq_self]
              exact ⟨K _ (by simp [gt, e15]) (by simp [gt, e16]) (by simp [gt, e17]) (by simp [gt, e18]) ⟨by simp [gt, e2], by simp [gt, e7], by simp [gt, e8], by simp [gt, e9], by simp [gt, e10], by simp [gt, e11], by simp [gt, e12]⟩ (by simp [gt]), by simp [gt, iv, e19]; omega⟩
            · have hz : w.get (2 + j) = 0 := hwz j h0 hlt (.inr (by rw [← eva qa]; exact pr)) (.inr (by rw [← evb qb]; exact pr'))
              have wv' := wvb qb
              have e18' : gt F' 18 = .bool true := by rw [e18, qb]
              simp only [e15, e16', e17, e18', e19, e2, e7, e8, e9, e10, e11, e12, pa1, pa2, wrap_w64, pb1, pb2, wv', pb3, hz, wi, ↓D0, ↓D1, ↓D2, ↓D3, ↓D4, ↓D5, ↓D6, ↓D7, ↓D8, ↓D9, U0, U1, U2, U3, U4, U5, U6, U7, U8, U9, U10, ↓reduceIte, Nat.reduceAdd, Nat.reduceMul, Nat.reduceSub, Nat.reduceEqDiff, Nat.reduceBEq, Nat.reduceLeDiff, Nat.reduceLT, Int.reduceAdd, Int.reduceMul, Int.reduceSub, Int.reduceLT, Int.reduceLE, Int.reduceToNat, Int.reduceEq, Int.reduceNe, Int.reduceBEq, Int.reduceBNe, ne_eq, eq_self]
              exact ⟨K _ (by simp [gt, e15]) (by simp [gt, e16]) (by simp [gt, e17]) (by simp [gt, e18]) ⟨by simp [gt, e2], by simp [gt, e7], by simp [gt, e8], by simp [gt, e9], by simp [gt, e10], by simp [gt, e11], by simp [gt, e12]⟩ (by simp [gt]), by simp [gt, iv, e19]; omega⟩
            · have hz : w.get (2 + j) = 0 := hwz j h0 hlt (.inr (by rw [← eva qa]; exact pr)) (.inr (by rw [← evb qb]; exact pr'))
              have e18' : gt F' 18 = .bool true := by rw [e18, qb]
              simp only [e15, e16', e17, e18', e19, e2, e7, e8, e9, e10, e11, e12, pa1, pa2, wrap_w64, pb1, pb2, hz, wi, ↓D0, ↓D1, ↓D2, ↓D3, ↓D4, ↓D5, ↓D6, ↓D7, ↓D8, ↓D9, U0, U1, U2, U3, U4, U5, U6, U7, U8, U9, U10, ↓reduceIte, Nat.reduceAdd, Nat.reduceMul, Nat.reduceSub, Nat.reduceEqDiff, Nat.reduceBEq, Nat.reduceLeDiff, Nat.reduceLT, Int.reduceAdd, Int.reduceMul, Int.reduceSub, Int.reduceLT, Int.reduceLE, Int.reduceToNat, Int.reduceEq, Int.reduceNe, Int.reduceBEq, Int.reduceBNe, ne_eq, eq_self]
              exact ⟨K _ (by simp [gt, e15]) (by simp [gt, e16]) (by simp [gt, e17]) (by simp [gt, e18]) ⟨by simp [gt, e2], by simp [gt, e7], by simp [gt, e8], by simp [gt, e9], by simp [gt, e10], by simp [gt, e11], by simp [gt, e12]⟩ (by simp [gt]), by simp [gt, iv, e19]; omega⟩
            · have hz : w.get (2 + j) = 0 := hwz j h0 hlt (.inr (by rw [← eva qa]; exact pr)) (.inl qb)
              have e18' : gt F' 18 = .bool false := by rw [e18, qb]
              simp only [e15, e16', e17, e18', e19, e2, e7, e8, e9, e10, e11, e12, pa1, pa2, wrap_w64, hz, wi, ↓D0, ↓D1, ↓D2, ↓D3, ↓D4, ↓D5, ↓D6, ↓D7, ↓D8, ↓D9, U0, U1, U2, U3, U4, U5, U6, U7, U8, U9, U10, ↓reduceIte, Nat.reduceAdd, Nat.reduceMul, Nat.reduceSub, Nat.reduceEqDiff, Nat.reduceBEq, Nat.reduceLeDiff, Nat.reduceLT, Int.reduceAdd, Int.reduceMul, Int.reduceSub, Int.reduceLT, Int.reduceLE, Int.reduceToNat, Int.reduceEq, Int.reduceNe, Int.reduceBEq, Int.reduceBNe, ne_eq, eq_self]
              exact ⟨K _ (by simp [gt, e15]) (by simp [gt, e16]) (by simp [gt, e17]) (by simp [gt, e18]) ⟨by simp [gt, e2], by simp [gt, e7], by simp [gt, e8], by simp [gt, e9], by simp [gt, e10], by simp [gt, e11], by simp [gt, e12]⟩ (by simp [gt]), by simp [gt, iv, e19]; omega⟩
          · have e16' : gt F' 16 = .bool false := by rw [e16, qa]
            rcases pos_cases fb j vb Y with ⟨qb, pb1, pe⟩ | ⟨qb, pb1, pb2, pb3, pr'⟩ | ⟨qb, pb1, pb2, pb3, pr'⟩ | ⟨qb, pb1, pb2, pr'⟩ | qb
            · have e18' : gt F' 18 = .bool true := by rw [e18, qb]
              have hz : w.get (2 + j) = held 1 := by rw [hwb j h0 hlt qb (by rw [← evb qb]; omega) (by rw [← evb qb]; omega), if_pos (by rw [← evb qb]; exact pe)]
              have hnz : (held 1 != held 1) = false := by simp
              simp only [e15, e16', e17, e18', e19, e2, e7, e8, e9, e10, e11, e12, pb1, u_putpg, h11, hz, hnz, wrap_w64, wi, ↓D0, ↓D1, ↓D2, ↓D3, ↓D4, ↓D5, ↓D6, ↓D7, ↓D8, ↓D9, U0, U1, U2, U3, U4, U5, U6, U7, U8, U9, U10, ↓reduceIte, Nat.reduceAdd, Nat.reduceMul, Nat.reduceSub, Nat.reduceEqDiff, Nat.reduceBEq, Nat.reduceLeDiff, Nat.reduceLT, Int.reduceAdd, Int.reduceMul, Int.reduceSub, Int.reduceLT, Int.reduceLE, Int.reduceToNat, Int.reduceEq, Int.reduceNe, Int.reduceBEq, Int.reduceBNe, ne_eq, eq_self]
              exact ⟨K _ (by simp [gt, e15]) (by simp [gt, e16]) (by simp [gt, e17]) (by simp [gt, e18]) ⟨by simp [gt, e2], by simp [gt, e7], by simp [gt, e8], by simp [gt, e9], by simp [gt, e10], by simp [gt, e11], by simp [gt, e12]⟩ (by simp [gt]), by simp [gt, iv, e19]; omega⟩
            · have e18' : gt F' 18 = .bool true := by rw [e18, qb]
              have hz : w.get (2 + j) = body vb := by rw [hwb j h0 hlt qb (by rw [← evb qb]; omega) (by rw [← evb qb]; omega), if_neg (by rw [← evb qb]; omega), evb qb]
              have hnz : (body vb != body vb) = false := by simp
              have wv' := wvb qb
              simp only [e15, e16', e17, e18', e19, e2, e7, e8, e9, e10, e11, e12, pb1, pb2, wrap_w64, wv', pb3, u_putpg, hbd, hz, hnz, wi, ↓D0, ↓D1, ↓D2, ↓D3, ↓D4, ↓D5, ↓D6, ↓D7, ↓D8, ↓D9, U0, U1, U2, U3, U4, U5, U6, U7, U8, U9, U10, ↓reduceIte, Nat.reduceAdd, Nat.reduceMul, Nat.reduceSub, Nat.reduceEqDiff, Nat.reduceBEq, Nat.reduceLeDiff, Nat.reduceLT, Int.reduceAdd, Int.reduceMul, Int.reduceSub, Int.reduceLT, Int.reduceLE, Int.reduceToNat, Int.reduceEq, Int.reduceNe, Int.reduceBEq, Int.reduceBNe, ne_eq, eq_self]
              exact ⟨K _ (by simp [gt, e15]) (by simp [gt, e16]) (by simp [gt, e17]) (by simp [gt, e18]) ⟨by simp [gt, e2], by simp [gt, e7], by simp [gt, e8], by simp [gt, e9], by simp [gt, e10], by simp [gt, e11], by simp [gt, e12]⟩ (by simp [gt]), by simp [gt, iv, e19]; omega⟩
            · have hz : w.get (2 + j) = 0 := hwz j h0 hlt (.inl qa) (.inr (by rw [← evb qb]; exact pr'))
              have wv' := wvb qb
              have e18' : gt F' 18 = .bool true := by rw [e18, qb]
              simp only [e15, e16', e17, e18', e19, e2, e7, e8, e9, e10, e11, e12, wrap_w64, pb1, pb2, wv', pb3, hz, wi, ↓D0, ↓D1, ↓D2, ↓D3, ↓D4, ↓D5, ↓D6, ↓D7, ↓D8, ↓D9, U0, U1, U2, U3, U4, U5, U6, U7, U8, U9, U10, ↓reduceIte, Nat.reduceAdd, Nat.reduceMul, Nat.reduceSub, Nat.reduceEqDiff, Nat.reduceBEq, Nat.reduceLeDiff, Nat.reduceLT, Int.reduceAdd, Int.reduceMul, Int.reduceSub, Int.reduceLT, Int.reduceLE, Int.reduceToNat, Int.reduceEq, Int.reduceNe, Int.reduceBEq, Int.reduceBNe, ne_eq, eq_self]
              exact ⟨K _ (by simp [gt, e15]) (by simp [gt, e16]) (by simp [gt, e17]) (by simp [gt, e18]) ⟨by simp [gt, e2], by simp [gt, e7], by simp [gt, e8], by simp [gt, e9], by simp [gt, e10], by simp [gt, e11], by simp [gt, e12]⟩ (by simp [gt]), by simp [gt, iv, e19]; omega⟩
            · have hz : w.get (2 + j) = 0 := hwz j h0 hlt (.inl qa) (.inr (by rw [← evb qb]; exact pr'))
              have e18' : gt F' 18 = .bool true := by rw [e18, qb]
              simp only [e15, e16', e17, e18', e19, e2, e7, e8, e9, e10, e11, e12, wrap_w64, pb1, pb2, hz, wi, ↓D0, ↓D1, ↓D2, ↓D3, ↓D4, ↓D5, ↓D6, ↓D7, ↓D8, ↓D9, U0, U1, U2, U3, U4, U5, U6, U7, U8, U9, U10, ↓reduceIte, Nat.reduceAdd, Nat.reduceMul, Nat.reduceSub, Nat.reduceEqDiff, Nat.reduceBEq, Nat.reduceLeDiff, Nat.reduceLT, Int.reduceAdd, Int.reduceMul, Int.reduceSub, Int.reduceLT, Int.reduceLE, Int.reduceToNat, Int.reduceEq, Int.reduceNe, Int.reduceBEq, Int.reduceBNe, ne_eq, eq_self]
              exact ⟨K _ (by simp [gt, e15]) (by simp [gt, e16]) (by simp [gt, e17]) (by simp [gt, e18]) ⟨by simp [gt, e2], by simp [gt, e7], by simp [gt, e8], by simp [gt, e9], by simp [gt, e10], by simp [gt, e11], by simp [gt, e12]⟩ (by simp [gt]), by simp [gt, iv, e19]; omega⟩
            · have hz : w.get (2 + j) = 0 := hwz j h0 hlt (.inl qa) (.inl qb)
              have e18' : gt F' 18 = .bool false := by rw [e18, qb]
              simp only [e15, e16', e17, e18', e19, e2, e7, e8, e9, e10, e11, e12, wrap_w64, hz, wi, ↓D0, ↓D1, ↓D2, ↓D3, ↓D4, ↓D5, ↓D6, ↓D7, ↓D8, ↓D9, U0, U1, U2, U3, U4, U5, U6, U7, U8, U9, U10, ↓reduceIte, Nat.reduceAdd, Nat.reduceMul, Nat.reduceSub, Nat.reduceEqDiff, Nat.reduceBEq, Nat.reduceLeDiff, Nat.reduceLT, Int.reduceAdd, Int.reduceMul, Int.reduceSub, Int.reduceLT, Int.reduceLE, Int.reduceToNat, Int.reduceEq, Int.reduceNe, Int.reduceBEq, Int.reduceBNe, ne_eq, eq_self]
              exact ⟨K _ (by simp [gt, e15]) (by simp [gt, e16]) (by simp [gt, e17]) (by simp [gt, e18]) ⟨by simp [gt, e2], by simp [gt, e7], by simp [gt, e8], by simp [gt, e9], by simp [gt, e10], by simp [gt, e11], by simp [gt, e12]⟩ (by simp [gt]), by simp [gt, iv, e19]; omega⟩
        have d1 : decide (j < P) = false := decide_eq_false hlt
        have hx1 := hS.lk 2 rfl
        have r0 := fun o => rd_of hx1 o
        have hST := hS.tail.tail.tail
        by_cases gX : P < X
        · have dX : decide (P < X) = true := decide_eq_true gX
          simp only [e15, e16, e17, e18, e19, e2, e7, e8, e9, e10, e11, e12, hx1, r0, d1, dX, ↓D0, ↓D1, ↓D2, ↓D3, ↓D4, ↓D5, ↓D6, ↓D7, ↓D8, ↓D9, U0, U1, U2, U3, U4, U5, U6, U7, U8, U9, U10, ↓reduceIte, Nat.reduceAdd, Nat.reduceMul, Nat.reduceSub, Nat.reduceEqDiff, Nat.reduceBEq, Nat.reduceLeDiff, Nat.reduceLT, Int.reduceAdd, Int.reduceMul, Int.reduceSub, Int.reduceLT, Int.reduceLE, Int.reduceToNat, Int.reduceEq, Int.reduceNe, Int.reduceBEq, Int.reduceBNe, ne_eq, eq_self]
          first | exact hST | exact ⟨rfl, hST⟩
        have dX : decide (P < X) = false := decide_eq_false gX
        by_cases gY : P < Y
        · have dY : decide (P < Y) = true := decide_eq_true gY
          simp only [e15, e16, e17, e18, e19, e2, e7, e8, e9, e10, e11, e12, hx1, r0, d1, dX, dY, ↓D0, ↓D1, ↓D2, ↓D3, ↓D4, ↓D5, ↓D6, ↓D7, ↓D8, ↓D9, U0, U1, U2, U3, U4, U5, U6, U7, U8, U9, U10, ↓reduceIte, Nat.reduceAdd, Nat.reduceMul, Nat.reduceSub, Nat.reduceEqDiff, Nat.reduceBEq, Nat.reduceLeDiff, Nat.reduceLT, Int.reduceAdd, Int.reduceMul, Int.reduceSub, Int.reduceLT, Int.reduceLE, Int.reduceToNat, Int.reduceEq, Int.reduceNe, Int.reduceBEq, Int.reduceBNe, ne_eq, eq_self]
          first | exact hST | exact ⟨rfl, hST⟩
        have dY : decide (P < Y) = false := decide_eq_false gY
        rcases hone (by omega) (by omega) with qf | qf
        · rw [qf] at e16
          simp only [e15, e16, e17, e18, e19, e2, e7, e8, e9, e10, e11, e12, hx1, r0, d1, dX, dY, ↓D0, ↓D1, ↓D2, ↓D3, ↓D4, ↓D5, ↓D6, ↓D7, ↓D8, ↓D9, U0, U1, U2, U3, U4, U5, U6, U7, U8, U9, U10, ↓reduceIte, Nat.reduceAdd, Nat.reduceMul, Nat.reduceSub, Nat.reduceEqDiff, Nat.reduceBEq, Nat.reduceLeDiff, Nat.reduceLT, Int.reduceAdd, Int.reduceMul, Int.reduceSub, Int.reduceLT, Int.reduceLE, Int.reduceToNat, Int.reduceEq, Int.reduceNe, Int.reduceBEq, Int.reduceBNe, ne_eq, eq_self]
          first | exact hST | exact ⟨rfl, hST⟩
        · rw [qf] at e18
          cases qg : fa
          · rw [qg] at e16
            simp only [e15, e16, e17, e18, e19, e2, e7, e8, e9, e10, e11, e12, hx1, r0, d1, dX, dY, ↓D0, ↓D1, ↓D2, ↓D3, ↓D4, ↓D5, ↓D6, ↓D7, ↓D8, ↓D9, U0, U1, U2, U3, U4, U5, U6, U7, U8, U9, U10, ↓reduceIte, Nat.reduceAdd, Nat.reduceMul, Nat.reduceSub, Nat.reduceEqDiff, Nat.reduceBEq, Nat.reduceLeDiff, Nat.reduceLT, Int.reduceAdd, Int.reduceMul, Int.reduceSub, Int.reduceLT, Int.reduceLE, Int.reduceToNat, Int.reduceEq, Int.reduceNe, Int.reduceBEq, Int.reduceBNe, ne_eq, eq_self]
            first | exact hST | exact ⟨rfl, hST⟩
          · rw [qg] at e16
            simp only [e15, e16, e17, e18, e19, e2, e7, e8, e9, e10, e11, e12, hx1, r0, d1, dX, dY, ↓D0, ↓D1, ↓D2, ↓D3, ↓D4, ↓D5, ↓D6, ↓D7, ↓D8, ↓D9, U0, U1, U2, U3, U4, U5, U6, U7, U8, U9, U10, ↓reduceIte, Nat.reduceAdd, Nat.reduceMul, Nat.reduceSub, Nat.reduceEqDiff, Nat.reduceBEq, Nat.reduceLeDiff, Nat.reduceLT, Int.reduceAdd, Int.reduceMul, Int.reduceSub, Int.reduceLT, Int.reduceLE, Int.reduceToNat, Int.reduceEq, Int.reduceNe, Int.reduceBEq, Int.reduceBNe, ne_eq, eq_self]
            first | exact hST | exact ⟨rfl, hST⟩
end
theorem l_runtwo {W : World} {a : Option Addr} {n cap : Nat} {B : Nat → Bool} (pp : Int) (hp : 0 ≤ pp ∧ pp ≤ 255) (g0 g1 : Int) (hg : 0 ≤ g0 ∧ g0 ≤ 255) (hk : 0 ≤ g1 ∧ g1 ≤ 255) (hn : n ≤ 9223372036854775807) (hr : RowV (memOf W) a n (fun i => .bool (B i))) :
    CallP Try.prog W 4 #[.int .u8 pp, .agg #[.int .u8 g0, .int .u8 g1], .slice a n cap] (memOf W) fun v H' => v = .bool true ∧ Sub (memOf W) H' :=
  (c_runtwo hp.1 hp.2 hg.1 hg.2 hk.1 hk.2 hn hr (Sep.one _)).mono fun v H' ⟨h1, h2⟩ => ⟨h1, h2.head⟩
end Go.Proofs.Ytbehnodllajnjaa
