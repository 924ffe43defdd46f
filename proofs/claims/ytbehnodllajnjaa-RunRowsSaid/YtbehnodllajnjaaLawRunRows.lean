/-
  RunRows, walked: one that looks for a row of pages among empty, full and open ones. Conditions: none.
-/
import Derived.Test.YtbehnodllajnjaaRunK
import Derived.Test.YtbehnodllajnjaaRowV
import Derived.Test.YtbehnodllajnjaaGrow
import Derived.Test.YtbehnodllajnjaaMaRunRows2
set_option linter.unusedVariables false
set_option linter.unusedSimpArgs false
set_option maxRecDepth 8000
namespace Go.Proofs.Ytbehnodllajnjaa
open Go Go.Ev Go.Pl Go.Ma

theorem rr_shr (v : Int) : Int.fdiv v (2 ^ min 2 IntKind.u8.bits) = v / 4 := by
  rw [show min 2 IntKind.u8.bits = 2 from rfl, Int.fdiv_eq_ediv_of_nonneg v (by decide)]; rfl
theorem rr_pos (f : Bool) (i p x : Int) : (f = true ∧ (i == p) = true ∧ i = p) ∨ (f = true ∧ (i == p) = false ∧ decide (p < i) = true ∧ decide (i < p + x) = true ∧ p < i ∧ i < p + x) ∨
    (f = true ∧ (i == p) = false ∧ decide (p < i) = true ∧ decide (i < p + x) = false ∧ ¬ (p ≤ i ∧ i < p + x)) ∨ (f = true ∧ (i == p) = false ∧ decide (p < i) = false ∧ ¬ (p ≤ i ∧ i < p + x)) ∨ f = false := by
  cases f
  · exact .inr (.inr (.inr (.inr rfl)))
  by_cases h1 : i = p
  · exact .inl ⟨rfl, beq_iff_eq.2 h1, h1⟩
  · by_cases h2 : p < i
    · by_cases h3 : i < p + x
      · exact .inr (.inl ⟨rfl, beq_eq_false_iff_ne.2 h1, decide_eq_true h2, decide_eq_true h3, h2, h3⟩)
      · exact .inr (.inr (.inl ⟨rfl, beq_eq_false_iff_ne.2 h1, decide_eq_true h2, decide_eq_false h3, by omega⟩))
    · exact .inr (.inr (.inr (.inl ⟨rfl, beq_eq_false_iff_ne.2 h1, decide_eq_false h2, by omega⟩)))
def rrK (ks : Nat → Int) (q : Int) : Int := bits BinOp.and IntKind.u8 (ks q.toNat) 3
def rrC (ks : Nat → Int) (q : Int) : Int := ks q.toNat / 4 % 4
section
variable {W : World} {H h : Hp} {l : List Hp} {m cap : Nat} {a : Option Addr} {ks : Nat → Int}

def rrG (n : Int) (N y : Nat) (m cap : Nat) (a : Option Addr) (x : Nat) (F' : Fr) : Prop :=
  gt F' 0 = .slice a m cap ∧ gt F' 5 = .int .i64 n ∧ gt F' 6 = .pointer (some ⟨x, 0, none⟩) ∧ gt F' 7 = .slice (some ⟨y, 0, none⟩) N N
def rrA (n : Int) (kd cl : Int → Int) (N y : Nat) (m cap : Nat) (a : Option Addr) (x : Nat) (L : List Hp) (F' : Fr) (H' : Hp) : Prop :=
  ∃ (p : Nat) (f : Nat → Int) (want row : Int), p ≤ m ∧ gt F' 10 = .int .i64 (p : Int) ∧ gt F' 8 = .int .i64 want ∧ gt F' 9 = .int .i64 row ∧ rrG n N y m cap a x F' ∧ Rn.LW m kd cl p f ∧ Rn.WI n kd p want row ∧
    Sep (sg y (.cells (urow N f) 29 (0, 0)) :: L) H'
def rrB (n : Int) (kd cl : Int → Int) (p : Nat) (want row : Int) (N y : Nat) (m cap : Nat) (a : Option Addr) (x : Nat) (L : List Hp) (F' : Fr) (H' : Hp) : Prop :=
  ∃ (i : Nat) (f : Nat → Int), (i : Int) ≤ slots (cl p) ∧ gt F' 12 = .int .i64 (i : Int) ∧ gt F' 11 = .int .i64 (cl p) ∧ gt F' 10 = .int .i64 (p : Int) ∧ gt F' 8 = .int .i64 want ∧ gt F' 9 = .int .i64 (row + 1) ∧ rrG n N y m cap a x F' ∧ Rn.LI m kd cl p i f ∧
    Sep (sg y (.cells (urow N f) 29 (0, 0)) :: L) H'
def rrD (n : Int) (kd cl : Int → Int) (want : Int) (N y : Nat) (m cap : Nat) (a : Option Addr) (x b k s : Nat) (L : List Hp) (F' : Fr) (H' : Hp) : Prop :=
  ∃ (i : Int) (t : Rn) (w : Wd) (pa : Nat), 0 ≤ i ∧ i ≤ 2000 ∧ gt F' 15 = .int .i64 i ∧ gt F' 8 = .int .i64 want ∧ gt F' 13 = .pointer (some ⟨b, 0, none⟩) ∧ gt F' 14 = .pointer (some ⟨k, 0, none⟩) ∧ rrG n N y m cap a x F' ∧
    Rn.Rw m n kd cl t w ∧ t.wf ∧ Rn.Ke m n t ∧ t.left ≤ max 0 (2000 - i) ∧ Sep (rnB k pa t :: stO pa t.st :: wB b s w :: wR s w :: L) H'
def rrE (n : Int) (want : Int) (ok : Bool) (N y : Nat) (m cap : Nat) (a : Option Addr) (x b s : Nat) (w : Wd) (L : List Hp) (F' : Fr) (H' : Hp) : Prop :=
  ∃ (q : Nat), q ≤ m ∧ gt F' 18 = .int .i64 (q : Int) ∧ gt F' 8 = .int .i64 want ∧ gt F' 13 = .pointer (some ⟨b, 0, none⟩) ∧ gt F' 17 = .bool ok ∧ rrG n N y m cap a x F' ∧ Sep (wB b s w :: wR s w :: L) H'
set_option maxHeartbeats 8000000 in
theorem c_runrows {g : Int} (hg0 : 0 ≤ g) (hg1 : g ≤ 255) (hnn : m ≤ 9223372036854775807) (hr : RowV h a m (fun i => .int .u8 (ks i))) (hks : ∀ i, i < m → 0 ≤ ks i ∧ ks i ≤ 255) (hS : Sep (h :: l) H) :
    CallP Try.prog W 3 #[.slice a m cap, .int .u8 g] H fun v H' => v = .bool true ∧ Sep (h :: l) H' := by
  refine CallP.of mixed Try.func3 tr3 (by show 2 ≤ _; decide) fun W _ => ?_
  simp only [↓D0, ↓D1, ↓D2, ↓D3, ↓D4, ↓D5, ↓D6, ↓D7, ↓D8, ↓D9, U0, U1, U2, U3, U4, U5, U6, U7, U8, U9, U10, ↓reduceIte, Nat.reduceAdd, Nat.reduceMul, Nat.reduceSub, Nat.reduceEqDiff, Nat.reduceBEq, Nat.reduceLeDiff, Nat.reduceLT, Int.reduceAdd, Int.reduceMul, Int.reduceSub, Int.reduceLT, Int.reduceLE, Int.reduceToNat, Int.reduceEq, Int.reduceNe, Int.reduceBEq, Int.reduceBNe, ne_eq, eq_self]
  refine callT_of (c_awake14 hS) ?_
  rintro v H' ⟨rfl, hS⟩
  by_cases hz : m = 0
  · have d1 : ((m : Int) == 0) = true := beq_iff_eq.2 (by omega)
    simp only [d1, ↓D0, ↓D1, ↓D2, ↓D3, ↓D4, ↓D5, ↓D6, ↓D7, ↓D8, ↓D9, U0, U1, U2, U3, U4, U5, U6, U7, U8, U9, U10, ↓reduceIte, Nat.reduceAdd, Nat.reduceMul, Nat.reduceSub, Nat.reduceEqDiff, Nat.reduceBEq, Nat.reduceLeDiff, Nat.reduceLT, Int.reduceAdd, Int.reduceMul, Int.reduceSub, Int.reduceLT, Int.reduceLE, Int.reduceToNat, Int.reduceEq, Int.reduceNe, Int.reduceBEq, Int.reduceBNe, ne_eq, eq_self]
    exact hS
  have d1 : ((m : Int) == 0) = false := beq_eq_false_iff_ne.2 (by omega)
  by_cases h20 : (20 : Int) < (m : Int)
  · have d2 : decide ((20 : Int) < (m : Int)) = true := decide_eq_true h20
    simp only [d1, d2, ↓D0, ↓D1, ↓D2, ↓D3, ↓D4, ↓D5, ↓D6, ↓D7, ↓D8, ↓D9, U0, U1, U2, U3, U4, U5, U6, U7, U8, U9, U10, ↓reduceIte, Nat.reduceAdd, Nat.reduceMul, Nat.reduceSub, Nat.reduceEqDiff, Nat.reduceBEq, Nat.reduceLeDiff, Nat.reduceLT, Int.reduceAdd, Int.reduceMul, Int.reduceSub, Int.reduceLT, Int.reduceLE, Int.reduceToNat, Int.reduceEq, Int.reduceNe, Int.reduceBEq, Int.reduceBNe, ne_eq, eq_self]
    exact hS
  have d2 : decide ((20 : Int) < (m : Int)) = false := decide_eq_false h20
  have eg : w64 g = g := w64_eq (by omega) (by omega)
  have et : g.tmod 8 = g % 8 := Int.tmod_eq_emod_of_nonneg hg0
  have wg : w64 (g % 8) = g % 8 := w64_eq (by omega) (by omega)
  obtain ⟨n, hn⟩ : ∃ n, 1 + g % 8 = n := ⟨_, rfl⟩
  have hn1 : 1 ≤ n := by omega
  have hn8 : n ≤ 8 := by omega
  have wn : w64 n = n := w64_eq (by omega) (by omega)
  simp only [d1, d2, wrap_w64, eg, et, wg, hn, wn, ↓D0, ↓D1, ↓D2, ↓D3, ↓D4, ↓D5, ↓D6, ↓D7, ↓D8, ↓D9, U0, U1, U2, U3, U4, U5, U6, U7, U8, U9, U10, ↓reduceIte, Nat.reduceAdd, Nat.reduceMul, Nat.reduceSub, Nat.reduceEqDiff, Nat.reduceBEq, Nat.reduceLeDiff, Nat.reduceLT, Int.reduceAdd, Int.reduceMul, Int.reduceSub, Int.reduceLT, Int.reduceLE, Int.reduceToNat, Int.reduceEq, Int.reduceNe, Int.reduceBEq, Int.reduceBNe, ne_eq, eq_self]
  refine newB_intro fun x hx f1 f2 => ?_
  have hS := hS.new f1 (.cells #[.int .i64 0, .int .i64 0, .int .i64 0] 25 (0, 0))
  have hS := hS.set (.cells #[.int .i64 (m : Int), .int .i64 1, .int .i64 0] 25 (0, 0))
  rw [Ev.upd_upd] at hS
  have hx1 := hS.look
  have r1 := fun o n => rdn_of hx1 o n
  have hm : may (m : Int) 1 0 = true := (may_iff _ _ _).2 (by omega)
  obtain ⟨N, hN⟩ : ∃ N : Nat, words (m : Int) 1 0 = (N : Int) := ⟨(words (m : Int) 1 0).toNat, by have := words_le hm; omega⟩
  have hNb := words_le hm
  have hNv : (N : Int) = 17 * m + 1 := by rw [← hN]; unfold words; rw [if_pos hm]; omega
  have hN2 : N ≤ 2000 := by omega
  have n0 : (0 : Int) ≤ (N : Int) := by omega
  have n8 : 8 * (N : Int) ≤ 281474976710656 := by omega
  have n9 : (N : Int) ≤ 9223372036854775807 := by omega
  have nle : (N : Int) ≤ (N : Int) := Int.le_refl _
  simp only [Ev.upd_upd, hx1, r1, u_words, hN, n0, n8, n9, nle, Int.toNat_natCast, ↓D0, ↓D1, ↓D2, ↓D3, ↓D4, ↓D5, ↓D6, ↓D7, ↓D8, ↓D9, U0, U1, U2, U3, U4, U5, U6, U7, U8, U9, U10, ↓reduceIte, Nat.reduceAdd, Nat.reduceMul, Nat.reduceSub, Nat.reduceEqDiff, Nat.reduceBEq, Nat.reduceLeDiff, Nat.reduceLT, Int.reduceAdd, Int.reduceMul, Int.reduceSub, Int.reduceLT, Int.reduceLE, Int.reduceToNat, Int.reduceEq, Int.reduceNe, Int.reduceBEq, Int.reduceBNe, ne_eq, eq_self]
  refine newB_intro fun y hy f5 f6 => ?_
  have hS := hS.new f5 (.cells (urow N fun _ => 0) 29 (0, 0))
  simp only [urow_zero, urow_size, ↓D0, ↓D1, ↓D2, ↓D3, ↓D4, ↓D5, ↓D6, ↓D7, ↓D8, ↓D9, U0, U1, U2, U3, U4, U5, U6, U7, U8, U9, U10, ↓reduceIte, Nat.reduceAdd, Nat.reduceMul, Nat.reduceSub, Nat.reduceEqDiff, Nat.reduceBEq, Nat.reduceLeDiff, Nat.reduceLT, Int.reduceAdd, Int.reduceMul, Int.reduceSub, Int.reduceLT, Int.reduceLE, Int.reduceToNat, Int.reduceEq, Int.reduceNe, Int.reduceBEq, Int.reduceBNe, ne_eq, eq_self]
  obtain ⟨kd, hkd⟩ : ∃ kd, kd = rrK ks := ⟨_, rfl⟩
  obtain ⟨cl, hcl⟩ : ∃ cl, cl = rrC ks := ⟨_, rfl⟩
  have hclb : ∀ q, 0 ≤ cl q ∧ cl q ≤ 3 := fun q => by rw [hcl]; unfold rrC; omega
  refine loop_intro (rrA n kd cl N y m cap a x (sg x (.cells #[.int .i64 (m : Int), .int .i64 1, .int .i64 0] 25 (0, 0)) :: h :: l)) (fun F' _ => (m - iv (gt F' 10)).toNat)
    ⟨0, _, -1, 0, by omega, rfl, rfl, rfl, ⟨rfl, rfl, rfl, rfl⟩, Rn.LW.zero m kd cl, Rn.WI.zero hn1, hS⟩ ?_
  rintro F' H' ⟨p, f, want, row, hp, e10, e8, e9, ⟨e0, e5, e6, e7⟩, hLW, hWI, hS⟩
  have hx1 := hS.lk 1 rfl
  have hy1 := hS.look
  have r1 := fun o n => rdn_of hx1 o n
  have r0 := fun o => rd_of hx1 o
  have hrw := hWI.r
  by_cases hlt : p < m
  · have d3 : decide ((p : Int) < (m : Int)) = true := decide_eq_true (by omega)
    have p0 : (0 : Int) ≤ (p : Int) := by omega
    have p1 : (p : Int) < (m : Int) := by omega
    have wi : w64 ((p : Int) + 1) = (p : Int) + 1 := w64_eq (by omega) (by omega)
    have wr : w64 (row + 1) = row + 1 := w64_eq (by omega) (by omega)
    obtain ⟨xb, xo, rfl, hrd⟩ := (hr.sub (hS.sb h (by simp))).at' (i := p) hlt
    have hk := hks p hlt
    obtain ⟨v, hv⟩ : ∃ v, ks p = v := ⟨_, rfl⟩
    rw [hv] at hrd hk
    have es := rr_shr v
    have w1 : w64 (v / 4) = v / 4 := w64_eq (by omega) (by omega)
    have w2 : (v / 4).tmod 4 = v / 4 % 4 := Int.tmod_eq_emod_of_nonneg (by omega)
    have w3 : w64 (v / 4 % 4) = v / 4 % 4 := w64_eq (by omega) (by omega)
    have ekd : bits BinOp.and IntKind.u8 v 3 = kd p := by rw [hkd]; unfold rrK; rw [Int.toNat_natCast, hv]
    have ecl : v / 4 % 4 = cl p := by rw [hcl]; unfold rrC; rw [Int.toNat_natCast, hv]
    have hpg : page (m : Int) 1 0 (p : Int) = 1 + (p : Int) := page_yes hm p0 p1
    have b0 : (0 : Int) ≤ 1 + (p : Int) := by omega
    have b1 : 1 + (p : Int) < (N : Int) := by omega
    have b2 : (1 + (p : Int)).toNat = 1 + p := by omega
    have b3 : 1 + p < N := by omega
    by_cases k0 : kd p = 0
    · have q0 : (kd p == 0) = true := beq_iff_eq.2 k0
      have c1 : ((0 : Int) == n) = false := beq_eq_false_iff_ne.2 (by omega)
      have hS3 := hS.set (.cells (urow N (fun j => if j = 1 + p then putPg 3 1 0 else f j)) 29 (0, 0))
      simp only [e10, e8, e9, e0, e5, e6, e7, hx1, hy1, r1, r0, d3, p0, p1, Int.toNat_natCast, hrd, wrap_w64, wi, wr, es, w1, w2, w3, ekd, ecl, q0, u_page, hpg, u_putpg, b0, b1, b2, b3, urow_size, urow_set, c1, ↓D0, ↓D1, ↓D2, ↓D3, ↓D4, ↓D5, ↓D6, ↓D7, ↓D8, ↓D9, U0, U1, U2, U3, U4, U5, U6, U7, U8, U9, U10, ↓reduceIte, Nat.reduceAdd, Nat.reduceMul, Nat.reduceSub, Nat.reduceEqDiff, Nat.reduceBEq, Nat.reduceLeDiff, Nat.reduceLT, Int.reduceAdd, Int.reduceMul, Int.reduceSub, Int.reduceLT, Int.reduceLE, Int.reduceToNat, Int.reduceEq, Int.reduceNe, Int.reduceBEq, Int.reduceBNe, ne_eq, eq_self]
      exact ⟨⟨p + 1, _, want, 0, by omega, by simp [gt, wi], by simp [gt, e8], by simp [gt], ⟨by simp [gt, e0], by simp [gt, e5], by simp [gt, e6], by simp [gt, e7]⟩, hLW.full hlt k0, by rw [show ((p + 1 : Nat) : Int) = (p : Int) + 1 by omega]; exact hWI.full hn1 k0, hS3⟩, by simp [gt, iv, e10, wi]; omega⟩
    have q0 : (kd p == 0) = false := beq_eq_false_iff_ne.2 k0
    by_cases k1 : kd p = 1
    · have q1 : (kd p == 1) = true := beq_iff_eq.2 k1
      have hS3 := hS.set (.cells (urow N (fun j => if j = 1 + p then putPg 2 (cl p) 0 else f j)) 29 (0, 0))
      simp only [e10, e8, e9, e0, e5, e6, e7, hx1, hy1, r1, r0, d3, p0, p1, Int.toNat_natCast, hrd, wrap_w64, wi, wr, es, w1, w2, w3, ekd, ecl, q0, q1, u_page, hpg, u_putpg, b0, b1, b2, b3, urow_size, urow_set, ↓D0, ↓D1, ↓D2, ↓D3, ↓D4, ↓D5, ↓D6, ↓D7, ↓D8, ↓D9, U0, U1, U2, U3, U4, U5, U6, U7, U8, U9, U10, ↓reduceIte, Nat.reduceAdd, Nat.reduceMul, Nat.reduceSub, Nat.reduceEqDiff, Nat.reduceBEq, Nat.reduceLeDiff, Nat.reduceLT, Int.reduceAdd, Int.reduceMul, Int.reduceSub, Int.reduceLT, Int.reduceLE, Int.reduceToNat, Int.reduceEq, Int.reduceNe, Int.reduceBEq, Int.reduceBNe, ne_eq, eq_self]
      refine loop_intro (rrB n kd cl p want row N y m cap (some ⟨xb, xo, none⟩) x (sg x (.cells #[.int .i64 (m : Int), .int .i64 1, .int .i64 0] 25 (0, 0)) :: h :: l)) (fun F' _ => (20 - iv (gt F' 12)).toNat)
        ⟨0, _, (slots_bd _).1, by simp [gt], by simp [gt], by simp [gt, e10], by simp [gt, e8], by simp [gt, e9, wr], ⟨by simp [gt, e0], by simp [gt, e5], by simp [gt, e6], by simp [gt, e7]⟩, hLW.super hlt k1, hS3⟩ ?_
      clear hS3 hS hy1 hx1 r1 r0 hrd e0 e5 e6 e7 e8 e9 e10
      rintro F' H' ⟨i, f, hi, e12, e11, e10, e8, e9, ⟨e0, e5, e6, e7⟩, hLI, hS⟩
      have hx1 := hS.lk 1 rfl
      have hy1 := hS.look
      have r1 := fun o n => rdn_of hx1 o n
      have r0 := fun o => rd_of hx1 o
      have sb := slots_bd (cl p)
      by_cases hil : (i : Int) < slots (cl p)
      · have d4 : decide ((i : Int) < slots (cl p)) = true := decide_eq_true hil
        have wii : w64 ((i : Int) + 1) = ((i + 1 : Nat) : Int) := by rw [w64_eq (by omega) (by omega)]; omega
        have hsl : slot (m : Int) 1 0 (p : Int) (i : Int) = 1 + (m : Int) + (p : Int) * 16 + (i : Int) := slot_yes hm p0 p1 (by omega) (by omega)
        have z0 : (0 : Int) ≤ 1 + (m : Int) + (p : Int) * 16 + (i : Int) := by omega
        have z1 : 1 + (m : Int) + (p : Int) * 16 + (i : Int) < (N : Int) := by omega
        have z2 : (1 + (m : Int) + (p : Int) * 16 + (i : Int)).toNat = 1 + m + p * 16 + i := by omega
        have z3 : 1 + m + p * 16 + i < N := by omega
        have hS3 := hS.set (.cells (urow N (fun j => if j = 1 + m + p * 16 + i then putSl 1 (cl p) else f j)) 29 (0, 0))
        simp only [e12, e11, e10, e8, e9, e0, e5, e6, e7, hx1, hy1, r1, r0, u_slots, d4, wrap_w64, wii, u_slot, hsl, u_putsl, z0, z1, z2, z3, Int.toNat_natCast, urow_size, urow_set, ↓D0, ↓D1, ↓D2, ↓D3, ↓D4, ↓D5, ↓D6, ↓D7, ↓D8, ↓D9, U0, U1, U2, U3, U4, U5, U6, U7, U8, U9, U10, ↓reduceIte, Nat.reduceAdd, Nat.reduceMul, Nat.reduceSub, Nat.reduceEqDiff, Nat.reduceBEq, Nat.reduceLeDiff, Nat.reduceLT, Int.reduceAdd, Int.reduceMul, Int.reduceSub, Int.reduceLT, Int.reduceLE, Int.reduceToNat, Int.reduceEq, Int.reduceNe, Int.reduceBEq, Int.reduceBNe, ne_eq, eq_self]
        exact ⟨⟨i + 1, _, by omega, by simp [gt], by simp [gt, e11], by simp [gt, e10], by simp [gt, e8], by simp [gt, e9], ⟨by simp [gt, e0], by simp [gt, e5], by simp [gt, e6], by simp [gt, e7]⟩, hLI.next hlt hil, hS3⟩, by simp [gt, iv, e12]; omega⟩
      have d4 : decide ((i : Int) < slots (cl p)) = false := decide_eq_false hil
      simp only [e12, e11, e10, e8, e9, e0, e5, e6, e7, hx1, hy1, r1, r0, u_slots, d4, ↓D0, ↓D1, ↓D2, ↓D3, ↓D4, ↓D5, ↓D6, ↓D7, ↓D8, ↓D9, U0, U1, U2, U3, U4, U5, U6, U7, U8, U9, U10, ↓reduceIte, Nat.reduceAdd, Nat.reduceMul, Nat.reduceSub, Nat.reduceEqDiff, Nat.reduceBEq, Nat.reduceLeDiff, Nat.reduceLT, Int.reduceAdd, Int.reduceMul, Int.reduceSub, Int.reduceLT, Int.reduceLE, Int.reduceToNat, Int.reduceEq, Int.reduceNe, Int.reduceBEq, Int.reduceBNe, ne_eq, eq_self]
      rcases hWI.next hn1 k0 with ⟨c1, hW2⟩ | ⟨c1, c2, hW2⟩ | ⟨c1, c2, c3, hW2⟩
      · simp only [e10, e8, e9, e0, e5, e6, e7, hx1, hy1, r1, wrap_w64, wi, wr, c1, ↓D0, ↓D1, ↓D2, ↓D3, ↓D4, ↓D5, ↓D6, ↓D7, ↓D8, ↓D9, U0, U1, U2, U3, U4, U5, U6, U7, U8, U9, U10, ↓reduceIte, Nat.reduceAdd, Nat.reduceMul, Nat.reduceSub, Nat.reduceEqDiff, Nat.reduceBEq, Nat.reduceLeDiff, Nat.reduceLT, Int.reduceAdd, Int.reduceMul, Int.reduceSub, Int.reduceLT, Int.reduceLE, Int.reduceToNat, Int.reduceEq, Int.reduceNe, Int.reduceBEq, Int.reduceBNe, ne_eq, eq_self]
        exact ⟨⟨p + 1, _, want, row + 1, by omega, by simp [gt, wi], by simp [gt, e8], by simp [gt, e9, wr], ⟨by simp [gt, e0], by simp [gt, e5], by simp [gt, e6], by simp [gt, e7]⟩, hLI.fin hil, by rw [show ((p + 1 : Nat) : Int) = (p : Int) + 1 by omega]; exact hW2, hS⟩, by simp [gt, iv, e10, wi]; omega⟩
      · simp only [e10, e8, e9, e0, e5, e6, e7, hx1, hy1, r1, wrap_w64, wi, wr, c1, c2, ↓D0, ↓D1, ↓D2, ↓D3, ↓D4, ↓D5, ↓D6, ↓D7, ↓D8, ↓D9, U0, U1, U2, U3, U4, U5, U6, U7, U8, U9, U10, ↓reduceIte, Nat.reduceAdd, Nat.reduceMul, Nat.reduceSub, Nat.reduceEqDiff, Nat.reduceBEq, Nat.reduceLeDiff, Nat.reduceLT, Int.reduceAdd, Int.reduceMul, Int.reduceSub, Int.reduceLT, Int.reduceLE, Int.reduceToNat, Int.reduceEq, Int.reduceNe, Int.reduceBEq, Int.reduceBNe, ne_eq, eq_self]
        exact ⟨⟨p + 1, _, want, row + 1, by omega, by simp [gt, wi], by simp [gt, e8], by simp [gt, e9, wr], ⟨by simp [gt, e0], by simp [gt, e5], by simp [gt, e6], by simp [gt, e7]⟩, hLI.fin hil, by rw [show ((p + 1 : Nat) : Int) = (p : Int) + 1 by omega]; exact hW2, hS⟩, by simp [gt, iv, e10, wi]; omega⟩
      · have wq1 : w64 ((p : Int) - n) = (p : Int) - n := w64_eq (by omega) (by omega)
        have wq2 : w64 ((p : Int) - n + 1) = (p : Int) - n + 1 := w64_eq (by omega) (by omega)
        simp only [e10, e8, e9, e0, e5, e6, e7, hx1, hy1, r1, wrap_w64, wi, wr, c1, c2, wq1, wq2, ↓D0, ↓D1, ↓D2, ↓D3, ↓D4, ↓D5, ↓D6, ↓D7, ↓D8, ↓D9, U0, U1, U2, U3, U4, U5, U6, U7, U8, U9, U10, ↓reduceIte, Nat.reduceAdd, Nat.reduceMul, Nat.reduceSub, Nat.reduceEqDiff, Nat.reduceBEq, Nat.reduceLeDiff, Nat.reduceLT, Int.reduceAdd, Int.reduceMul, Int.reduceSub, Int.reduceLT, Int.reduceLE, Int.reduceToNat, Int.reduceEq, Int.reduceNe, Int.reduceBEq, Int.reduceBNe, ne_eq, eq_self]
        exact ⟨⟨p + 1, _, (p : Int) - n + 1, row + 1, by omega, by simp [gt, wi], by simp [gt], by simp [gt, e9, wr], ⟨by simp [gt, e0], by simp [gt, e5], by simp [gt, e6], by simp [gt, e7]⟩, hLI.fin hil, by rw [show ((p + 1 : Nat) : Int) = (p : Int) + 1 by omega]; exact hW2, hS⟩, by simp [gt, iv, e10, wi]; omega⟩
    have q1 : (kd p == 1) = false := beq_eq_false_iff_ne.2 k1
    simp only [e10, e8, e9, e0, e5, e6, e7, hx1, hy1, r1, r0, d3, p0, p1, Int.toNat_natCast, hrd, wrap_w64, wi, wr, es, w1, w2, w3, ekd, ecl, q0, q1, ↓D0, ↓D1, ↓D2, ↓D3, ↓D4, ↓D5, ↓D6, ↓D7, ↓D8, ↓D9, U0, U1, U2, U3, U4, U5, U6, U7, U8, U9, U10, ↓reduceIte, Nat.reduceAdd, Nat.reduceMul, Nat.reduceSub, Nat.reduceEqDiff, Nat.reduceBEq, Nat.reduceLeDiff, Nat.reduceLT, Int.reduceAdd, Int.reduceMul, Int.reduceSub, Int.reduceLT, Int.reduceLE, Int.reduceToNat, Int.reduceEq, Int.reduceNe, Int.reduceBEq, Int.reduceBNe, ne_eq, eq_self]
    rcases hWI.next hn1 k0 with ⟨c1, hW2⟩ | ⟨c1, c2, hW2⟩ | ⟨c1, c2, c3, hW2⟩
    · simp only [e10, e8, e9, e0, e5, e6, e7, hx1, hy1, r1, wrap_w64, wi, wr, c1, ↓D0, ↓D1, ↓D2, ↓D3, ↓D4, ↓D5, ↓D6, ↓D7, ↓D8, ↓D9, U0, U1, U2, U3, U4, U5, U6, U7, U8, U9, U10, ↓reduceIte, Nat.reduceAdd, Nat.reduceMul, Nat.reduceSub, Nat.reduceEqDiff, Nat.reduceBEq, Nat.reduceLeDiff, Nat.reduceLT, Int.reduceAdd, Int.reduceMul, Int.reduceSub, Int.reduceLT, Int.reduceLE, Int.reduceToNat, Int.reduceEq, Int.reduceNe, Int.reduceBEq, Int.reduceBNe, ne_eq, eq_self]
      exact ⟨⟨p + 1, _, want, row + 1, by omega, by simp [gt, wi], by simp [gt, e8], by simp [gt, e9, wr], ⟨by simp [gt, e0], by simp [gt, e5], by simp [gt, e6], by simp [gt, e7]⟩, hLW.none k0 k1, by rw [show ((p + 1 : Nat) : Int) = (p : Int) + 1 by omega]; exact hW2, hS⟩, by simp [gt, iv, e10, wi]; omega⟩
    · simp only [e10, e8, e9, e0, e5, e6, e7, hx1, hy1, r1, wrap_w64, wi, wr, c1, c2, ↓D0, ↓D1, ↓D2, ↓D3, ↓D4, ↓D5, ↓D6, ↓D7, ↓D8, ↓D9, U0, U1, U2, U3, U4, U5, U6, U7, U8, U9, U10, ↓reduceIte, Nat.reduceAdd, Nat.reduceMul, Nat.reduceSub, Nat.reduceEqDiff, Nat.reduceBEq, Nat.reduceLeDiff, Nat.reduceLT, Int.reduceAdd, Int.reduceMul, Int.reduceSub, Int.reduceLT, Int.reduceLE, Int.reduceToNat, Int.reduceEq, Int.reduceNe, Int.reduceBEq, Int.reduceBNe, ne_eq, eq_self]
      exact ⟨⟨p + 1, _, want, row + 1, by omega, by simp [gt, wi], by simp [gt, e8], by simp [gt, e9, wr], ⟨by simp [gt, e0], by simp [gt, e5], by simp [gt, e6], by simp [gt, e7]⟩, hLW.none k0 k1, by rw [show ((p + 1 : Nat) : Int) = (p : Int) + 1 by omega]; exact hW2, hS⟩, by simp [gt, iv, e10, wi]; omega⟩
    · have wq1 : w64 ((p : Int) - n) = (p : Int) - n := w64_eq (by omega) (by omega)
      have wq2 : w64 ((p : Int) - n + 1) = (p : Int) - n + 1 := w64_eq (by omega) (by omega)
      simp only [e10, e8, e9, e0, e5, e6, e7, hx1, hy1, r1, wrap_w64, wi, wr, c1, c2, wq1, wq2, ↓D0, ↓D1, ↓D2, ↓D3, ↓D4, ↓D5, ↓D6, ↓D7, ↓D8, ↓D9, U0, U1, U2, U3, U4, U5, U6, U7, U8, U9, U10, ↓reduceIte, Nat.reduceAdd, Nat.reduceMul, Nat.reduceSub, Nat.reduceEqDiff, Nat.reduceBEq, Nat.reduceLeDiff, Nat.reduceLT, Int.reduceAdd, Int.reduceMul, Int.reduceSub, Int.reduceLT, Int.reduceLE, Int.reduceToNat, Int.reduceEq, Int.reduceNe, Int.reduceBEq, Int.reduceBNe, ne_eq, eq_self]
      exact ⟨⟨p + 1, _, (p : Int) - n + 1, row + 1, by omega, by simp [gt, wi], by simp [gt], by simp [gt, e9, wr], ⟨by simp [gt, e0], by simp [gt, e5], by simp [gt, e6], by simp [gt, e7]⟩, hLW.none k0 k1, by rw [show ((p + 1 : Nat) : Int) = (p : Int) + 1 by omega]; exact hW2, hS⟩, by simp [gt, iv, e10, wi]; omega⟩
  have hpm : p = m := by omega
  subst hpm
  have d3 : decide ((p : Int) < (p : Int)) = false := decide_eq_false (by omega)
  simp only [e10, e8, e9, e0, e5, e6, e7, hx1, hy1, r1, r0, d3, ↓D0, ↓D1, ↓D2, ↓D3, ↓D4, ↓D5, ↓D6, ↓D7, ↓D8, ↓D9, U0, U1, U2, U3, U4, U5, U6, U7, U8, U9, U10, ↓reduceIte, Nat.reduceAdd, Nat.reduceMul, Nat.reduceSub, Nat.reduceEqDiff, Nat.reduceBEq, Nat.reduceLeDiff, Nat.reduceLT, Int.reduceAdd, Int.reduceMul, Int.reduceSub, Int.reduceLT, Int.reduceLE, Int.reduceToNat, Int.reduceEq, Int.reduceNe, Int.reduceBEq, Int.reduceBNe, ne_eq, eq_self]
  refine callT_of (c_fill (n := N) hN2 (RowU.own y N _ _ _) hS) ?_
  rintro v H' ⟨b, s, rfl, hS⟩
  have hx1 := hS.lk 3 rfl
  have r1 := fun o n => rdn_of hx1 o n
  simp only [e10, e8, e9, e0, e5, e6, e7, hx1, r1, ↓D0, ↓D1, ↓D2, ↓D3, ↓D4, ↓D5, ↓D6, ↓D7, ↓D8, ↓D9, U0, U1, U2, U3, U4, U5, U6, U7, U8, U9, U10, ↓reduceIte, Nat.reduceAdd, Nat.reduceMul, Nat.reduceSub, Nat.reduceEqDiff, Nat.reduceBEq, Nat.reduceLeDiff, Nat.reduceLT, Int.reduceAdd, Int.reduceMul, Int.reduceSub, Int.reduceLT, Int.reduceLE, Int.reduceToNat, Int.reduceEq, Int.reduceNe, Int.reduceBEq, Int.reduceBNe, ne_eq, eq_self]
  refine callT_of (c_rnnew (sh := ⟨p, 1, 0⟩) hS) ?_
  rintro v H' ⟨k, rfl, hS⟩
  simp only [e10, e8, e9, e0, e5, e6, e7, ↓D0, ↓D1, ↓D2, ↓D3, ↓D4, ↓D5, ↓D6, ↓D7, ↓D8, ↓D9, U0, U1, U2, U3, U4, U5, U6, U7, U8, U9, U10, ↓reduceIte, Nat.reduceAdd, Nat.reduceMul, Nat.reduceSub, Nat.reduceEqDiff, Nat.reduceBEq, Nat.reduceLeDiff, Nat.reduceLT, Int.reduceAdd, Int.reduceMul, Int.reduceSub, Int.reduceLT, Int.reduceLE, Int.reduceToNat, Int.reduceEq, Int.reduceNe, Int.reduceBEq, Int.reduceBNe, ne_eq, eq_self]
  have hof : (rowW N f).of (Rn.rsh p) := rowW_of hN.symm fun i _ => hLW.u i
  have hget : ∀ j : Nat, j < N → (rowW N f).get ((j : Nat) : Int) = f j := fun j hj => by
    show (if ((j : Nat) : Int).toNat < N then f ((j : Nat) : Int).toNat else 0) = _
    rw [Int.toNat_natCast, if_pos hj]
  have hUn : ∀ q : Int, 0 ≤ q → q < (p : Int) → Rn.Unt p kd cl (rowW N f) q := fun q h0 h1 => by
    obtain ⟨q', rfl⟩ := Int.eq_ofNat_of_zero_le h0
    refine ⟨?_, fun hk j h2 h3 => ?_⟩
    · rw [show 1 + ((q' : Nat) : Int) = ((1 + q' : Nat) : Int) by omega, hget _ (by omega), hLW.pg q' (by omega), if_pos (by omega)]
    · obtain ⟨j', rfl⟩ := Int.eq_ofNat_of_zero_le h2
      have := slots_bd (cl (q' : Int))
      rw [show 1 + (p : Int) + ((q' : Nat) : Int) * 16 + ((j' : Nat) : Int) = ((1 + p + q' * 16 + j' : Nat) : Int) by omega, hget _ (by omega), hLW.sl q' j' (by omega) hk h3]
  have hRw := Rn.Rw.init (n := n) hm hof hclb ⟨hn1, hn8⟩ hUn
  have hL0 : (Rn.new ⟨p, 1, 0⟩ 0 n).left ≤ 2000 := by
    have := Rn.new_left ⟨p, 1, 0⟩ 0 n (by show (0 : Int) ≤ p; omega)
    have : (⟨p, 1, 0⟩ : Sh).p = p := rfl
    omega
  refine loop_intro (rrD n kd cl want N y p cap a x b k s (sg y (.cells (urow N f) 29 (0, 0)) :: sg x (.cells #[.int .i64 (p : Int), .int .i64 1, .int .i64 0] 25 (0, 0)) :: h :: l)) (fun F' _ => (2000 - iv (gt F' 15)).toNat)
    ⟨0, _, _, 0, by omega, by omega, by simp [gt], by simp [gt, e8], by simp [gt], by simp [gt], ⟨by simp [gt, e0], by simp [gt, e5], by simp [gt, e6], by simp [gt, e7]⟩, hRw, Rn.new_wf _ _ _, ⟨rfl, rfl, rfl⟩, by show (Rn.new ⟨p, 1, 0⟩ 0 n).left ≤ _; omega, hS.nothing.p1⟩ ?_
  clear hS hx1 r1 r0 hy1 e0 e5 e6 e7 e8 e9 e10 hRw hL0
  rintro F' H' ⟨i, t, w, pa, h0, h1, e15, e8, e13, e14, ⟨e0, e5, e6, e7⟩, hRw, hwf, hKe, hl, hS⟩
  by_cases hil : i < 2000
  · have d4 : decide (i < 2000) = true := decide_eq_true hil
    have wi : w64 (i + 1) = i + 1 := w64_eq (by omega) (by omega)
    simp only [e15, e8, e13, e14, e0, e5, e6, e7, d4, ↓D0, ↓D1, ↓D2, ↓D3, ↓D4, ↓D5, ↓D6, ↓D7, ↓D8, ↓D9, U0, U1, U2, U3, U4, U5, U6, U7, U8, U9, U10, ↓reduceIte, Nat.reduceAdd, Nat.reduceMul, Nat.reduceSub, Nat.reduceEqDiff, Nat.reduceBEq, Nat.reduceLeDiff, Nat.reduceLT, Int.reduceAdd, Int.reduceMul, Int.reduceSub, Int.reduceLT, Int.reduceLE, Int.reduceToNat, Int.reduceEq, Int.reduceNe, Int.reduceBEq, Int.reduceBNe, ne_eq, eq_self]
    refine callT_of (c_rnstep hwf (fun _ => by rw [hKe.1]; exact hRw.of) hS) ?_
    rintro v H' ⟨rfl, pa2, hS⟩
    have hk := Rn.step_k hwf w
    simp only [e15, e8, e13, e14, e0, e5, e6, e7, wrap_w64, wi, ↓D0, ↓D1, ↓D2, ↓D3, ↓D4, ↓D5, ↓D6, ↓D7, ↓D8, ↓D9, U0, U1, U2, U3, U4, U5, U6, U7, U8, U9, U10, ↓reduceIte, Nat.reduceAdd, Nat.reduceMul, Nat.reduceSub, Nat.reduceEqDiff, Nat.reduceBEq, Nat.reduceLeDiff, Nat.reduceLT, Int.reduceAdd, Int.reduceMul, Int.reduceSub, Int.reduceLT, Int.reduceLE, Int.reduceToNat, Int.reduceEq, Int.reduceNe, Int.reduceBEq, Int.reduceBNe, ne_eq, eq_self]
    refine ⟨⟨i + 1, _, _, pa2, by omega, by omega, by simp [gt], by simp [gt, e8], by simp [gt, e13], by simp [gt, e14], ⟨by simp [gt, e0], by simp [gt, e5], by simp [gt, e6], by simp [gt, e7]⟩, hRw.step hKe, Rn.step_wf hwf w, ⟨hk.1.trans hKe.1, hk.2.1.trans hKe.2.1, hk.2.2.trans hKe.2.2⟩, ?_, hS⟩, by simp [gt, iv, e15]; omega⟩
    have := Rn.left_step (w := w) hwf hl; omega
  have d4 : decide (i < 2000) = false := decide_eq_false hil
  have hd : t.dn = true := Rn.left_dn hwf (by have := Rn.left_nn hwf; omega)
  have hrf := hRw.rf hd
  obtain ⟨ff1, ff2⟩ := hrf.first hn1 hWI
  simp only [e15, e8, e13, e14, e0, e5, e6, e7, d4, ↓D0, ↓D1, ↓D2, ↓D3, ↓D4, ↓D5, ↓D6, ↓D7, ↓D8, ↓D9, U0, U1, U2, U3, U4, U5, U6, U7, U8, U9, U10, ↓reduceIte, Nat.reduceAdd, Nat.reduceMul, Nat.reduceSub, Nat.reduceEqDiff, Nat.reduceBEq, Nat.reduceLeDiff, Nat.reduceLT, Int.reduceAdd, Int.reduceMul, Int.reduceSub, Int.reduceLT, Int.reduceLE, Int.reduceToNat, Int.reduceEq, Int.reduceNe, Int.reduceBEq, Int.reduceBNe, ne_eq, eq_self]
  refine callT_of (c_rnfound hS) ?_
  rintro v H' ⟨rfl, hS⟩
  simp only [e15, e8, e13, e14, e0, e5, e6, e7, ↓D0, ↓D1, ↓D2, ↓D3, ↓D4, ↓D5, ↓D6, ↓D7, ↓D8, ↓D9, U0, U1, U2, U3, U4, U5, U6, U7, U8, U9, U10, ↓reduceIte, Nat.reduceAdd, Nat.reduceMul, Nat.reduceSub, Nat.reduceEqDiff, Nat.reduceBEq, Nat.reduceLeDiff, Nat.reduceLT, Int.reduceAdd, Int.reduceMul, Int.reduceSub, Int.reduceLT, Int.reduceLE, Int.reduceToNat, Int.reduceEq, Int.reduceNe, Int.reduceBEq, Int.reduceBNe, ne_eq, eq_self]
  refine callT_of (c_rndone hS) ?_
  rintro v H' ⟨rfl, hS⟩
  have hnw : (w.n : Int) = 17 * p + 1 := by
    have : (w.n : Int) = words (p : Int) 1 0 := hRw.of.n
    omega
  have hpg : ∀ q : Nat, q < p → page (p : Int) 1 0 (q : Int) = 1 + (q : Int) := fun q hq => page_yes hm (by omega) (by omega)
  have hS4 := hS.tail.tail
  have hbd := hWI.yes
  have whd : decide (0 ≤ want) = t.fd := by
    cases hf : t.fd
    · exact decide_eq_false (by have := ff2 hf; omega)
    · exact decide_eq_true (ff1 hf).1
  have hw : (∀ q : Nat, q < p → t.fd = true → (q : Int) = want → w.get (1 + (q : Int)) = putPg 1 0 0) ∧ (∀ q : Nat, q < p → t.fd = true → want < (q : Int) → (q : Int) < want + n → w.get (1 + (q : Int)) = putPg 4 want 0) ∧ (∀ q : Nat, q < p → (t.fd = false ∨ ¬ (want ≤ (q : Int) ∧ (q : Int) < want + n)) → w.get (1 + (q : Int)) = f (1 + q) ∨ (w.get (1 + (q : Int)) = 0 ∧ kd q = 1)) := by
    refine ⟨fun q hq hf he => ?_, fun q hq hf h2 h3 => ?_, fun q hq hh => ?_⟩
    · have := (ff1 hf).2
      exact (hrf.word hn1 (q := (q : Int)) (by omega) (by omega)).1 hf (by omega)
    · have h4 := (ff1 hf).2
      have := (hrf.word hn1 (q := (q : Int)) (by omega) (by omega)).2.1 hf (by omega) (by omega)
      rw [this, h4]
    · rw [hLW.pg q hq, if_pos hq]
      refine (hrf.word hn1 (q := (q : Int)) (by omega) (by omega)).2.2 ?_
      cases hf : t.fd
      · exact .inl rfl
      · right
        have h4 := (ff1 hf).2
        rcases hh with hh | hh
        · rw [hf] at hh; cases hh
        · omega
  clear hRw hKe hwf hl hrf hS
  obtain ⟨w1, w2, w3⟩ := hw
  cases hf : t.fd
  · rw [hf] at whd
    simp only [e15, e8, e13, e14, e0, e5, e6, e7, hd, hf, whd, ↓D0, ↓D1, ↓D2, ↓D3, ↓D4, ↓D5, ↓D6, ↓D7, ↓D8, ↓D9, U0, U1, U2, U3, U4, U5, U6, U7, U8, U9, U10, ↓reduceIte, Nat.reduceAdd, Nat.reduceMul, Nat.reduceSub, Nat.reduceEqDiff, Nat.reduceBEq, Nat.reduceLeDiff, Nat.reduceLT, Int.reduceAdd, Int.reduceMul, Int.reduceSub, Int.reduceLT, Int.reduceLE, Int.reduceToNat, Int.reduceEq, Int.reduceNe, Int.reduceBEq, Int.reduceBNe, ne_eq, eq_self]
    refine loop_intro (rrE n want false N y p cap a x b s w (sg y (.cells (urow N f) 29 (0, 0)) :: sg x (.cells #[.int .i64 (p : Int), .int .i64 1, .int .i64 0] 25 (0, 0)) :: h :: l)) (fun F' _ => (p - iv (gt F' 18)).toNat)
      ⟨0, by omega, by simp [gt], by simp [gt, e8], by simp [gt, e13], by simp [gt], ⟨by simp [gt, e0], by simp [gt, e5], by simp [gt, e6], by simp [gt, e7]⟩, hS4⟩ ?_
    clear hS4 e0 e5 e6 e7 e8 e13 e14 e15
    rintro F' H' ⟨q, hq, e18, e8, e13, e17, ⟨e0, e5, e6, e7⟩, hS⟩
    have hx1 := hS.lk 3 rfl
    have hy1 := hS.lk 2 rfl
    have r1 := fun o n => rdn_of hx1 o n
    have r0 := fun o => rd_of hx1 o
    by_cases hlt : q < p
    · have d3 : decide ((q : Int) < (p : Int)) = true := decide_eq_true (by omega)
      have p0 : (0 : Int) ≤ (q : Int) := by omega
      have p1 : (q : Int) < (p : Int) := by omega
      have wi : w64 ((q : Int) + 1) = (q : Int) + 1 := w64_eq (by omega) (by omega)
      have hpq := hpg q hlt
      have b0 : (0 : Int) ≤ 1 + (q : Int) := by omega
      have b1 : 1 + (q : Int) < (N : Int) := by omega
      have b2 : (1 + (q : Int)).toNat = 1 + q := by omega
      have b3 : 1 + q < N := by omega
      simp only [e18, e8, e13, e17, e0, e5, e6, e7, hx1, r0, r1, d3, u_page, hpq, ↓D0, ↓D1, ↓D2, ↓D3, ↓D4, ↓D5, ↓D6, ↓D7, ↓D8, ↓D9, U0, U1, U2, U3, U4, U5, U6, U7, U8, U9, U10, ↓reduceIte, Nat.reduceAdd, Nat.reduceMul, Nat.reduceSub, Nat.reduceEqDiff, Nat.reduceBEq, Nat.reduceLeDiff, Nat.reduceLT, Int.reduceAdd, Int.reduceMul, Int.reduceSub, Int.reduceLT, Int.reduceLE, Int.reduceToNat, Int.reduceEq, Int.reduceNe, Int.reduceBEq, Int.reduceBNe, ne_eq, eq_self]
      refine callT_of (c_look (1 + (q : Int)) (by omega) (by omega) hS) ?_
      rintro v H' ⟨rfl, hS⟩
      have hx1 := hS.lk 3 rfl
      have hy1 := hS.lk 2 rfl
      have r1 := fun o n => rdn_of hx1 o n
      have r2 := fun o => rd_of hy1 o
      obtain ⟨xb, xo, rfl, hrd⟩ := (hr.sub (hS.sb h (by simp))).at' (i := q) hlt
      have ekd : bits BinOp.and IntKind.u8 (ks q) 3 = kd q := by rw [hkd]; unfold rrK; rw [Int.toNat_natCast]
      by_cases hz : w.get (1 + (q : Int)) = f (1 + q)
      · have z1 : (w.get (1 + (q : Int)) != f (1 + q)) = false := by rw [hz]; simp
        simp only [e18, e8, e13, e17, e0, e5, e6, e7, hx1, hy1, r1, p0, p1, hrd, ekd, u_page, hpq, b0, b1, b2, b3, urow_size, r2, urow_at, Int.toNat_natCast, wrap_w64, wi, u_putpg, Bool.false_eq_true, z1, ↓D0, ↓D1, ↓D2, ↓D3, ↓D4, ↓D5, ↓D6, ↓D7, ↓D8, ↓D9, U0, U1, U2, U3, U4, U5, U6, U7, U8, U9, U10, ↓reduceIte, Nat.reduceAdd, Nat.reduceMul, Nat.reduceSub, Nat.reduceEqDiff, Nat.reduceBEq, Nat.reduceLeDiff, Nat.reduceLT, Int.reduceAdd, Int.reduceMul, Int.reduceSub, Int.reduceLT, Int.reduceLE, Int.reduceToNat, Int.reduceEq, Int.reduceNe, Int.reduceBEq, Int.reduceBNe, ne_eq, eq_self]
        exact ⟨⟨q + 1, by omega, by simp [gt, wi], by simp [gt, e8], by simp [gt, e13], by simp [gt, e17], ⟨by simp [gt, e0], by simp [gt, e5], by simp [gt, e6], by simp [gt, e7]⟩, hS⟩, by simp [gt, iv, e18, wi]; omega⟩
      · rcases w3 q hlt (.inl hf) with hz2 | ⟨hz2, hz3⟩
        · exact absurd hz2 hz
        have z1 : (w.get (1 + (q : Int)) != f (1 + q)) = true := by simpa using hz
        have z2 : (w.get (1 + (q : Int)) == 0) = true := beq_iff_eq.2 hz2
        have z3 : (kd q == 1) = true := beq_iff_eq.2 hz3
        simp only [e18, e8, e13, e17, e0, e5, e6, e7, hx1, hy1, r1, p0, p1, hrd, ekd, u_page, hpq, b0, b1, b2, b3, urow_size, r2, urow_at, Int.toNat_natCast, wrap_w64, wi, u_putpg, Bool.false_eq_true, z1, z2, z3, ↓D0, ↓D1, ↓D2, ↓D3, ↓D4, ↓D5, ↓D6, ↓D7, ↓D8, ↓D9, U0, U1, U2, U3, U4, U5, U6, U7, U8, U9, U10, ↓reduceIte, Nat.reduceAdd, Nat.reduceMul, Nat.reduceSub, Nat.reduceEqDiff, Nat.reduceBEq, Nat.reduceLeDiff, Nat.reduceLT, Int.reduceAdd, Int.reduceMul, Int.reduceSub, Int.reduceLT, Int.reduceLE, Int.reduceToNat, Int.reduceEq, Int.reduceNe, Int.reduceBEq, Int.reduceBNe, ne_eq, eq_self]
        exact ⟨⟨q + 1, by omega, by simp [gt, wi], by simp [gt, e8], by simp [gt, e13], by simp [gt, e17], ⟨by simp [gt, e0], by simp [gt, e5], by simp [gt, e6], by simp [gt, e7]⟩, hS⟩, by simp [gt, iv, e18, wi]; omega⟩
    have hqp : q = p := by omega
    subst hqp
    have d3 : decide ((q : Int) < (q : Int)) = false := decide_eq_false (by omega)
    simp only [e18, e8, e13, e17, e0, e5, e6, e7, hx1, r0, r1, d3, ↓D0, ↓D1, ↓D2, ↓D3, ↓D4, ↓D5, ↓D6, ↓D7, ↓D8, ↓D9, U0, U1, U2, U3, U4, U5, U6, U7, U8, U9, U10, ↓reduceIte, Nat.reduceAdd, Nat.reduceMul, Nat.reduceSub, Nat.reduceEqDiff, Nat.reduceBEq, Nat.reduceLeDiff, Nat.reduceLT, Int.reduceAdd, Int.reduceMul, Int.reduceSub, Int.reduceLT, Int.reduceLE, Int.reduceToNat, Int.reduceEq, Int.reduceNe, Int.reduceBEq, Int.reduceBNe, ne_eq, eq_self]
    exact hS.tail.tail.tail.tail
  · rw [hf] at whd
    have hne : (t.hd != want) = false := by rw [(ff1 hf).2]; simp
    simp only [e15, e8, e13, e14, e0, e5, e6, e7, hd, hf, whd, hne, ↓D0, ↓D1, ↓D2, ↓D3, ↓D4, ↓D5, ↓D6, ↓D7, ↓D8, ↓D9, U0, U1, U2, U3, U4, U5, U6, U7, U8, U9, U10, ↓reduceIte, Nat.reduceAdd, Nat.reduceMul, Nat.reduceSub, Nat.reduceEqDiff, Nat.reduceBEq, Nat.reduceLeDiff, Nat.reduceLT, Int.reduceAdd, Int.reduceMul, Int.reduceSub, Int.reduceLT, Int.reduceLE, Int.reduceToNat, Int.reduceEq, Int.reduceNe, Int.reduceBEq, Int.reduceBNe, ne_eq, eq_self]
    refine loop_intro (rrE n want true N y p cap a x b s w (sg y (.cells (urow N f) 29 (0, 0)) :: sg x (.cells #[.int .i64 (p : Int), .int .i64 1, .int .i64 0] 25 (0, 0)) :: h :: l)) (fun F' _ => (p - iv (gt F' 18)).toNat)
      ⟨0, by omega, by simp [gt], by simp [gt, e8], by simp [gt, e13], by simp [gt], ⟨by simp [gt, e0], by simp [gt, e5], by simp [gt, e6], by simp [gt, e7]⟩, hS4⟩ ?_
    clear hS4 e0 e5 e6 e7 e8 e13 e14 e15
    rintro F' H' ⟨q, hq, e18, e8, e13, e17, ⟨e0, e5, e6, e7⟩, hS⟩
    have hx1 := hS.lk 3 rfl
    have hy1 := hS.lk 2 rfl
    have r1 := fun o n => rdn_of hx1 o n
    have r0 := fun o => rd_of hx1 o
    by_cases hlt : q < p
    · have d3 : decide ((q : Int) < (p : Int)) = true := decide_eq_true (by omega)
      have p0 : (0 : Int) ≤ (q : Int) := by omega
      have p1 : (q : Int) < (p : Int) := by omega
      have wi : w64 ((q : Int) + 1) = (q : Int) + 1 := w64_eq (by omega) (by omega)
      have hpq := hpg q hlt
      have b0 : (0 : Int) ≤ 1 + (q : Int) := by omega
      have b1 : 1 + (q : Int) < (N : Int) := by omega
      have b2 : (1 + (q : Int)).toNat = 1 + q := by omega
      have b3 : 1 + q < N := by omega
      simp only [e18, e8, e13, e17, e0, e5, e6, e7, hx1, r0, r1, d3, u_page, hpq, ↓D0, ↓D1, ↓D2, ↓D3, ↓D4, ↓D5, ↓D6, ↓D7, ↓D8, ↓D9, U0, U1, U2, U3, U4, U5, U6, U7, U8, U9, U10, ↓reduceIte, Nat.reduceAdd, Nat.reduceMul, Nat.reduceSub, Nat.reduceEqDiff, Nat.reduceBEq, Nat.reduceLeDiff, Nat.reduceLT, Int.reduceAdd, Int.reduceMul, Int.reduceSub, Int.reduceLT, Int.reduceLE, Int.reduceToNat, Int.reduceEq, Int.reduceNe, Int.reduceBEq, Int.reduceBNe, ne_eq, eq_self]
      refine callT_of (c_look (1 + (q : Int)) (by omega) (by omega) hS) ?_
      rintro v H' ⟨rfl, hS⟩
      have hx1 := hS.lk 3 rfl
      have hy1 := hS.lk 2 rfl
      have r1 := fun o n => rdn_of hx1 o n
      have r2 := fun o => rd_of hy1 o
      obtain ⟨xb, xo, rfl, hrd⟩ := (hr.sub (hS.sb h (by simp))).at' (i := q) hlt
      have ekd : bits BinOp.and IntKind.u8 (ks q) 3 = kd q := by rw [hkd]; unfold rrK; rw [Int.toNat_natCast]
      have ww : w64 (want + n) = want + n := w64_eq (by have := (ff1 hf).1; omega) (by have := hbd (ff1 hf).1; omega)
      rcases rr_pos true (q : Int) want n with ⟨-, pa1, pe⟩ | ⟨-, pa1, pa2, pa3, pr⟩ | ⟨-, pa1, pa2, pa3, pr⟩ | ⟨-, pa1, pa2, pr⟩ | qa
      · have hz : (w.get (1 + (q : Int)) != putPg 1 0 0) = false := by rw [w1 q hlt hf pe]; simp
        simp only [e18, e8, e13, e17, e0, e5, e6, e7, hx1, hy1, r1, p0, p1, hrd, ekd, u_page, hpq, b0, b1, b2, b3, urow_size, r2, urow_at, Int.toNat_natCast, wrap_w64, wi, u_putpg, pa1, hz, ↓D0, ↓D1, ↓D2, ↓D3, ↓D4, ↓D5, ↓D6, ↓D7, ↓D8, ↓D9, U0, U1, U2, U3, U4, U5, U6, U7, U8, U9, U10, ↓reduceIte, Nat.reduceAdd, Nat.reduceMul, Nat.reduceSub, Nat.reduceEqDiff, Nat.reduceBEq, Nat.reduceLeDiff, Nat.reduceLT, Int.reduceAdd, Int.reduceMul, Int.reduceSub, Int.reduceLT, Int.reduceLE, Int.reduceToNat, Int.reduceEq, Int.reduceNe, Int.reduceBEq, Int.reduceBNe, ne_eq, eq_self]
        exact ⟨⟨q + 1, by omega, by simp [gt, wi], by simp [gt, e8], by simp [gt, e13], by simp [gt, e17], ⟨by simp [gt, e0], by simp [gt, e5], by simp [gt, e6], by simp [gt, e7]⟩, hS⟩, by simp [gt, iv, e18, wi]; omega⟩
      · have hz : (w.get (1 + (q : Int)) != putPg 4 want 0) = false := by rw [w2 q hlt hf pr.1 pr.2]; simp
        simp only [e18, e8, e13, e17, e0, e5, e6, e7, hx1, hy1, r1, p0, p1, hrd, ekd, u_page, hpq, b0, b1, b2, b3, urow_size, r2, urow_at, Int.toNat_natCast, wrap_w64, wi, u_putpg, pa1, pa2, pa3, ww, hz, ↓D0, ↓D1, ↓D2, ↓D3, ↓D4, ↓D5, ↓D6, ↓D7, ↓D8, ↓D9, U0, U1, U2, U3, U4, U5, U6, U7, U8, U9, U10, ↓reduceIte, Nat.reduceAdd, Nat.reduceMul, Nat.reduceSub, Nat.reduceEqDiff, Nat.reduceBEq, Nat.reduceLeDiff, Nat.reduceLT, Int.reduceAdd, Int.reduceMul, Int.reduceSub, Int.reduceLT, Int.reduceLE, Int.reduceToNat, Int.reduceEq, Int.reduceNe, Int.reduceBEq, Int.reduceBNe, ne_eq, eq_self]
        exact ⟨⟨q + 1, by omega, by simp [gt, wi], by simp [gt, e8], by simp [gt, e13], by simp [gt, e17], ⟨by simp [gt, e0], by simp [gt, e5], by simp [gt, e6], by simp [gt, e7]⟩, hS⟩, by simp [gt, iv, e18, wi]; omega⟩
      ·
        by_cases hz : w.get (1 + (q : Int)) = f (1 + q)
        · have z1 : (w.get (1 + (q : Int)) != f (1 + q)) = false := by rw [hz]; simp
          simp only [e18, e8, e13, e17, e0, e5, e6, e7, hx1, hy1, r1, p0, p1, hrd, ekd, u_page, hpq, b0, b1, b2, b3, urow_size, r2, urow_at, Int.toNat_natCast, wrap_w64, wi, u_putpg, pa1, pa2, pa3, ww, z1, ↓D0, ↓D1, ↓D2, ↓D3, ↓D4, ↓D5, ↓D6, ↓D7, ↓D8, ↓D9, U0, U1, U2, U3, U4, U5, U6, U7, U8, U9, U10, ↓reduceIte, Nat.reduceAdd, Nat.reduceMul, Nat.reduceSub, Nat.reduceEqDiff, Nat.reduceBEq, Nat.reduceLeDiff, Nat.reduceLT, Int.reduceAdd, Int.reduceMul, Int.reduceSub, Int.reduceLT, Int.reduceLE, Int.reduceToNat, Int.reduceEq, Int.reduceNe, Int.reduceBEq, Int.reduceBNe, ne_eq, eq_self]
          exact ⟨⟨q + 1, by omega, by simp [gt, wi], by simp [gt, e8], by simp [gt, e13], by simp [gt, e17], ⟨by simp [gt, e0], by simp [gt, e5], by simp [gt, e6], by simp [gt, e7]⟩, hS⟩, by simp [gt, iv, e18, wi]; omega⟩
        · rcases w3 q hlt (.inr pr) with hz2 | ⟨hz2, hz3⟩
          · exact absurd hz2 hz
          have z1 : (w.get (1 + (q : Int)) != f (1 + q)) = true := by simpa using hz
          have z2 : (w.get (1 + (q : Int)) == 0) = true := beq_iff_eq.2 hz2
          have z3 : (kd q == 1) = true := beq_iff_eq.2 hz3
          simp only [e18, e8, e13, e17, e0, e5, e6, e7, hx1, hy1, r1, p0, p1, hrd, ekd, u_page, hpq, b0, b1, b2, b3, urow_size, r2, urow_at, Int.toNat_natCast, wrap_w64, wi, u_putpg, pa1, pa2, pa3, ww, z1, z2, z3, ↓D0, ↓D1, ↓D2, ↓D3, ↓D4, ↓D5, ↓D6, ↓D7, ↓D8, ↓D9, U0, U1, U2, U3, U4, U5, U6, U7, U8, U9, U10, ↓reduceIte, Nat.reduceAdd, Nat.reduceMul, Nat.reduceSub, Nat.reduceEqDiff, Nat.reduceBEq, Nat.reduceLeDiff, Nat.reduceLT, Int.reduceAdd, Int.reduceMul, Int.reduceSub, Int.reduceLT, Int.reduceLE, Int.reduceToNat, Int.reduceEq, Int.reduceNe, Int.reduceBEq, Int.reduceBNe, ne_eq, eq_self]
          exact ⟨⟨q + 1, by omega, by simp [gt, wi], by simp [gt, e8], by simp [gt, e13], by simp [gt, e17], ⟨by simp [gt, e0], by simp [gt, e5], by simp [gt, e6], by simp [gt, e7]⟩, hS⟩, by simp [gt, iv, e18, wi]; omega⟩
      ·
        by_cases hz : w.get (1 + (q : Int)) = f (1 + q)
        · have z1 : (w.get (1 + (q : Int)) != f (1 + q)) = false := by rw [hz]; simp
          simp only [e18, e8, e13, e17, e0, e5, e6, e7, hx1, hy1, r1, p0, p1, hrd, ekd, u_page, hpq, b0, b1, b2, b3, urow_size, r2, urow_at, Int.toNat_natCast, wrap_w64, wi, u_putpg, pa1, pa2, ww, z1, ↓D0, ↓D1, ↓D2, ↓D3, ↓D4, ↓D5, ↓D6, ↓D7, ↓D8, ↓D9, U0, U1, U2, U3, U4, U5, U6, U7, U8, U9, U10, ↓reduceIte, Nat.reduceAdd, Nat.reduceMul, Nat.reduceSub, Nat.reduceEqDiff, Nat.reduceBEq, Nat.reduceLeDiff, Nat.reduceLT, Int.reduceAdd, Int.reduceMul, Int.reduceSub, Int.reduceLT, Int.reduceLE, Int.reduceToNat, Int.reduceEq, Int.reduceNe, Int.reduceBEq, Int.reduceBNe, ne_eq, eq_self]
          exact ⟨⟨q + 1, by omega, by simp [gt, wi], by simp [gt, e8], by simp [gt, e13], by simp [gt, e17], ⟨by simp [gt, e0], by simp [gt, e5], by simp [gt, e6], by simp [gt, e7]⟩, hS⟩, by simp [gt, iv, e18, wi]; omega⟩
        · rcases w3 q hlt (.inr pr) with hz2 | ⟨hz2, hz3⟩
          · exact absurd hz2 hz
          have z1 : (w.get (1 + (q : Int)) != f (1 + q)) = true := by simpa using hz
          have z2 : (w.get (1 + (q : Int)) == 0) = true := beq_iff_eq.2 hz2
          have z3 : (kd q == 1) = true := beq_iff_eq.2 hz3
          simp only [e18, e8, e13, e17, e0, e5, e6, e7, hx1, hy1, r1, p0, p1, hrd, ekd, u_page, hpq, b0, b1, b2, b3, urow_size, r2, urow_at, Int.toNat_natCast, wrap_w64, wi, u_putpg, pa1, pa2, ww, z1, z2, z3, ↓D0, ↓D1, ↓D2, ↓D3, ↓D4, ↓D5, ↓D6, ↓D7, ↓D8, ↓D9, U0, U1, U2, U3, U4, U5, U6, U7, U8, U9, U10, ↓reduceIte, Nat.reduceAdd, Nat.reduceMul, Nat.reduceSub, Nat.reduceEqDiff, Nat.reduceBEq, Nat.reduceLeDiff, Nat.reduceLT, Int.reduceAdd, Int.reduceMul, Int.reduceSub, Int.reduceLT, Int.reduceLE, Int.reduceToNat, Int.reduceEq, Int.reduceNe, Int.reduceBEq, Int.reduceBNe, ne_eq, eq_self]
          exact ⟨⟨q + 1, by omega, by simp [gt, wi], by simp [gt, e8], by simp [gt, e13], by simp [gt, e17], ⟨by simp [gt, e0], by simp [gt, e5], by simp [gt, e6], by simp [gt, e7]⟩, hS⟩, by simp [gt, iv, e18, wi]; omega⟩
      · cases qa
    have hqp : q = p := by omega
    subst hqp
    have d3 : decide ((q : Int) < (q : Int)) = false := decide_eq_false (by omega)
    simp only [e18, e8, e13, e17, e0, e5, e6, e7, hx1, r0, r1, d3, ↓D0, ↓D1, ↓D2, ↓D3, ↓D4, ↓D5, ↓D6, ↓D7, ↓D8, ↓D9, U0, U1, U2, U3, U4, U5, U6, U7, U8, U9, U10, ↓reduceIte, Nat.reduceAdd, Nat.reduceMul, Nat.reduceSub, Nat.reduceEqDiff, Nat.reduceBEq, Nat.reduceLeDiff, Nat.reduceLT, Int.reduceAdd, Int.reduceMul, Int.reduceSub, Int.reduceLT, Int.reduceLE, Int.reduceToNat, Int.reduceEq, Int.reduceNe, Int.reduceBEq, Int.reduceBNe, ne_eq, eq_self]
    exact hS.tail.tail.tail.tail
end
theorem l_runrows {W : World} {m cap : Nat} {a : Option Addr} {ks : Nat → Int} (hm : m ≤ 9223372036854775807) (hr : RowV (memOf W) a m (fun i => .int .u8 (ks i))) (hk : ∀ i, i < m → IntKind.u8.has (ks i)) (g : Int) (hg : 0 ≤ g ∧ g ≤ 255) :
    CallP Try.prog W 3 #[.slice a m cap, .int .u8 g] (memOf W) fun v H' => v = .bool true ∧ Sub (memOf W) H' :=
  (c_runrows hg.1 hg.2 hm hr (fun i hi => u8_bd (hk i hi)) (Sep.one _)).mono fun v H' ⟨h1, h2⟩ => ⟨h1, h2.head⟩
end Go.Proofs.Ytbehnodllajnjaa
