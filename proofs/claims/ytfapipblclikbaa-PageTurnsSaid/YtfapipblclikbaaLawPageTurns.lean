/-
  PageTurns, walked: who is the only one left goes on as it would alone. Conditions: none.
-/
import Derived.Test.YtfapipblclikbaaLawPageTwo
set_option linter.unusedVariables false
set_option linter.unusedSimpArgs false
set_option maxRecDepth 8000
namespace Go.Proofs.Ytfapipblclikbaa
open Go Go.Ev Go.Pl Go.Ma

section
variable {W : World} {H h : Hp} {l : List Hp}

def tuG (f nn : Int) (z x b kb : Nat) (F' : Fr) : Prop := gt F' 5 = .pointer (some ⟨z, 0, none⟩) ∧ gt F' 7 = .pointer (some ⟨x, 0, none⟩) ∧ gt F' 8 = .pointer (some ⟨b, 0, none⟩) ∧ gt F' 9 = .int .i64 f ∧ gt F' 10 = .pointer (some ⟨kb, 0, none⟩) ∧ gt F' 11 = .int .i64 nn
def tuO (sh : Sh) (f1 f nn : Int) (b1 : Pc) (z x b kb s : Nat) (L : List Hp) (F' : Fr) (H' : Hp) : Prop :=
  ∃ (i : Int) (w : Wd), 0 ≤ i ∧ i ≤ nn ∧ gt F' 12 = .int .i64 i ∧ tuG f nn z x b kb F' ∧ Turned sh f1 i w ∧ w.of sh ∧ Sep (pcB kb b1 :: wB b s w :: wR s w :: L) H'
def tuA (sh : Sh) (f1 f nn i : Int) (b1 : Pc) (w0 : Wd) (z x b kb ka s : Nat) (L : List Hp) (F' : Fr) (H' : Hp) : Prop :=
  ∃ (j : Int) (t : Pc) (w : Wd), 0 ≤ j ∧ j ≤ 2 * sh.p + 2 ∧ gt F' 14 = .int .i64 j ∧ gt F' 12 = .int .i64 i ∧ gt F' 13 = .pointer (some ⟨ka, 0, none⟩) ∧ tuG f nn z x b kb F' ∧ Pc.Al sh 0 f1 w0 t w ∧ w.of sh ∧ t.left ≤ max 0 (2 * sh.p - j) ∧ Sep (pcB ka t :: wB b s w :: wR s w :: pcB kb b1 :: L) H'
def tuB (sh : Sh) (f nn : Int) (w0 : Wd) (z x b kb s : Nat) (L : List Hp) (F' : Fr) (H' : Hp) : Prop :=
  ∃ (j : Int) (t : Pc) (w : Wd), 0 ≤ j ∧ j ≤ 2 * sh.p + 2 ∧ gt F' 17 = .int .i64 j ∧ tuG f nn z x b kb F' ∧ Pc.Al sh 1 f w0 t w ∧ w.of sh ∧ t.left ≤ max 0 (2 * sh.p - j) ∧ Sep (pcB kb t :: wB b s w :: wR s w :: L) H'
theorem c_pageturns {pp q g0 g1 : Int} (hp0 : 0 ≤ pp) (hp1 : pp ≤ 255) (hq0 : 0 ≤ q) (hq1 : q ≤ 255) (hg0 : 0 ≤ g0) (hg1 : g0 ≤ 255) (hk0 : 0 ≤ g1) (hk1 : g1 ≤ 255) (hS : Sep l H) :
    CallP Try.prog W 10 #[.int .u8 pp, .int .u8 q, .agg #[.int .u8 g0, .int .u8 g1]] H fun v H' => v = .bool true ∧ Sep l H' := by
  refine CallP.of mixed Try.func10 tr10 (by show 3 ≤ _; decide) fun W _ => ?_
  simp only [↓D0, ↓D1, ↓D2, ↓D3, ↓D4, ↓D5, ↓D6, ↓D7, ↓D8, ↓D9, U0, U1, U2, U3, U4, U5, U6, U7, U8, U9, U10, ↓reduceIte, Nat.reduceAdd, Nat.reduceMul, Nat.reduceSub, Nat.reduceEqDiff, Nat.reduceBEq, Nat.reduceLeDiff, Nat.reduceLT, Int.reduceAdd, Int.reduceMul, Int.reduceSub, Int.reduceLT, Int.reduceLE, Int.reduceToNat, Int.reduceEq, Int.reduceNe, Int.reduceBEq, Int.reduceBNe, ne_eq, eq_self]
  refine newB_intro fun z hz f1 f2 => ?_
  have hS := (hS.new f1 (.cells #[.int .u8 g0, .int .u8 g1] 54 (0, 0)))
  simp only [↓D0, ↓D1, ↓D2, ↓D3, ↓D4, ↓D5, ↓D6, ↓D7, ↓D8, ↓D9, U0, U1, U2, U3, U4, U5, U6, U7, U8, U9, U10, ↓reduceIte, Nat.reduceAdd, Nat.reduceMul, Nat.reduceSub, Nat.reduceEqDiff, Nat.reduceBEq, Nat.reduceLeDiff, Nat.reduceLT, Int.reduceAdd, Int.reduceMul, Int.reduceSub, Int.reduceLT, Int.reduceLE, Int.reduceToNat, Int.reduceEq, Int.reduceNe, Int.reduceBEq, Int.reduceBNe, ne_eq, eq_self]
  refine callT_of (c_awake10 hS) ?_
  rintro v H' ⟨rfl, hS⟩
  have ew : w64 pp = pp := w64_eq (by omega) (by omega)
  have em : pp.tmod 10 = pp % 10 := Int.tmod_eq_emod_of_nonneg hp0
  obtain ⟨p, hp⟩ : ∃ p, 1 + pp % 10 = p := ⟨_, rfl⟩
  have pb : 1 ≤ p ∧ p ≤ 10 := by omega
  have ea : w64 p = p := w64_eq (by omega) (by omega)
  have ew2 : w64 (pp % 10) = pp % 10 := w64_eq (by omega) (by omega)
  simp only [ew, em, wrap_w64, ew2, ea, hp, ↓D0, ↓D1, ↓D2, ↓D3, ↓D4, ↓D5, ↓D6, ↓D7, ↓D8, ↓D9, U0, U1, U2, U3, U4, U5, U6, U7, U8, U9, U10, ↓reduceIte, Nat.reduceAdd, Nat.reduceMul, Nat.reduceSub, Nat.reduceEqDiff, Nat.reduceBEq, Nat.reduceLeDiff, Nat.reduceLT, Int.reduceAdd, Int.reduceMul, Int.reduceSub, Int.reduceLT, Int.reduceLE, Int.reduceToNat, Int.reduceEq, Int.reduceNe, Int.reduceBEq, Int.reduceBNe, ne_eq, eq_self]
  refine newB_intro fun x hx f3 f4 => ?_
  simp only [↓D0, ↓D1, ↓D2, ↓D3, ↓D4, ↓D5, ↓D6, ↓D7, ↓D8, ↓D9, U0, U1, U2, U3, U4, U5, U6, U7, U8, U9, U10, ↓reduceIte, Nat.reduceAdd, Nat.reduceMul, Nat.reduceSub, Nat.reduceEqDiff, Nat.reduceBEq, Nat.reduceLeDiff, Nat.reduceLT, Int.reduceAdd, Int.reduceMul, Int.reduceSub, Int.reduceLT, Int.reduceLE, Int.reduceToNat, Int.reduceEq, Int.reduceNe, Int.reduceBEq, Int.reduceBNe, ne_eq, eq_self]
  have hm : may p 2 0 = true := (may_iff _ _ _).2 (by omega)
  obtain ⟨N, hN⟩ : ∃ N : Nat, words p 2 0 = (N : Int) := ⟨(words p 2 0).toNat, by have := words_le hm; omega⟩
  have hNb := words_le hm
  have hN2 : N ≤ 2000 := by omega
  have hS := hS.new f3 (.cells #[.int .i64 0, .int .i64 0, .int .i64 0] 57 (0, 0))
  have hS := hS.set (.cells #[.int .i64 p, .int .i64 2, .int .i64 0] 57 (0, 0))
  rw [Ev.upd_upd] at hS
  have hx1 := hS.look
  have r1 := fun o n => rdn_of hx1 o n
  have n0 : (0 : Int) ≤ (N : Int) := by omega
  have n8 : 8 * (N : Int) ≤ 281474976710656 := by omega
  have n9 : (N : Int) ≤ 9223372036854775807 := by omega
  have nle : (N : Int) ≤ (N : Int) := Int.le_refl _
  simp only [Ev.upd_upd, hx1, r1, u_words, hN, n0, n8, n9, nle, Int.toNat_natCast, ↓D0, ↓D1, ↓D2, ↓D3, ↓D4, ↓D5, ↓D6, ↓D7, ↓D8, ↓D9, U0, U1, U2, U3, U4, U5, U6, U7, U8, U9, U10, ↓reduceIte, Nat.reduceAdd, Nat.reduceMul, Nat.reduceSub, Nat.reduceEqDiff, Nat.reduceBEq, Nat.reduceLeDiff, Nat.reduceLT, Int.reduceAdd, Int.reduceMul, Int.reduceSub, Int.reduceLT, Int.reduceLE, Int.reduceToNat, Int.reduceEq, Int.reduceNe, Int.reduceBEq, Int.reduceBNe, ne_eq, eq_self]
  refine newB_intro fun y hy f5 f6 => ?_
  have hS := hS.new f5 (.cells (urow N fun _ => 0) 26 (0, 0))
  simp only [urow_zero, urow_size, ↓D0, ↓D1, ↓D2, ↓D3, ↓D4, ↓D5, ↓D6, ↓D7, ↓D8, ↓D9, U0, U1, U2, U3, U4, U5, U6, U7, U8, U9, U10, ↓reduceIte, Nat.reduceAdd, Nat.reduceMul, Nat.reduceSub, Nat.reduceEqDiff, Nat.reduceBEq, Nat.reduceLeDiff, Nat.reduceLT, Int.reduceAdd, Int.reduceMul, Int.reduceSub, Int.reduceLT, Int.reduceLE, Int.reduceToNat, Int.reduceEq, Int.reduceNe, Int.reduceBEq, Int.reduceBNe, ne_eq, eq_self]
  refine callT_of (c_fill (n := N) hN2 (RowU.own y N _ _ _) hS) ?_
  rintro v H' ⟨b, s, rfl, hS⟩
  have hS := hS.p2.tail
  have hx1 := hS.lk 2 rfl
  have hz1 := hS.lk 3 rfl
  have r1 := fun o n => rdn_of hx1 o n
  have r0 := fun o => rd_of hx1 o
  have r2 := fun o => rd_of hz1 o
  have i0 : (0 : Int) < ((2 : Nat) : Int) := by decide
  have i1 : (1 : Int) < ((2 : Nat) : Int) := by decide
  have eg0 : w64 g0 = g0 := w64_eq (by omega) (by omega)
  have eg1 : w64 g1 = g1 := w64_eq (by omega) (by omega)
  have et0 : g0.tmod p = g0 % p := Int.tmod_eq_emod_of_nonneg hg0
  have et1 : g1.tmod p = g1 % p := Int.tmod_eq_emod_of_nonneg hk0
  have p0 : (p = 0) = False := eq_false (by omega)
  have md0 := mod_bd (a := g0) (p := p) (by omega)
  have md1 := mod_bd (a := g1) (p := p) (by omega)
  have mdq := mod_bd (a := q) (p := p + 1) (by omega)
  have wq0 : w64 (g0 % p) = g0 % p := w64_eq (by omega) (by omega)
  have wq1 : w64 (g1 % p) = g1 % p := w64_eq (by omega) (by omega)
  have eq' : w64 q = q := w64_eq (by omega) (by omega)
  have wp1 : w64 (p + 1) = p + 1 := w64_eq (by omega) (by omega)
  have p10 : (p + 1 = 0) = False := eq_false (by omega)
  have etq : q.tmod (p + 1) = q % (p + 1) := Int.tmod_eq_emod_of_nonneg hq0
  have wqq : w64 (q % (p + 1)) = q % (p + 1) := w64_eq (by omega) (by omega)
  obtain ⟨f, hf⟩ : ∃ f, g1 % p = f := ⟨_, rfl⟩
  obtain ⟨f', hf'⟩ : ∃ f, g0 % p = f := ⟨_, rfl⟩
  obtain ⟨nn, hnn⟩ : ∃ f, q % (p + 1) = f := ⟨_, rfl⟩
  rw [hf] at md1 wq1
  rw [hf'] at md0 wq0
  rw [hnn] at mdq wqq
  simp only [hx1, hz1, r0, r1, r2, i0, i1, eg1, et1, p0, wrap_w64, hf, wq1, ↓D0, ↓D1, ↓D2, ↓D3, ↓D4, ↓D5, ↓D6, ↓D7, ↓D8, ↓D9, U0, U1, U2, U3, U4, U5, U6, U7, U8, U9, U10, ↓reduceIte, Nat.reduceAdd, Nat.reduceMul, Nat.reduceSub, Nat.reduceEqDiff, Nat.reduceBEq, Nat.reduceLeDiff, Nat.reduceLT, Int.reduceAdd, Int.reduceMul, Int.reduceSub, Int.reduceLT, Int.reduceLE, Int.reduceToNat, Int.reduceEq, Int.reduceNe, Int.reduceBEq, Int.reduceBNe, ne_eq, eq_self]
  refine callT_of (c_pcnew (sh := ⟨p, 2, 0⟩) hS) ?_
  rintro v H' ⟨kb, rfl, hS⟩
  have hx1 := hS.lk 3 rfl
  have r0 := fun o => rd_of hx1 o
  simp only [hx1, r0, eq', wp1, p10, etq, hnn, wqq, wrap_w64, ↓D0, ↓D1, ↓D2, ↓D3, ↓D4, ↓D5, ↓D6, ↓D7, ↓D8, ↓D9, U0, U1, U2, U3, U4, U5, U6, U7, U8, U9, U10, ↓reduceIte, Nat.reduceAdd, Nat.reduceMul, Nat.reduceSub, Nat.reduceEqDiff, Nat.reduceBEq, Nat.reduceLeDiff, Nat.reduceLT, Int.reduceAdd, Int.reduceMul, Int.reduceSub, Int.reduceLT, Int.reduceLE, Int.reduceToNat, Int.reduceEq, Int.reduceNe, Int.reduceBEq, Int.reduceBNe, ne_eq, eq_self]
  have hof : (rowW N fun _ => 0).of ⟨p, 2, 0⟩ := rowW_of hN.symm fun _ _ => U_0
  have hnd : (Pc.new ⟨p, 2, 0⟩ 1 f).dn = false := Pc.new_dn (s := ⟨p, 2, 0⟩) hm (by decide) (by show (1 : Int) < 2; decide) md1.1 md1.2
  have hzero : ∀ q, (rowW N fun _ => 0).get q = 0 := fun q => by show (if _ then _ else _) = _; split <;> rfl
  refine callT_of (c_pcstep (Pc.new_wf ⟨p, 2, 0⟩ 1 f) (fun _ => hof) hS) ?_
  rintro v H' ⟨rfl, hS⟩
  obtain ⟨b1, w1, hb1, hw1⟩ : ∃ b1 w1, b1 = ((Pc.new ⟨p, 2, 0⟩ 1 f).step (rowW N fun _ => 0)).1 ∧ w1 = ((Pc.new ⟨p, 2, 0⟩ 1 f).step (rowW N fun _ => 0)).2 := ⟨_, _, rfl, rfl⟩
  have hof1 : w1.of ⟨p, 2, 0⟩ := by rw [hw1]; exact Pc.step_of hof
  have hwf1 : b1.wf := by rw [hb1]; exact Pc.step_wf (Pc.new_wf ⟨p, 2, 0⟩ 1 f)
  have hs1 : b1.s = ⟨p, 2, 0⟩ := by rw [hb1]; exact Pc.step_s
  have hc1 : b1.c = 1 := by rw [hb1]; exact Pc.step_c
  have hf1 : b1.f = f := by rw [hb1]; exact Pc.step_f
  have hst : b1.dn = false ∧ b1.fd = false ∧ b1.many = 0 ∧ ∀ q, w1.get q = 0 := by
    rcases Pc.step_cases (Pc.new ⟨p, 2, 0⟩ 1 f) (rowW N fun _ => 0) with ⟨hd, e⟩ | ⟨hd, ⟨he, hz, e⟩ | ⟨he, hz, e⟩ | ⟨he, hz, e⟩ | ⟨he, hz, e⟩⟩
    · rw [hnd] at hd; cases hd
    · cases he
    · cases he
    · rw [e] at hb1 hw1
      subst hb1; subst hw1
      exact ⟨hnd, rfl, rfl, hzero⟩
    · exact absurd (hzero _) hz
  obtain ⟨hd1, hfd1, hm1, hz1'⟩ := hst
  rw [← hb1, ← hw1] at hS
  simp only [↓D0, ↓D1, ↓D2, ↓D3, ↓D4, ↓D5, ↓D6, ↓D7, ↓D8, ↓D9, U0, U1, U2, U3, U4, U5, U6, U7, U8, U9, U10, ↓reduceIte, Nat.reduceAdd, Nat.reduceMul, Nat.reduceSub, Nat.reduceEqDiff, Nat.reduceBEq, Nat.reduceLeDiff, Nat.reduceLT, Int.reduceAdd, Int.reduceMul, Int.reduceSub, Int.reduceLT, Int.reduceLE, Int.reduceToNat, Int.reduceEq, Int.reduceNe, Int.reduceBEq, Int.reduceBNe, ne_eq, eq_self]
  have hT0 : Turned ⟨p, 2, 0⟩ f' 0 w1 := fun j j0 j1 => by rw [hz1', if_neg (by omega)]
  refine loop_intro (tuO ⟨p, 2, 0⟩ f' f nn b1 z x b kb s (sg x (.cells #[.int .i64 p, .int .i64 2, .int .i64 0] 57 (0, 0)) :: sg z (.cells #[.int .u8 g0, .int .u8 g1] 54 (0, 0)) :: l)) (fun F' _ => (nn - iv (gt F' 12)).toNat)
    ⟨0, w1, by omega, by omega, rfl, ⟨rfl, rfl, rfl, rfl, rfl, rfl⟩, hT0, hof1, hS⟩ ?_
  rintro F' H' ⟨i, w, h0, h1, e12, ⟨e5, e7, e8, e9, e10, e11⟩, hT, hofw, hS⟩
  have hx1 := hS.lk 3 rfl
  have hz1 := hS.lk 4 rfl
  have r1 := fun o n => rdn_of hx1 o n
  have r0 := fun o => rd_of hx1 o
  have r2 := fun o => rd_of hz1 o
  have nxz := hS.neq 3 4 (by decide) rfl rfl
  have nzx := hS.qen 3 4 (by decide) rfl rfl
  have wm1 : w64 (2 * p) = 2 * p := w64_eq (by omega) (by omega)
  have wm2 : w64 (2 * p + 2) = 2 * p + 2 := w64_eq (by omega) (by omega)
  by_cases hlt : i < nn
  · have d1 : decide (i < nn) = true := decide_eq_true hlt
    have wi : w64 (i + 1) = i + 1 := w64_eq (by omega) (by omega)
    simp only [e12, e5, e7, e8, e9, e10, e11, d1, ↓D0, ↓D1, ↓D2, ↓D3, ↓D4, ↓D5, ↓D6, ↓D7, ↓D8, ↓D9, U0, U1, U2, U3, U4, U5, U6, U7, U8, U9, U10, ↓reduceIte, Nat.reduceAdd, Nat.reduceMul, Nat.reduceSub, Nat.reduceEqDiff, Nat.reduceBEq, Nat.reduceLeDiff, Nat.reduceLT, Int.reduceAdd, Int.reduceMul, Int.reduceSub, Int.reduceLT, Int.reduceLE, Int.reduceToNat, Int.reduceEq, Int.reduceNe, Int.reduceBEq, Int.reduceBNe, ne_eq, eq_self]
    refine draw_intro [(x, #[.int .i64 p, .int .i64 2, .int .i64 0], []), (z, #[.int .u8 g0, .int .u8 g1], [])] (by simp only [hx1, hz1, ↓D0, ↓D1, ↓D2, ↓D3, ↓D4, ↓D5, ↓D6, ↓D7, ↓D8, ↓D9, U0, U1, U2, U3, U4, U5, U6, U7, U8, U9, U10, ↓reduceIte, Nat.reduceAdd, Nat.reduceMul, Nat.reduceSub, Nat.reduceEqDiff, Nat.reduceBEq, Nat.reduceLeDiff, Nat.reduceLT, Int.reduceAdd, Int.reduceMul, Int.reduceSub, Int.reduceLT, Int.reduceLE, Int.reduceToNat, Int.reduceEq, Int.reduceNe, Int.reduceBEq, Int.reduceBNe, ne_eq, eq_self]) ?_
    simp only [e12, e5, e7, e8, e9, e10, e11, hx1, hz1, r0, r1, r2, i0, i1, nxz, nzx, eg0, et0, p0, wrap_w64, hf', wq0, ↓D0, ↓D1, ↓D2, ↓D3, ↓D4, ↓D5, ↓D6, ↓D7, ↓D8, ↓D9, U0, U1, U2, U3, U4, U5, U6, U7, U8, U9, U10, ↓reduceIte, Nat.reduceAdd, Nat.reduceMul, Nat.reduceSub, Nat.reduceEqDiff, Nat.reduceBEq, Nat.reduceLeDiff, Nat.reduceLT, Int.reduceAdd, Int.reduceMul, Int.reduceSub, Int.reduceLT, Int.reduceLE, Int.reduceToNat, Int.reduceEq, Int.reduceNe, Int.reduceBEq, Int.reduceBNe, ne_eq, eq_self]
    refine callT_of (c_pcnew (sh := ⟨p, 2, 0⟩) hS) ?_
    rintro v H' ⟨ka, rfl, hS⟩
    have hx1 := hS.lk 4 rfl
    have hz1 := hS.lk 5 rfl
    simp only [e12, e5, e7, e8, e9, e10, e11, hx1, hz1, ↓D0, ↓D1, ↓D2, ↓D3, ↓D4, ↓D5, ↓D6, ↓D7, ↓D8, ↓D9, U0, U1, U2, U3, U4, U5, U6, U7, U8, U9, U10, ↓reduceIte, Nat.reduceAdd, Nat.reduceMul, Nat.reduceSub, Nat.reduceEqDiff, Nat.reduceBEq, Nat.reduceLeDiff, Nat.reduceLT, Int.reduceAdd, Int.reduceMul, Int.reduceSub, Int.reduceLT, Int.reduceLE, Int.reduceToNat, Int.reduceEq, Int.reduceNe, Int.reduceBEq, Int.reduceBNe, ne_eq, eq_self]
    have hnd : (Pc.new ⟨p, 2, 0⟩ 0 f').dn = false := Pc.new_dn (s := ⟨p, 2, 0⟩) hm (by decide) (by show (0 : Int) < 2; decide) md0.1 md0.2
    have hll := Pc.left_le (Pc.new_wf ⟨p, 2, 0⟩ 0 f') (by show 0 ≤ p; omega)
    have hll : (Pc.new ⟨p, 2, 0⟩ 0 f').left ≤ 2 * p := hll
    refine loop_intro (tuA ⟨p, 2, 0⟩ f' f nn i b1 w z x b kb ka s (sg x (.cells #[.int .i64 p, .int .i64 2, .int .i64 0] 57 (0, 0)) :: sg z (.cells #[.int .u8 g0, .int .u8 g1] 54 (0, 0)) :: l)) (fun F' _ => (2 * p + 2 - iv (gt F' 14)).toNat)
      ⟨0, _, w, by omega, by show (0 : Int) ≤ 2 * p + 2; omega, rfl, by simp [gt, e12], by simp [gt], ⟨by simp [gt, e5], by simp [gt, e7], by simp [gt, e8], by simp [gt, e9], by simp [gt, e10], by simp [gt, e11]⟩, Pc.Al.start (Pc.new_wf ⟨p, 2, 0⟩ 0 f') hnd rfl rfl, hofw, by show _ ≤ max 0 (2 * p - 0); omega, hS.p1.r3⟩ ?_
    rintro F2 H2 ⟨j, t, w2, j0, j1, e14, e12b, e13, ⟨e5, e7, e8, e9, e10, e11⟩, hA, hof2, hlf, hS⟩
    have j1 : j ≤ 2 * p + 2 := j1
    have hlf : t.left ≤ max 0 (2 * p - j) := hlf
    have hx1 := hS.lk 4 rfl
    have r0 := fun o => rd_of hx1 o
    by_cases hlt2 : j < 2 * p + 2
    · have d1 : decide (j < 2 * p + 2) = true := decide_eq_true hlt2
      have wj : w64 (j + 1) = j + 1 := w64_eq (by omega) (by omega)
      simp only [e14, e12b, e13, e5, e7, e8, e9, e10, e11, d1, hx1, r0, wrap_w64, wm1, wm2, ↓D0, ↓D1, ↓D2, ↓D3, ↓D4, ↓D5, ↓D6, ↓D7, ↓D8, ↓D9, U0, U1, U2, U3, U4, U5, U6, U7, U8, U9, U10, ↓reduceIte, Nat.reduceAdd, Nat.reduceMul, Nat.reduceSub, Nat.reduceEqDiff, Nat.reduceBEq, Nat.reduceLeDiff, Nat.reduceLT, Int.reduceAdd, Int.reduceMul, Int.reduceSub, Int.reduceLT, Int.reduceLE, Int.reduceToNat, Int.reduceEq, Int.reduceNe, Int.reduceBEq, Int.reduceBNe, ne_eq, eq_self]
      refine callT_of (c_pcstep hA.wf (fun _ => by rw [hA.hs]; exact hof2) hS) ?_
      rintro v H' ⟨rfl, hS⟩
      simp only [e14, e12b, e13, e5, e7, e8, e9, e10, e11, wrap_w64, wj, ↓D0, ↓D1, ↓D2, ↓D3, ↓D4, ↓D5, ↓D6, ↓D7, ↓D8, ↓D9, U0, U1, U2, U3, U4, U5, U6, U7, U8, U9, U10, ↓reduceIte, Nat.reduceAdd, Nat.reduceMul, Nat.reduceSub, Nat.reduceEqDiff, Nat.reduceBEq, Nat.reduceLeDiff, Nat.reduceLT, Int.reduceAdd, Int.reduceMul, Int.reduceSub, Int.reduceLT, Int.reduceLE, Int.reduceToNat, Int.reduceEq, Int.reduceNe, Int.reduceBEq, Int.reduceBNe, ne_eq, eq_self]
      refine ⟨⟨j + 1, _, _, by omega, by show j + 1 ≤ 2 * p + 2; omega, by simp [gt], by simp [gt, e12b], by simp [gt, e13], ⟨by simp [gt, e5], by simp [gt, e7], by simp [gt, e8], by simp [gt, e9], by simp [gt, e10], by simp [gt, e11]⟩, hA.step, Pc.step_of hof2, ?_, hS⟩, by simp [gt, iv, e14]; omega⟩
      have := pt_left (w := w2) hA.wf hlf
      show _ ≤ max 0 (2 * p - (j + 1)); omega
    have d1 : decide (j < 2 * p + 2) = false := decide_eq_false hlt2
    have hd : t.dn = true := Pc.left_dn hA.wf (by have := Pc.left_nn hA.wf; omega)
    obtain ⟨hfd, hT2⟩ := hT.next hA hd hm h0 (by show i < p; omega)
    simp only [e14, e12b, e13, e5, e7, e8, e9, e10, e11, d1, hx1, r0, wrap_w64, wm1, wm2, ↓D0, ↓D1, ↓D2, ↓D3, ↓D4, ↓D5, ↓D6, ↓D7, ↓D8, ↓D9, U0, U1, U2, U3, U4, U5, U6, U7, U8, U9, U10, ↓reduceIte, Nat.reduceAdd, Nat.reduceMul, Nat.reduceSub, Nat.reduceEqDiff, Nat.reduceBEq, Nat.reduceLeDiff, Nat.reduceLT, Int.reduceAdd, Int.reduceMul, Int.reduceSub, Int.reduceLT, Int.reduceLE, Int.reduceToNat, Int.reduceEq, Int.reduceNe, Int.reduceBEq, Int.reduceBNe, ne_eq, eq_self]
    refine callT_of (c_pcfound (fun _ => ⟨by rw [hA.hs]; show 0 < p; omega, by rw [hA.hf]; have := hA.many; omega, by rw [hA.hf]; have h9 : t.many ≤ p := hA.many.2; omega⟩) hS) ?_
    rintro v H' ⟨rfl, hS⟩
    simp only [e14, e12b, e13, e5, e7, e8, e9, e10, e11, hfd, wrap_w64, wi, ↓D0, ↓D1, ↓D2, ↓D3, ↓D4, ↓D5, ↓D6, ↓D7, ↓D8, ↓D9, U0, U1, U2, U3, U4, U5, U6, U7, U8, U9, U10, ↓reduceIte, Nat.reduceAdd, Nat.reduceMul, Nat.reduceSub, Nat.reduceEqDiff, Nat.reduceBEq, Nat.reduceLeDiff, Nat.reduceLT, Int.reduceAdd, Int.reduceMul, Int.reduceSub, Int.reduceLT, Int.reduceLE, Int.reduceToNat, Int.reduceEq, Int.reduceNe, Int.reduceBEq, Int.reduceBNe, ne_eq, eq_self]
    exact ⟨⟨i + 1, w2, by omega, by omega, by simp [gt], ⟨by simp [gt, e5], by simp [gt, e7], by simp [gt, e8], by simp [gt, e9], by simp [gt, e10], by simp [gt, e11]⟩, hT2, hof2, hS.tail.p2⟩, by simp [gt, iv, e12, e12b]; omega⟩
  have hin : i = nn := by omega
  have d1 : decide (i < nn) = false := decide_eq_false hlt
  rw [hin] at hT
  simp only [e12, e5, e7, e8, e9, e10, e11, d1, ↓D0, ↓D1, ↓D2, ↓D3, ↓D4, ↓D5, ↓D6, ↓D7, ↓D8, ↓D9, U0, U1, U2, U3, U4, U5, U6, U7, U8, U9, U10, ↓reduceIte, Nat.reduceAdd, Nat.reduceMul, Nat.reduceSub, Nat.reduceEqDiff, Nat.reduceBEq, Nat.reduceLeDiff, Nat.reduceLT, Int.reduceAdd, Int.reduceMul, Int.reduceSub, Int.reduceLT, Int.reduceLE, Int.reduceToNat, Int.reduceEq, Int.reduceNe, Int.reduceBEq, Int.reduceBNe, ne_eq, eq_self]
  have hA0 := Pc.Al.start (w := w) hwf1 hd1 hfd1 hm1
  rw [hs1, hc1, hf1] at hA0
  have hll := Pc.left_le hwf1 (by rw [hs1]; show 0 ≤ p; omega)
  rw [hs1] at hll
  have hll : b1.left ≤ 2 * p := hll
  refine loop_intro (tuB ⟨p, 2, 0⟩ f nn w z x b kb s (sg x (.cells #[.int .i64 p, .int .i64 2, .int .i64 0] 57 (0, 0)) :: sg z (.cells #[.int .u8 g0, .int .u8 g1] 54 (0, 0)) :: l)) (fun F' _ => (2 * p + 2 - iv (gt F' 17)).toNat)
    ⟨0, b1, w, by omega, by show (0 : Int) ≤ 2 * p + 2; omega, rfl, ⟨by simp [gt, e5], by simp [gt, e7], by simp [gt, e8], by simp [gt, e9], by simp [gt, e10], by simp [gt, e11]⟩, hA0, hofw, by show _ ≤ max 0 (2 * p - 0); omega, hS⟩ ?_
  rintro F2 H2 ⟨j, t, w2, j0, j1, e17, ⟨e5, e7, e8, e9, e10, e11⟩, hA, hof2, hlf, hS⟩
  have j1 : j ≤ 2 * p + 2 := j1
  have hlf : t.left ≤ max 0 (2 * p - j) := hlf
  have hx1 := hS.lk 3 rfl
  have r0 := fun o => rd_of hx1 o
  by_cases hlt2 : j < 2 * p + 2
  · have d1 : decide (j < 2 * p + 2) = true := decide_eq_true hlt2
    have wj : w64 (j + 1) = j + 1 := w64_eq (by omega) (by omega)
    simp only [e17, e5, e7, e8, e9, e10, e11, d1, hx1, r0, wrap_w64, wm1, wm2, ↓D0, ↓D1, ↓D2, ↓D3, ↓D4, ↓D5, ↓D6, ↓D7, ↓D8, ↓D9, U0, U1, U2, U3, U4, U5, U6, U7, U8, U9, U10, ↓reduceIte, Nat.reduceAdd, Nat.reduceMul, Nat.reduceSub, Nat.reduceEqDiff, Nat.reduceBEq, Nat.reduceLeDiff, Nat.reduceLT, Int.reduceAdd, Int.reduceMul, Int.reduceSub, Int.reduceLT, Int.reduceLE, Int.reduceToNat, Int.reduceEq, Int.reduceNe, Int.reduceBEq, Int.reduceBNe, ne_eq, eq_self]
    refine callT_of (c_pcstep hA.wf (fun _ => by rw [hA.hs]; exact hof2) hS) ?_
    rintro v H' ⟨rfl, hS⟩
    simp only [e17, e5, e7, e8, e9, e10, e11, wrap_w64, wj, ↓D0, ↓D1, ↓D2, ↓D3, ↓D4, ↓D5, ↓D6, ↓D7, ↓D8, ↓D9, U0, U1, U2, U3, U4, U5, U6, U7, U8, U9, U10, ↓reduceIte, Nat.reduceAdd, Nat.reduceMul, Nat.reduceSub, Nat.reduceEqDiff, Nat.reduceBEq, Nat.reduceLeDiff, Nat.reduceLT, Int.reduceAdd, Int.reduceMul, Int.reduceSub, Int.reduceLT, Int.reduceLE, Int.reduceToNat, Int.reduceEq, Int.reduceNe, Int.reduceBEq, Int.reduceBNe, ne_eq, eq_self]
    refine ⟨⟨j + 1, _, _, by omega, by show j + 1 ≤ 2 * p + 2; omega, by simp [gt], ⟨by simp [gt, e5], by simp [gt, e7], by simp [gt, e8], by simp [gt, e9], by simp [gt, e10], by simp [gt, e11]⟩, hA.step, Pc.step_of hof2, ?_, hS⟩, by simp [gt, iv, e17]; omega⟩
    have := pt_left (w := w2) hA.wf hlf
    show _ ≤ max 0 (2 * p - (j + 1)); omega
  have d1 : decide (j < 2 * p + 2) = false := decide_eq_false hlt2
  have hd : t.dn = true := Pc.left_dn hA.wf (by have := Pc.left_nn hA.wf; omega)
  obtain ⟨hfd, hpg⟩ := hT.last hA hd hm (by omega) (by show nn ≤ p; omega) md1.1 md1.2
  have hfd : t.fd = decide (nn < p) := hfd
  have hpg : t.fd = true → t.pg = if (f - f') % p < nn then (f' + nn) % p else f := hpg
  simp only [e17, e5, e7, e8, e9, e10, e11, d1, hx1, r0, wrap_w64, wm1, wm2, ↓D0, ↓D1, ↓D2, ↓D3, ↓D4, ↓D5, ↓D6, ↓D7, ↓D8, ↓D9, U0, U1, U2, U3, U4, U5, U6, U7, U8, U9, U10, ↓reduceIte, Nat.reduceAdd, Nat.reduceMul, Nat.reduceSub, Nat.reduceEqDiff, Nat.reduceBEq, Nat.reduceLeDiff, Nat.reduceLT, Int.reduceAdd, Int.reduceMul, Int.reduceSub, Int.reduceLT, Int.reduceLE, Int.reduceToNat, Int.reduceEq, Int.reduceNe, Int.reduceBEq, Int.reduceBNe, ne_eq, eq_self]
  refine callT_of (c_pcfound (fun _ => ⟨by rw [hA.hs]; show 0 < p; omega, by rw [hA.hf]; have := hA.many; omega, by rw [hA.hf]; have h9 : t.many ≤ p := hA.many.2; omega⟩) hS) ?_
  rintro v H' ⟨rfl, hS⟩
  simp only [e17, e5, e7, e8, e9, e10, e11, ↓D0, ↓D1, ↓D2, ↓D3, ↓D4, ↓D5, ↓D6, ↓D7, ↓D8, ↓D9, U0, U1, U2, U3, U4, U5, U6, U7, U8, U9, U10, ↓reduceIte, Nat.reduceAdd, Nat.reduceMul, Nat.reduceSub, Nat.reduceEqDiff, Nat.reduceBEq, Nat.reduceLeDiff, Nat.reduceLT, Int.reduceAdd, Int.reduceMul, Int.reduceSub, Int.reduceLT, Int.reduceLE, Int.reduceToNat, Int.reduceEq, Int.reduceNe, Int.reduceBEq, Int.reduceBNe, ne_eq, eq_self]
  refine callT_of (c_pcdone hS) ?_
  rintro v H' ⟨rfl, hS⟩
  have hx1 := hS.lk 3 rfl
  have hz1 := hS.lk 4 rfl
  have r1 := fun o n => rdn_of hx1 o n
  have r0 := fun o => rd_of hx1 o
  have r2 := fun o => rd_of hz1 o
  have wd : w64 (f - f') = f - f' := w64_eq (by omega) (by omega)
  have wd2 : w64 (f - f' + p) = f - f' + p := w64_eq (by omega) (by omega)
  have et3 : (f - f' + p).tmod p = (f - f') % p := by rw [Int.tmod_eq_emod_of_nonneg (by omega)]; simp
  have md3 := mod_bd (a := f - f') (p := p) (by omega)
  have wd3 : w64 ((f - f') % p) = (f - f') % p := w64_eq (by omega) (by omega)
  have wd4 : w64 (f' + nn) = f' + nn := w64_eq (by omega) (by omega)
  have et4 : (f' + nn).tmod p = (f' + nn) % p := Int.tmod_eq_emod_of_nonneg (by omega)
  have md4 := mod_bd (a := f' + nn) (p := p) (by omega)
  have wd5 : w64 ((f' + nn) % p) = (f' + nn) % p := w64_eq (by omega) (by omega)
  cases hok : t.fd
  · have hw1 : decide (nn < p) = false := by rw [← hfd, hok]
    by_cases ho : (f - f') % p < nn
    · have d2 : decide ((f - f') % p < nn) = true := decide_eq_true ho
      simp only [e17, e5, e7, e8, e9, e10, e11, hd, hok, hw1, hx1, hz1, r0, r1, r2, i0, i1, eg0, et0, p0, hf', wq0, wd, wd2, et3, wd3, wd4, et4, wd5, d2, wrap_w64, ↓D0, ↓D1, ↓D2, ↓D3, ↓D4, ↓D5, ↓D6, ↓D7, ↓D8, ↓D9, U0, U1, U2, U3, U4, U5, U6, U7, U8, U9, U10, ↓reduceIte, Nat.reduceAdd, Nat.reduceMul, Nat.reduceSub, Nat.reduceEqDiff, Nat.reduceBEq, Nat.reduceLeDiff, Nat.reduceLT, Int.reduceAdd, Int.reduceMul, Int.reduceSub, Int.reduceLT, Int.reduceLE, Int.reduceToNat, Int.reduceEq, Int.reduceNe, Int.reduceBEq, Int.reduceBNe, ne_eq, eq_self]
      exact hS.tail.tail.tail.tail.tail
    · have d2 : decide ((f - f') % p < nn) = false := decide_eq_false ho
      simp only [e17, e5, e7, e8, e9, e10, e11, hd, hok, hw1, hx1, hz1, r0, r1, r2, i0, i1, eg0, et0, p0, hf', wq0, wd, wd2, et3, wd3, wd4, et4, wd5, d2, wrap_w64, ↓D0, ↓D1, ↓D2, ↓D3, ↓D4, ↓D5, ↓D6, ↓D7, ↓D8, ↓D9, U0, U1, U2, U3, U4, U5, U6, U7, U8, U9, U10, ↓reduceIte, Nat.reduceAdd, Nat.reduceMul, Nat.reduceSub, Nat.reduceEqDiff, Nat.reduceBEq, Nat.reduceLeDiff, Nat.reduceLT, Int.reduceAdd, Int.reduceMul, Int.reduceSub, Int.reduceLT, Int.reduceLE, Int.reduceToNat, Int.reduceEq, Int.reduceNe, Int.reduceBEq, Int.reduceBNe, ne_eq, eq_self]
      exact hS.tail.tail.tail.tail.tail
  · have hw1 : decide (nn < p) = true := by rw [← hfd, hok]
    have hpg := hpg hok
    by_cases ho : (f - f') % p < nn
    · have d2 : decide ((f - f') % p < nn) = true := decide_eq_true ho
      rw [if_pos ho] at hpg
      have hb : ((f' + nn) % p == (f' + nn) % p) = true := by simp
      simp only [e17, e5, e7, e8, e9, e10, e11, hd, hok, hpg, hb, hw1, hx1, hz1, r0, r1, r2, i0, i1, eg0, et0, p0, hf', wq0, wd, wd2, et3, wd3, wd4, et4, wd5, d2, wrap_w64, ↓D0, ↓D1, ↓D2, ↓D3, ↓D4, ↓D5, ↓D6, ↓D7, ↓D8, ↓D9, U0, U1, U2, U3, U4, U5, U6, U7, U8, U9, U10, ↓reduceIte, Nat.reduceAdd, Nat.reduceMul, Nat.reduceSub, Nat.reduceEqDiff, Nat.reduceBEq, Nat.reduceLeDiff, Nat.reduceLT, Int.reduceAdd, Int.reduceMul, Int.reduceSub, Int.reduceLT, Int.reduceLE, Int.reduceToNat, Int.reduceEq, Int.reduceNe, Int.reduceBEq, Int.reduceBNe, ne_eq, eq_self]
      exact hS.tail.tail.tail.tail.tail
    · have d2 : decide ((f - f') % p < nn) = false := decide_eq_false ho
      rw [if_neg ho] at hpg
      have hb : (f == f) = true := by simp
      simp only [e17, e5, e7, e8, e9, e10, e11, hd, hok, hpg, hb, hw1, hx1, hz1, r0, r1, r2, i0, i1, eg0, et0, p0, hf', wq0, wd, wd2, et3, wd3, wd4, et4, wd5, d2, wrap_w64, ↓D0, ↓D1, ↓D2, ↓D3, ↓D4, ↓D5, ↓D6, ↓D7, ↓D8, ↓D9, U0, U1, U2, U3, U4, U5, U6, U7, U8, U9, U10, ↓reduceIte, Nat.reduceAdd, Nat.reduceMul, Nat.reduceSub, Nat.reduceEqDiff, Nat.reduceBEq, Nat.reduceLeDiff, Nat.reduceLT, Int.reduceAdd, Int.reduceMul, Int.reduceSub, Int.reduceLT, Int.reduceLE, Int.reduceToNat, Int.reduceEq, Int.reduceNe, Int.reduceBEq, Int.reduceBNe, ne_eq, eq_self]
      exact hS.tail.tail.tail.tail.tail
end

theorem l_pageturns {W : World} (pp : Int) (hp : 0 ≤ pp ∧ pp ≤ 255) (q : Int) (hq : 0 ≤ q ∧ q ≤ 255) (g0 g1 : Int) (hg : 0 ≤ g0 ∧ g0 ≤ 255) (hk : 0 ≤ g1 ∧ g1 ≤ 255) :
    CallP Try.prog W 10 #[.int .u8 pp, .int .u8 q, .agg #[.int .u8 g0, .int .u8 g1]] (memOf W) fun v H' => v = .bool true ∧ Sub (memOf W) H' :=
  (c_pageturns hp.1 hp.2 hq.1 hq.2 hg.1 hg.2 hk.1 hk.2 (Sep.one _)).mono fun v H' ⟨h1, h2⟩ => ⟨h1, h2.head⟩
end Go.Proofs.Ytfapipblclikbaa
