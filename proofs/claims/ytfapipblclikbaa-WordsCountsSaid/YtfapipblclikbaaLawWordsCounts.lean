/-
  WordsCounts, walked: who adds, and who swaps from what it read. Conditions: none.
-/
import Derived.Test.YtfapipblclikbaaWordsK
import Derived.Test.YtfapipblclikbaaFrame
set_option linter.unusedVariables false
set_option linter.unusedSimpArgs false
set_option maxRecDepth 8000
namespace Go.Proofs.Ytfapipblclikbaa
open Go Go.Ev Go.Pl Go.Ma

section
variable {W : World} {H h : Hp} {l : List Hp} {n cap : Nat} {a : Option Addr} {ws : Nat → Int}

def countsI (b s n cap : Nat) (a : Option Addr) (k : Int) (h : Hp) (l : List Hp) (F' : Fr) (H' : Hp) : Prop :=
  ∃ (i : Nat) (w : Wd), i ≤ n ∧ gt F' 8 = .int .i64 (i : Int) ∧ gt F' 0 = .slice a n cap ∧ gt F' 5 = .pointer (some ⟨b, 0, none⟩) ∧ gt F' 6 = .int .i64 k ∧ gt F' 7 = .int .u64 (w.get k) ∧
    w.n = 3 ∧ U (w.get k) ∧ (∀ j : Nat, j < 3 → (j : Int) ≠ k → w.ws j = 0) ∧ w.st = ((i : Int) + 1) / 2 + 3 * ((i : Int) / 2) ∧ Sep (wB b s w :: wR s w :: h :: l) H'
theorem c_wordscounts {at' : Int} (h0 : 0 ≤ at') (h1 : at' ≤ 255) (hn : n ≤ 9223372036854775807) (hr : RowU h a n ws) (hU : ∀ i, i < n → U (ws i)) (hS : Sep (h :: l) H) :
    CallP Try.prog W 3 #[.slice a n cap, .int .u8 at'] H fun v H' => v = .bool true ∧ Sep (h :: l) H' := by
  refine CallP.of mixed Try.func3 tr3 (by show 2 ≤ _; decide) fun W _ => ?_
  simp only [↓D0, ↓D1, ↓D2, ↓D3, ↓D4, ↓D5, ↓D6, ↓D7, ↓D8, ↓D9, U0, U1, U2, U3, U4, U5, U6, U7, U8, U9, U10, ↓reduceIte, Nat.reduceAdd, Nat.reduceMul, Nat.reduceSub, Nat.reduceEqDiff, Nat.reduceBEq, Nat.reduceLeDiff, Nat.reduceLT, Int.reduceAdd, Int.reduceMul, Int.reduceSub, Int.reduceLT, Int.reduceLE, Int.reduceToNat, Int.reduceEq, Int.reduceNe, Int.reduceBEq, Int.reduceBNe, ne_eq, eq_self]
  refine callT_of (c_awake2 hS) ?_
  rintro v H' ⟨rfl, hS⟩
  by_cases hb : (n : Int) > 100
  · have g1 : decide (100 < (n : Int)) = true := decide_eq_true hb
    simp only [g1, ↓D0, ↓D1, ↓D2, ↓D3, ↓D4, ↓D5, ↓D6, ↓D7, ↓D8, ↓D9, U0, U1, U2, U3, U4, U5, U6, U7, U8, U9, U10, ↓reduceIte, Nat.reduceAdd, Nat.reduceMul, Nat.reduceSub, Nat.reduceEqDiff, Nat.reduceBEq, Nat.reduceLeDiff, Nat.reduceLT, Int.reduceAdd, Int.reduceMul, Int.reduceSub, Int.reduceLT, Int.reduceLE, Int.reduceToNat, Int.reduceEq, Int.reduceNe, Int.reduceBEq, Int.reduceBNe, ne_eq, eq_self]
    exact hS
  have g1 : decide (100 < (n : Int)) = false := decide_eq_false hb
  simp only [g1, ↓D0, ↓D1, ↓D2, ↓D3, ↓D4, ↓D5, ↓D6, ↓D7, ↓D8, ↓D9, U0, U1, U2, U3, U4, U5, U6, U7, U8, U9, U10, ↓reduceIte, Nat.reduceAdd, Nat.reduceMul, Nat.reduceSub, Nat.reduceEqDiff, Nat.reduceBEq, Nat.reduceLeDiff, Nat.reduceLT, Int.reduceAdd, Int.reduceMul, Int.reduceSub, Int.reduceLT, Int.reduceLE, Int.reduceToNat, Int.reduceEq, Int.reduceNe, Int.reduceBEq, Int.reduceBNe, ne_eq, eq_self]
  refine callT_of (c_wnew 3 (by decide) hS) ?_
  rintro v H' ⟨b, s, rfl, hS⟩
  have e3 : at'.tmod 3 = at' % 3 := Int.tmod_eq_emod_of_nonneg h0
  have ea : IntKind.i64.wrap at' = at' := w64_eq (by omega) (by omega)
  simp only [e3, ea, ↓D0, ↓D1, ↓D2, ↓D3, ↓D4, ↓D5, ↓D6, ↓D7, ↓D8, ↓D9, U0, U1, U2, U3, U4, U5, U6, U7, U8, U9, U10, ↓reduceIte, Nat.reduceAdd, Nat.reduceMul, Nat.reduceSub, Nat.reduceEqDiff, Nat.reduceBEq, Nat.reduceLeDiff, Nat.reduceLT, Int.reduceAdd, Int.reduceMul, Int.reduceSub, Int.reduceLT, Int.reduceLE, Int.reduceToNat, Int.reduceEq, Int.reduceNe, Int.reduceBEq, Int.reduceBNe, ne_eq, eq_self]
  refine loop_intro (countsI b s n cap a (at' % 3) h l) (fun F' _ => (n - iv (gt F' 8)).toNat) ⟨0, Wd.zero 3, by omega, rfl, rfl, rfl, rfl, rfl, rfl, U_0, fun _ _ _ => rfl, rfl, hS⟩ ?_
  rintro F' H' ⟨i, w, hi, g8, g0, g5, g6, g7, wn, wu', wz, wst, hS⟩
  have k0 : 0 ≤ at' % 3 := Int.emod_nonneg _ (by decide)
  have k1 : at' % 3 < w.n := by rw [wn]; omega
  have wi : w64 ((i : Int) + 1) = ((i + 1 : Nat) : Int) := by rw [w64_eq (by omega) (by omega)]; omega
  by_cases hlt : i < n
  · have d1 : decide ((i : Int) < (n : Int)) = true := decide_eq_true (by omega)
    have d2 : (0 : Int) ≤ (i : Int) := by omega
    have d3 : (i : Int) < (n : Int) := by omega
    have e2 : (i : Int).tmod 2 = (i : Int) % 2 := Int.tmod_eq_emod_of_nonneg d2
    obtain ⟨x, o, rfl, hrd⟩ := (hr.sub (hS.sb h (by simp))).at' hlt
    have s1 : w64 (w.st + 1) = w.st + 1 := w64_eq (by omega) (by omega)
    by_cases hev : (i : Int) % 2 = 0
    · have ev : ((i : Int) % 2 == 0) = true := beq_iff_eq.2 hev
      have hne : (w.get (at' % 3) != w.get (at' % 3)) = false := by simp
      simp only [g8, g0, g5, g6, g7, d1, d2, d3, e2, ev, hrd, Int.toNat_natCast, ↓D0, ↓D1, ↓D2, ↓D3, ↓D4, ↓D5, ↓D6, ↓D7, ↓D8, ↓D9, U0, U1, U2, U3, U4, U5, U6, U7, U8, U9, U10, ↓reduceIte, Nat.reduceAdd, Nat.reduceMul, Nat.reduceSub, Nat.reduceEqDiff, Nat.reduceBEq, Nat.reduceLeDiff, Nat.reduceLT, Int.reduceAdd, Int.reduceMul, Int.reduceSub, Int.reduceLT, Int.reduceLE, Int.reduceToNat, Int.reduceEq, Int.reduceNe, Int.reduceBEq, Int.reduceBNe, ne_eq, eq_self]
      refine callT_of (c_add (i : Int) (at' % 3) (ws i) k0 k1 hS) ?_
      rintro v H' ⟨rfl, hS⟩
      have hrd := hrd
      obtain ⟨x2, o2, hxo, hrd2⟩ := (hr.sub (hS.sb h (by simp))).at' hlt
      cases hxo
      simp only [g8, g0, g5, g6, g7, d1, d2, d3, hne, hrd2, wrap_w64, wi, wrap_wu, Int.toNat_natCast, ↓D0, ↓D1, ↓D2, ↓D3, ↓D4, ↓D5, ↓D6, ↓D7, ↓D8, ↓D9, U0, U1, U2, U3, U4, U5, U6, U7, U8, U9, U10, ↓reduceIte, Nat.reduceAdd, Nat.reduceMul, Nat.reduceSub, Nat.reduceEqDiff, Nat.reduceBEq, Nat.reduceLeDiff, Nat.reduceLT, Int.reduceAdd, Int.reduceMul, Int.reduceSub, Int.reduceLT, Int.reduceLE, Int.reduceToNat, Int.reduceEq, Int.reduceNe, Int.reduceBEq, Int.reduceBNe, ne_eq, eq_self]
      refine ⟨⟨i + 1, w.add (i : Int) (at' % 3) (ws i), by omega, rfl, by simp [gt, g0], by simp [gt, g5], by simp [gt, g6], ?_, wn, ?_, ?_, ?_, hS⟩, by simp [gt, iv, g8]; omega⟩
      · simp [gt, Wd.get, Wd.add]
      · show U (if (at' % 3).toNat = (at' % 3).toNat then _ else _)
        rw [if_pos rfl]; exact U_wu _
      · intro j hj hk
        show (if j = (at' % 3).toNat then _ else w.ws j) = 0
        rw [if_neg (by omega)]; exact wz j hj hk
      · show w64 (w.st + 1) = _
        rw [s1, wst]; omega
    · have ev : ((i : Int) % 2 == 0) = false := beq_eq_false_iff_ne.2 hev
      have hne : (w.get (at' % 3) != w.get (at' % 3)) = false := by simp
      simp only [g8, g0, g5, g6, g7, d1, d2, d3, e2, ev, hrd, Int.toNat_natCast, ↓D0, ↓D1, ↓D2, ↓D3, ↓D4, ↓D5, ↓D6, ↓D7, ↓D8, ↓D9, U0, U1, U2, U3, U4, U5, U6, U7, U8, U9, U10, ↓reduceIte, Nat.reduceAdd, Nat.reduceMul, Nat.reduceSub, Nat.reduceEqDiff, Nat.reduceBEq, Nat.reduceLeDiff, Nat.reduceLT, Int.reduceAdd, Int.reduceMul, Int.reduceSub, Int.reduceLT, Int.reduceLE, Int.reduceToNat, Int.reduceEq, Int.reduceNe, Int.reduceBEq, Int.reduceBNe, ne_eq, eq_self]
      refine callT_of (c_load (i : Int) (at' % 3) k0 k1 hS) ?_
      rintro v H' ⟨rfl, hS⟩
      simp only [g8, g0, g5, g6, g7, d1, d2, d3, hne, wrap_wu, ↓D0, ↓D1, ↓D2, ↓D3, ↓D4, ↓D5, ↓D6, ↓D7, ↓D8, ↓D9, U0, U1, U2, U3, U4, U5, U6, U7, U8, U9, U10, ↓reduceIte, Nat.reduceAdd, Nat.reduceMul, Nat.reduceSub, Nat.reduceEqDiff, Nat.reduceBEq, Nat.reduceLeDiff, Nat.reduceLT, Int.reduceAdd, Int.reduceMul, Int.reduceSub, Int.reduceLT, Int.reduceLE, Int.reduceToNat, Int.reduceEq, Int.reduceNe, Int.reduceBEq, Int.reduceBNe, ne_eq, eq_self]
      have hno : ((w.load (i : Int) (at' % 3)).get (at' % 3) == wu (w.get (at' % 3) + 1)) = false := by
        refine beq_eq_false_iff_ne.2 fun h => ?_
        have h : w.get (at' % 3) = wu (w.get (at' % 3) + 1) := h
        unfold wu at h; rw [IntKind.wrap_u64] at h
        obtain ⟨u0, u1⟩ := wu'
        omega
      refine callT_of (c_swap (w := w.load (i : Int) (at' % 3)) (i : Int) (at' % 3) (wu (w.get (at' % 3) + 1)) 5 k0 k1 hS) ?_
      rintro v H' ⟨rfl, hS⟩
      have hg : ((w.load (i : Int) (at' % 3)).swap (i : Int) (at' % 3) (wu (w.get (at' % 3) + 1)) 5).get (at' % 3) = w.get (at' % 3) := by
        show (if (at' % 3).toNat = (at' % 3).toNat then (if ((w.load (i : Int) (at' % 3)).get (at' % 3) == wu (w.get (at' % 3) + 1)) = true then 5 else (w.load (i : Int) (at' % 3)).get (at' % 3)) else _) = _
        rw [if_pos rfl, hno]; rfl
      have hyes : (((w.load (i : Int) (at' % 3)).swap (i : Int) (at' % 3) (wu (w.get (at' % 3) + 1)) 5).get (at' % 3) == w.get (at' % 3)) = true := beq_iff_eq.2 hg
      obtain ⟨x2, o2, hxo, hrd2⟩ := (hr.sub (hS.sb h (by simp))).at' hlt
      cases hxo
      simp only [g8, g0, g5, g6, g7, d1, d2, d3, hno, hrd2, Int.toNat_natCast, ↓D0, ↓D1, ↓D2, ↓D3, ↓D4, ↓D5, ↓D6, ↓D7, ↓D8, ↓D9, U0, U1, U2, U3, U4, U5, U6, U7, U8, U9, U10, ↓reduceIte, Nat.reduceAdd, Nat.reduceMul, Nat.reduceSub, Nat.reduceEqDiff, Nat.reduceBEq, Nat.reduceLeDiff, Nat.reduceLT, Int.reduceAdd, Int.reduceMul, Int.reduceSub, Int.reduceLT, Int.reduceLE, Int.reduceToNat, Int.reduceEq, Int.reduceNe, Int.reduceBEq, Int.reduceBNe, ne_eq, eq_self]
      refine callT_of (c_swap (w := (w.load (i : Int) (at' % 3)).swap (i : Int) (at' % 3) (wu (w.get (at' % 3) + 1)) 5) (i : Int) (at' % 3) (w.get (at' % 3)) (ws i) k0 k1 hS) ?_
      rintro v H' ⟨rfl, hS⟩
      obtain ⟨x3, o3, hxo, hrd3⟩ := (hr.sub (hS.sb h (by simp))).at' hlt
      cases hxo
      simp only [g8, g0, g5, g6, g7, d1, d2, d3, hyes, hrd3, wrap_w64, wi, Int.toNat_natCast, ↓D0, ↓D1, ↓D2, ↓D3, ↓D4, ↓D5, ↓D6, ↓D7, ↓D8, ↓D9, U0, U1, U2, U3, U4, U5, U6, U7, U8, U9, U10, ↓reduceIte, Nat.reduceAdd, Nat.reduceMul, Nat.reduceSub, Nat.reduceEqDiff, Nat.reduceBEq, Nat.reduceLeDiff, Nat.reduceLT, Int.reduceAdd, Int.reduceMul, Int.reduceSub, Int.reduceLT, Int.reduceLE, Int.reduceToNat, Int.reduceEq, Int.reduceNe, Int.reduceBEq, Int.reduceBNe, ne_eq, eq_self]
      have hget : (((w.load (i : Int) (at' % 3)).swap (i : Int) (at' % 3) (wu (w.get (at' % 3) + 1)) 5).swap (i : Int) (at' % 3) (w.get (at' % 3)) (ws i)).get (at' % 3) = ws i := by
        show (if (at' % 3).toNat = (at' % 3).toNat then (if (((w.load (i : Int) (at' % 3)).swap (i : Int) (at' % 3) (wu (w.get (at' % 3) + 1)) 5).get (at' % 3) == w.get (at' % 3)) = true then ws i else _) else _) = _
        rw [if_pos rfl, hyes]; rfl
      have s2 : w64 (w.st + 1 + 1) = w.st + 1 + 1 := w64_eq (by omega) (by omega)
      have s3 : w64 (w.st + 1 + 1 + 1) = w.st + 1 + 1 + 1 := w64_eq (by omega) (by omega)
      refine ⟨⟨i + 1, ((w.load (i : Int) (at' % 3)).swap (i : Int) (at' % 3) (wu (w.get (at' % 3) + 1)) 5).swap (i : Int) (at' % 3) (w.get (at' % 3)) (ws i), by omega, rfl, by simp [gt, g0], by simp [gt, g5], by simp [gt, g6], ?_, wn, ?_, ?_, ?_, hS⟩, by simp [gt, iv, g8]; omega⟩
      · rw [hget]; rfl
      · rw [hget]; exact hU i hlt
      · intro j hj hk
        show (if j = (at' % 3).toNat then _ else (if j = (at' % 3).toNat then _ else w.ws j)) = 0
        rw [if_neg (by omega), if_neg (by omega)]; exact wz j hj hk
      · show w64 (w64 (w64 (w.st + 1) + 1) + 1) = _
        rw [s1, s2, s3, wst]; omega
  · have hin : i = n := by omega
    subst hin
    have d1 : decide ((i : Int) < (i : Int)) = false := decide_eq_false (by omega)
    simp only [g8, g0, g5, g6, g7, d1, ↓D0, ↓D1, ↓D2, ↓D3, ↓D4, ↓D5, ↓D6, ↓D7, ↓D8, ↓D9, U0, U1, U2, U3, U4, U5, U6, U7, U8, U9, U10, ↓reduceIte, Nat.reduceAdd, Nat.reduceMul, Nat.reduceSub, Nat.reduceEqDiff, Nat.reduceBEq, Nat.reduceLeDiff, Nat.reduceLT, Int.reduceAdd, Int.reduceMul, Int.reduceSub, Int.reduceLT, Int.reduceLE, Int.reduceToNat, Int.reduceEq, Int.reduceNe, Int.reduceBEq, Int.reduceBNe, ne_eq, eq_self]
    have hsm : (w.get (at' % 3) == w.get (at' % 3)) = true := by simp
    have wk : w64 (at' % 3 + 1) = at' % 3 + 1 := w64_eq (by omega) (by omega)
    have ek : (at' % 3 + 1).tmod 3 = (at' % 3 + 1) % 3 := Int.tmod_eq_emod_of_nonneg (by omega)
    have kk0 : 0 ≤ (at' % 3 + 1) % 3 := by omega
    have kk1 : (at' % 3 + 1) % 3 < w.n := by rw [wn]; omega
    have hz : (w.get ((at' % 3 + 1) % 3) == 0) = true := beq_iff_eq.2 (wz _ (by omega) (by omega))
    have et : ((i : Int) + 1).tdiv 2 = ((i : Int) + 1) / 2 := Int.tdiv_eq_ediv_of_nonneg (by omega)
    have et2 : (i : Int).tdiv 2 = (i : Int) / 2 := Int.tdiv_eq_ediv_of_nonneg (by omega)
    have w5 : w64 ((i : Int) + 1) = (i : Int) + 1 := w64_eq (by omega) (by omega)
    have w6 : w64 (3 * ((i : Int) / 2)) = 3 * ((i : Int) / 2) := w64_eq (by omega) (by omega)
    have w7 : w64 (((i : Int) + 1) / 2 + 3 * ((i : Int) / 2)) = ((i : Int) + 1) / 2 + 3 * ((i : Int) / 2) := w64_eq (by omega) (by omega)
    have w8 : w64 (((i : Int) + 1) / 2) = ((i : Int) + 1) / 2 := w64_eq (by omega) (by omega)
    have w9 : w64 ((i : Int) / 2) = (i : Int) / 2 := w64_eq (by omega) (by omega)
    have hs : (w.st == ((i : Int) + 1) / 2 + 3 * ((i : Int) / 2)) = true := beq_iff_eq.2 wst
    refine callT_of (c_look (at' % 3) k0 k1 hS) ?_
    rintro v H' ⟨rfl, hS⟩
    simp only [g8, g0, g5, g6, g7, hsm, wrap_w64, wk, ek, ↓D0, ↓D1, ↓D2, ↓D3, ↓D4, ↓D5, ↓D6, ↓D7, ↓D8, ↓D9, U0, U1, U2, U3, U4, U5, U6, U7, U8, U9, U10, ↓reduceIte, Nat.reduceAdd, Nat.reduceMul, Nat.reduceSub, Nat.reduceEqDiff, Nat.reduceBEq, Nat.reduceLeDiff, Nat.reduceLT, Int.reduceAdd, Int.reduceMul, Int.reduceSub, Int.reduceLT, Int.reduceLE, Int.reduceToNat, Int.reduceEq, Int.reduceNe, Int.reduceBEq, Int.reduceBNe, ne_eq, eq_self]
    refine callT_of (c_look ((at' % 3 + 1) % 3) kk0 kk1 hS) ?_
    rintro v H' ⟨rfl, hS⟩
    simp only [g8, g0, g5, g6, g7, hz, ↓D0, ↓D1, ↓D2, ↓D3, ↓D4, ↓D5, ↓D6, ↓D7, ↓D8, ↓D9, U0, U1, U2, U3, U4, U5, U6, U7, U8, U9, U10, ↓reduceIte, Nat.reduceAdd, Nat.reduceMul, Nat.reduceSub, Nat.reduceEqDiff, Nat.reduceBEq, Nat.reduceLeDiff, Nat.reduceLT, Int.reduceAdd, Int.reduceMul, Int.reduceSub, Int.reduceLT, Int.reduceLE, Int.reduceToNat, Int.reduceEq, Int.reduceNe, Int.reduceBEq, Int.reduceBNe, ne_eq, eq_self]
    refine callT_of (c_steps hS) ?_
    rintro v H' ⟨rfl, hS⟩
    simp only [g8, g0, g5, g6, g7, wrap_w64, w5, et, et2, w6, w7, w8, w9, hs, ↓D0, ↓D1, ↓D2, ↓D3, ↓D4, ↓D5, ↓D6, ↓D7, ↓D8, ↓D9, U0, U1, U2, U3, U4, U5, U6, U7, U8, U9, U10, ↓reduceIte, Nat.reduceAdd, Nat.reduceMul, Nat.reduceSub, Nat.reduceEqDiff, Nat.reduceBEq, Nat.reduceLeDiff, Nat.reduceLT, Int.reduceAdd, Int.reduceMul, Int.reduceSub, Int.reduceLT, Int.reduceLE, Int.reduceToNat, Int.reduceEq, Int.reduceNe, Int.reduceBEq, Int.reduceBNe, ne_eq, eq_self]
    exact hS.tail.tail
end

theorem l_wordscounts {W : World} {a : Option Addr} {n cap : Nat} {ws : Nat → Int} (hn : n ≤ 9223372036854775807) (hr : RowU (memOf W) a n ws) (hU : ∀ i, i < n → IntKind.u64.has (ws i)) (x : Int) (hx : 0 ≤ x ∧ x ≤ 255) :
    CallP Try.prog W 3 #[.slice a n cap, .int .u8 x] (memOf W) fun v H' => v = .bool true ∧ Sub (memOf W) H' :=
  (c_wordscounts hx.1 hx.2 hn hr (fun i hi => u64_bd (hU i hi)) (Sep.one _)).mono fun v H' ⟨h1, h2⟩ => ⟨h1, h2.head⟩

end Go.Proofs.Ytfapipblclikbaa
