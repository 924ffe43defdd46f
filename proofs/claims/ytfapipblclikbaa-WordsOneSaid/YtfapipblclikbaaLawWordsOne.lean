/-
  WordsOne, walked: an access touches one word alone. Conditions: none.
-/
import Derived.Test.YtfapipblclikbaaWordsK
import Derived.Test.YtfapipblclikbaaRowV
set_option linter.unusedVariables false
set_option linter.unusedSimpArgs false
set_option maxRecDepth 8000
namespace Go.Proofs.Ytfapipblclikbaa
open Go Go.Ev Go.Pl Go.Ma

theorem and3 (d : Int) : 0 ≤ bits .and .i64 d 3 ∧ bits .and .i64 d 3 ≤ 3 := by
  unfold bits
  have e : (BitVec.ofInt IntKind.i64.bits d &&& BitVec.ofInt IntKind.i64.bits 3).toNat ≤ 3 := by
    rw [BitVec.toNat_and]
    exact Nat.and_le_right
  simp only
  rw [wrap_w64, w64_eq (by omega) (by omega)]
  omega
theorem rd_cells {H : Hp} {b o : Nat} {v : Value} (h : rd H b o = some v) : ∃ c T f, H b = some (.cells c T f) ∧ c[o]? = some v := by
  unfold rd at h
  split at h
  · rename_i c T f e; exact ⟨c, T, f, e, h⟩
  · cases h
section
variable {W : World} {H h : Hp} {l : List Hp} {n cap : Nat} {a : Option Addr} {ws : Nat → Int}

def woI (n cap cap2 : Nat) (a a2 : Option Addr) (z b : Nat) (q want r : Int) (L : List Hp) (F' : Fr) (H' : Hp) : Prop :=
  ∃ j : Nat, j ≤ n ∧ gt F' 10 = .int .i64 (j : Int) ∧ gt F' 0 = .slice a n cap ∧ gt F' 9 = .slice a2 n cap2 ∧ gt F' 3 = .pointer (some ⟨z, 0, none⟩) ∧ gt F' 5 = .pointer (some ⟨b, 0, none⟩) ∧ gt F' 6 = .int .i64 q ∧ gt F' 8 = .int .u64 want ∧ Sep L H'
theorem c_wordsone {dd cl at' wa x : Int} (hd : -9223372036854775808 ≤ dd ∧ dd ≤ 9223372036854775807) (ha : -9223372036854775808 ≤ at' ∧ at' ≤ 9223372036854775807) (hwa : U wa) (hx : U x) (hr : RowU h a n ws) (hU : ∀ i, i < n → U (ws i)) (hS : Sep (h :: l) H) :
    CallP Try.prog W 5 #[.slice a n cap, .agg #[.int .i64 dd, .int .i64 cl, .int .i64 at', .int .u64 wa, .int .u64 x]] H fun v H' => v = .bool true ∧ Sep (h :: l) H' := by
  refine CallP.of mixed Try.func5 tr5 (by show 2 ≤ _; decide) fun W _ => ?_
  simp only [↓D0, ↓D1, ↓D2, ↓D3, ↓D4, ↓D5, ↓D6, ↓D7, ↓D8, ↓D9, U0, U1, U2, U3, U4, U5, U6, U7, U8, U9, U10, ↓reduceIte, Nat.reduceAdd, Nat.reduceMul, Nat.reduceSub, Nat.reduceEqDiff, Nat.reduceBEq, Nat.reduceLeDiff, Nat.reduceLT, Int.reduceAdd, Int.reduceMul, Int.reduceSub, Int.reduceLT, Int.reduceLE, Int.reduceToNat, Int.reduceEq, Int.reduceNe, Int.reduceBEq, Int.reduceBNe, ne_eq, eq_self]
  refine newB_intro fun z hz f1 f2 => ?_
  have hHh := hS.head
  have hS := hS.new f1 (.cells #[.int .i64 dd, .int .i64 cl, .int .i64 at', .int .u64 wa, .int .u64 x] 37 (0, 0))
  simp only [↓D0, ↓D1, ↓D2, ↓D3, ↓D4, ↓D5, ↓D6, ↓D7, ↓D8, ↓D9, U0, U1, U2, U3, U4, U5, U6, U7, U8, U9, U10, ↓reduceIte, Nat.reduceAdd, Nat.reduceMul, Nat.reduceSub, Nat.reduceEqDiff, Nat.reduceBEq, Nat.reduceLeDiff, Nat.reduceLT, Int.reduceAdd, Int.reduceMul, Int.reduceSub, Int.reduceLT, Int.reduceLE, Int.reduceToNat, Int.reduceEq, Int.reduceNe, Int.reduceBEq, Int.reduceBNe, ne_eq, eq_self]
  refine callT_of (c_awake2 hS) ?_
  rintro v H' ⟨rfl, hS⟩
  have hz1 := hS.look
  have rz := fun o => rd_of hz1 o
  by_cases hb : n = 0 ∨ 100 < n
  · have g : ((n : Int) == 0) = true ∨ ((n : Int) == 0) = false ∧ decide (100 < (n : Int)) = true := by
      rcases hb with hb | hb
      · left; simp [hb]
      · right; exact ⟨beq_eq_false_iff_ne.2 (by omega), decide_eq_true (by omega)⟩
    rcases g with g | ⟨g, g2⟩
    · simp only [g, ↓D0, ↓D1, ↓D2, ↓D3, ↓D4, ↓D5, ↓D6, ↓D7, ↓D8, ↓D9, U0, U1, U2, U3, U4, U5, U6, U7, U8, U9, U10, ↓reduceIte, Nat.reduceAdd, Nat.reduceMul, Nat.reduceSub, Nat.reduceEqDiff, Nat.reduceBEq, Nat.reduceLeDiff, Nat.reduceLT, Int.reduceAdd, Int.reduceMul, Int.reduceSub, Int.reduceLT, Int.reduceLE, Int.reduceToNat, Int.reduceEq, Int.reduceNe, Int.reduceBEq, Int.reduceBNe, ne_eq, eq_self]
      exact hS.tail
    · simp only [g, g2, ↓D0, ↓D1, ↓D2, ↓D3, ↓D4, ↓D5, ↓D6, ↓D7, ↓D8, ↓D9, U0, U1, U2, U3, U4, U5, U6, U7, U8, U9, U10, ↓reduceIte, Nat.reduceAdd, Nat.reduceMul, Nat.reduceSub, Nat.reduceEqDiff, Nat.reduceBEq, Nat.reduceLeDiff, Nat.reduceLT, Int.reduceAdd, Int.reduceMul, Int.reduceSub, Int.reduceLT, Int.reduceLE, Int.reduceToNat, Int.reduceEq, Int.reduceNe, Int.reduceBEq, Int.reduceBNe, ne_eq, eq_self]
      exact hS.tail
  have g1 : ((n : Int) == 0) = false := beq_eq_false_iff_ne.2 (by omega)
  have g2 : decide (100 < (n : Int)) = false := decide_eq_false (by omega)
  simp only [g1, g2, ↓D0, ↓D1, ↓D2, ↓D3, ↓D4, ↓D5, ↓D6, ↓D7, ↓D8, ↓D9, U0, U1, U2, U3, U4, U5, U6, U7, U8, U9, U10, ↓reduceIte, Nat.reduceAdd, Nat.reduceMul, Nat.reduceSub, Nat.reduceEqDiff, Nat.reduceBEq, Nat.reduceLeDiff, Nat.reduceLT, Int.reduceAdd, Int.reduceMul, Int.reduceSub, Int.reduceLT, Int.reduceLE, Int.reduceToNat, Int.reduceEq, Int.reduceNe, Int.reduceBEq, Int.reduceBNe, ne_eq, eq_self]
  refine callT_of (c_fill (by omega) hr hS.p1) ?_
  rintro v H' ⟨b, s, rfl, hS⟩
  have hz1 := hS.lk 3 rfl
  have rz := fun o => rd_of hz1 o
  have hn0 : (0 : Int) < n := by omega
  have nn : ((n : Int) = 0) = False := eq_false (by omega)
  have m1 : -(n : Int) < at'.tmod n := Int.lt_tmod_of_pos _ hn0
  have m2 : at'.tmod n < n := Int.tmod_lt_of_pos _ hn0
  have wa1 : w64 (at'.tmod n + n) = at'.tmod n + n := w64_eq (by omega) (by omega)
  obtain ⟨q, hq, q0, q1⟩ : ∃ q : Int, (at'.tmod n + n).tmod n = q ∧ 0 ≤ q ∧ q < n := ⟨_, rfl, Int.tmod_nonneg _ (by omega), Int.tmod_lt_of_pos _ hn0⟩
  have hrn := and3 dd
  obtain ⟨r, hrr⟩ : ∃ r, bits BinOp.and IntKind.i64 dd 3 = r := ⟨_, rfl⟩
  rw [hrr] at hrn
  have wq : w64 q = q := w64_eq (by omega) (by omega)
  have wt : w64 (at'.tmod n) = at'.tmod n := w64_eq (by omega) (by omega)
  simp only [hz1, rz, nn, wrap_w64, wt, wa1, hq, wq, ↓D0, ↓D1, ↓D2, ↓D3, ↓D4, ↓D5, ↓D6, ↓D7, ↓D8, ↓D9, U0, U1, U2, U3, U4, U5, U6, U7, U8, U9, U10, ↓reduceIte, Nat.reduceAdd, Nat.reduceMul, Nat.reduceSub, Nat.reduceEqDiff, Nat.reduceBEq, Nat.reduceLeDiff, Nat.reduceLT, Int.reduceAdd, Int.reduceMul, Int.reduceSub, Int.reduceLT, Int.reduceLE, Int.reduceToNat, Int.reduceEq, Int.reduceNe, Int.reduceBEq, Int.reduceBNe, ne_eq, eq_self]
  obtain ⟨xb, xo, hxa, hrd0⟩ := hr.at' (i := q.toNat) (by omega)
  obtain ⟨xc, xT, xf, hxh, hxc⟩ := rd_cells hrd0
  subst hxa
  have nxz : (xb = z) = False := f1 xb (by rw [hHh _ _ hxh]; rfl)
  have nzx : (z = xb) = False := eq_false fun e => nxz.mp e.symm
  have xrd : ∀ {L : List Hp} {H2 : Hp}, Sep L H2 → h ∈ L → H2 xb = some (.cells xc xT xf) := fun hS hm => hS.sb h hm xb _ hxh
  have rrd : ∀ {L : List Hp} {H2 : Hp}, Sep L H2 → h ∈ L → rd H2 xb (xo + q.toNat) = some (.int .u64 (ws q.toNat)) := fun hS hm => by rw [rd_of (xrd hS hm)]; exact hxc
  have hxm := xrd hS (by simp)
  have hrd := rrd hS (by simp)
  obtain ⟨w, hw⟩ : ∃ w, w = rowW n ws := ⟨_, rfl⟩
  rw [← hw] at hS
  have hwn : w.n = n := by rw [hw]; rfl
  have hwg : w.get q = ws q.toNat := by rw [hw]; show (if _ then _ else _) = _; rw [if_pos (by omega)]
  have hwj : ∀ j, j < n → w.ws j = ws j := fun j hj => by rw [hw]; show (if _ then _ else _) = _; rw [if_pos hj]
  have hst : w64 (w.st + 1) = 1 := by rw [hw]; show w64 (0 + 1) = 1; decide
  have q1' : q < (w.n : Int) := by rw [hwn]; exact q1
  rcases (by omega : r = 0 ∨ r = 1 ∨ r = 2 ∨ r = 3) with e | e | e | e
  · simp only [hz1, rz, q0, q1, hrd, hrr, e, ↓D0, ↓D1, ↓D2, ↓D3, ↓D4, ↓D5, ↓D6, ↓D7, ↓D8, ↓D9, U0, U1, U2, U3, U4, U5, U6, U7, U8, U9, U10, ↓reduceIte, Nat.reduceAdd, Nat.reduceMul, Nat.reduceSub, Nat.reduceEqDiff, Nat.reduceBEq, Nat.reduceLeDiff, Nat.reduceLT, Int.reduceAdd, Int.reduceMul, Int.reduceSub, Int.reduceLT, Int.reduceLE, Int.reduceToNat, Int.reduceEq, Int.reduceNe, Int.reduceBEq, Int.reduceBNe, ne_eq, eq_self]
    refine draw_intro [(z, #[.int .i64 dd, .int .i64 cl, .int .i64 at', .int .u64 wa, .int .u64 x], []), (xb, xc, [])] (by simp only [hz1, hxm, ↓D0, ↓D1, ↓D2, ↓D3, ↓D4, ↓D5, ↓D6, ↓D7, ↓D8, ↓D9, U0, U1, U2, U3, U4, U5, U6, U7, U8, U9, U10, ↓reduceIte, Nat.reduceAdd, Nat.reduceMul, Nat.reduceSub, Nat.reduceEqDiff, Nat.reduceBEq, Nat.reduceLeDiff, Nat.reduceLT, Int.reduceAdd, Int.reduceMul, Int.reduceSub, Int.reduceLT, Int.reduceLE, Int.reduceToNat, Int.reduceEq, Int.reduceNe, Int.reduceBEq, Int.reduceBNe, ne_eq, eq_self]) ?_
    simp only [hz1, rz, q0, q1, hrd, hrr, e, hxc, nxz, nzx, ↓D0, ↓D1, ↓D2, ↓D3, ↓D4, ↓D5, ↓D6, ↓D7, ↓D8, ↓D9, U0, U1, U2, U3, U4, U5, U6, U7, U8, U9, U10, ↓reduceIte, Nat.reduceAdd, Nat.reduceMul, Nat.reduceSub, Nat.reduceEqDiff, Nat.reduceBEq, Nat.reduceLeDiff, Nat.reduceLT, Int.reduceAdd, Int.reduceMul, Int.reduceSub, Int.reduceLT, Int.reduceLE, Int.reduceToNat, Int.reduceEq, Int.reduceNe, Int.reduceBEq, Int.reduceBNe, ne_eq, eq_self]
    refine callT_of (c_load cl q q0 q1' hS) ?_
    rintro v H' ⟨rfl, hS⟩
    have hz1 := hS.lk 3 rfl
    have rz := fun o => rd_of hz1 o
    have hxm := xrd hS (by simp)
    have hrd := rrd hS (by simp)
    have hne : (w.get q != ws q.toNat) = false := by rw [hwg]; simp
    simp only [hz1, hxm, hne, ↓D0, ↓D1, ↓D2, ↓D3, ↓D4, ↓D5, ↓D6, ↓D7, ↓D8, ↓D9, U0, U1, U2, U3, U4, U5, U6, U7, U8, U9, U10, ↓reduceIte, Nat.reduceAdd, Nat.reduceMul, Nat.reduceSub, Nat.reduceEqDiff, Nat.reduceBEq, Nat.reduceLeDiff, Nat.reduceLT, Int.reduceAdd, Int.reduceMul, Int.reduceSub, Int.reduceLT, Int.reduceLE, Int.reduceToNat, Int.reduceEq, Int.reduceNe, Int.reduceBEq, Int.reduceBNe, ne_eq, eq_self]
    obtain ⟨w2, hw2⟩ : ∃ w2, w2 = w.load cl q := ⟨_, rfl⟩
    rw [← hw2] at hS
    have hwn2 : w2.n = n := by rw [hw2]; exact hwn
    have hjs : ∀ j, j < n → w2.ws j = if j = q.toNat then ws q.toNat else ws j := (by rw [hw2]; intro j hj; show w.ws j = _; rw [hwj j hj]; by_cases e : j = q.toNat <;> simp [e])
    have hst2 : w2.st = 1 := by rw [hw2]; exact hst
    have hlast : wlast w2 = #[.int .i64 cl, .int .i64 0, .int .i64 q, .int .u64 (ws q.toNat), .int .u64 w2.pt, .bool w2.ok] := by
      rw [hw2]; show #[_, _, _, Value.int .u64 (w.get q), _, _] = _; rw [hwg]; rfl
    have hz1 := hS.lk 3 rfl
    have rz := fun o => rd_of hz1 o
    have hrd := rrd hS (by simp)
    try simp only [hz1, rz, q0, q1, hrd, hrr, e, wrap_wu, ↓D0, ↓D1, ↓D2, ↓D3, ↓D4, ↓D5, ↓D6, ↓D7, ↓D8, ↓D9, U0, U1, U2, U3, U4, U5, U6, U7, U8, U9, U10, ↓reduceIte, Nat.reduceAdd, Nat.reduceMul, Nat.reduceSub, Nat.reduceEqDiff, Nat.reduceBEq, Nat.reduceLeDiff, Nat.reduceLT, Int.reduceAdd, Int.reduceMul, Int.reduceSub, Int.reduceLT, Int.reduceLE, Int.reduceToNat, Int.reduceEq, Int.reduceNe, Int.reduceBEq, Int.reduceBNe, ne_eq, eq_self]
    refine callT_of (c_all (by omega) hS) ?_
    rintro v H' ⟨a2, cap2, h2, rfl, hr2, hS⟩
    rw [hwn2] at hr2
    simp only [hwn2, ↓D0, ↓D1, ↓D2, ↓D3, ↓D4, ↓D5, ↓D6, ↓D7, ↓D8, ↓D9, U0, U1, U2, U3, U4, U5, U6, U7, U8, U9, U10, ↓reduceIte, Nat.reduceAdd, Nat.reduceMul, Nat.reduceSub, Nat.reduceEqDiff, Nat.reduceBEq, Nat.reduceLeDiff, Nat.reduceLT, Int.reduceAdd, Int.reduceMul, Int.reduceSub, Int.reduceLT, Int.reduceLE, Int.reduceToNat, Int.reduceEq, Int.reduceNe, Int.reduceBEq, Int.reduceBNe, ne_eq, eq_self]
    refine loop_intro (woI n cap cap2 _ a2 z b q (ws q.toNat) r (h2 :: wB b s w2 :: wR s w2 :: h :: sg z (.cells #[.int .i64 dd, .int .i64 cl, .int .i64 at', .int .u64 wa, .int .u64 x] 37 (0, 0)) :: l)) (fun F' _ => (n - iv (gt F' 10)).toNat)
      ⟨0, Nat.zero_le _, rfl, rfl, rfl, rfl, rfl, rfl, rfl, hS⟩ ?_
    rintro F' H' ⟨j, hj, e10, e0, e9, e3, e5, e6, e8, hS⟩
    by_cases hlt : j < n
    · have d1 : decide ((j : Int) < (n : Int)) = true := decide_eq_true (by omega)
      have d2 : (0 : Int) ≤ (j : Int) := by omega
      have d3 : (j : Int) < (n : Int) := by omega
      have wj : w64 ((j : Int) + 1) = ((j + 1 : Nat) : Int) := by rw [w64_eq (by omega) (by omega)]; omega
      obtain ⟨yb, yo, hya, hrd2⟩ := (hr2.sub (hS.sb h2 (by simp))).at' hlt
      obtain ⟨ub, uo, hua, hrd3⟩ := (hr.sub (hS.sb h (by simp))).at' hlt
      cases hua
      subst hya
      have hjv := hjs j hlt
      by_cases hjq : j = q.toNat
      · rw [if_pos hjq] at hjv
        have c1 : ((j : Int) != q) = false := by rw [show (j : Int) = q by omega]; simp
        have c2 : ((j : Int) == q) = true := beq_iff_eq.2 (by omega)
        have c3 : (w2.ws j != ws q.toNat) = false := by rw [hjv]; simp
        simp only [e10, e0, e9, e3, e5, e6, e8, d1, d2, d3, c1, c2, hrd2, c3, wrap_w64, wj, Int.toNat_natCast, ↓D0, ↓D1, ↓D2, ↓D3, ↓D4, ↓D5, ↓D6, ↓D7, ↓D8, ↓D9, U0, U1, U2, U3, U4, U5, U6, U7, U8, U9, U10, ↓reduceIte, Nat.reduceAdd, Nat.reduceMul, Nat.reduceSub, Nat.reduceEqDiff, Nat.reduceBEq, Nat.reduceLeDiff, Nat.reduceLT, Int.reduceAdd, Int.reduceMul, Int.reduceSub, Int.reduceLT, Int.reduceLE, Int.reduceToNat, Int.reduceEq, Int.reduceNe, Int.reduceBEq, Int.reduceBNe, ne_eq, eq_self]
        exact ⟨⟨j + 1, by omega, rfl, by simp [gt, e0], by simp [gt, e9], by simp [gt, e3], by simp [gt, e5], by simp [gt, e6], by simp [gt, e8], hS⟩, by simp [gt, iv, e10]; omega⟩
      · rw [if_neg hjq] at hjv
        have c1 : ((j : Int) != q) = true := by have : (j : Int) ≠ q := by omega
                                                simpa using this
        have c2 : ((j : Int) == q) = false := beq_eq_false_iff_ne.2 (by omega)
        have c3 : (w2.ws j != ws j) = false := by rw [hjv]; simp
        simp only [e10, e0, e9, e3, e5, e6, e8, d1, d2, d3, c1, c2, hrd2, hrd3, c3, wrap_w64, wj, Int.toNat_natCast, ↓D0, ↓D1, ↓D2, ↓D3, ↓D4, ↓D5, ↓D6, ↓D7, ↓D8, ↓D9, U0, U1, U2, U3, U4, U5, U6, U7, U8, U9, U10, ↓reduceIte, Nat.reduceAdd, Nat.reduceMul, Nat.reduceSub, Nat.reduceEqDiff, Nat.reduceBEq, Nat.reduceLeDiff, Nat.reduceLT, Int.reduceAdd, Int.reduceMul, Int.reduceSub, Int.reduceLT, Int.reduceLE, Int.reduceToNat, Int.reduceEq, Int.reduceNe, Int.reduceBEq, Int.reduceBNe, ne_eq, eq_self]
        exact ⟨⟨j + 1, by omega, rfl, by simp [gt, e0], by simp [gt, e9], by simp [gt, e3], by simp [gt, e5], by simp [gt, e6], by simp [gt, e8], hS⟩, by simp [gt, iv, e10]; omega⟩
    have hin : (j : Int) = n := by omega
    have d1 : decide ((j : Int) < (n : Int)) = false := decide_eq_false (by omega)
    simp only [e10, e0, e9, e3, e5, e6, e8, d1, ↓D0, ↓D1, ↓D2, ↓D3, ↓D4, ↓D5, ↓D6, ↓D7, ↓D8, ↓D9, U0, U1, U2, U3, U4, U5, U6, U7, U8, U9, U10, ↓reduceIte, Nat.reduceAdd, Nat.reduceMul, Nat.reduceSub, Nat.reduceEqDiff, Nat.reduceBEq, Nat.reduceLeDiff, Nat.reduceLT, Int.reduceAdd, Int.reduceMul, Int.reduceSub, Int.reduceLT, Int.reduceLE, Int.reduceToNat, Int.reduceEq, Int.reduceNe, Int.reduceBEq, Int.reduceBNe, ne_eq, eq_self]
    refine callT_of (c_last hS.tail) ?_
    rintro v H' ⟨rfl, hS⟩
    rw [hlast]
    simp only [e10, e0, e9, e3, e5, e6, e8, ↓D0, ↓D1, ↓D2, ↓D3, ↓D4, ↓D5, ↓D6, ↓D7, ↓D8, ↓D9, U0, U1, U2, U3, U4, U5, U6, U7, U8, U9, U10, ↓reduceIte, Nat.reduceAdd, Nat.reduceMul, Nat.reduceSub, Nat.reduceEqDiff, Nat.reduceBEq, Nat.reduceLeDiff, Nat.reduceLT, Int.reduceAdd, Int.reduceMul, Int.reduceSub, Int.reduceLT, Int.reduceLE, Int.reduceToNat, Int.reduceEq, Int.reduceNe, Int.reduceBEq, Int.reduceBNe, ne_eq, eq_self]
    refine newB_intro fun y hy f3 f4 => ?_
    have hxm := xrd hS (by simp)
    have nzy : (z = y) = False := f3 z (by rw [hS.lk 3 rfl]; rfl)
    have nyz : (y = z) = False := f4 z (by rw [hS.lk 3 rfl]; rfl)
    have nxy : (xb = y) = False := f3 xb (by rw [hxm]; rfl)
    have nyx : (y = xb) = False := f4 xb (by rw [hxm]; rfl)
    have hS := hS.new f3 (.cells #[.int .i64 0, .int .i64 0, .int .i64 0, .int .u64 0, .int .u64 0, .bool false] 41 (0, 0))
    have hS := hS.set (.cells #[.int .i64 cl, .int .i64 0, .int .i64 q, .int .u64 (ws q.toNat), .int .u64 w2.pt, .bool w2.ok] 41 (0, 0))
    rw [Ev.upd_upd] at hS
    have hy1 := hS.look
    have hz1 := hS.lk 4 rfl
    have hxm := xrd hS (by simp)
    have hrd := rrd hS (by simp)
    have ry := fun o => rd_of hy1 o
    have rz := fun o => rd_of hz1 o
    have cn : ((n : Int) == (n : Int)) = true := by simp
    have cs : (w2.st == 1) = true := beq_iff_eq.2 hst2
    have cq : (q == q) = true := by simp
    have cc : (cl == cl) = true := by simp
    have cw : (ws q.toNat == ws q.toNat) = true := by simp
    simp only [e10, e0, e9, e3, e5, e6, e8, Ev.upd_upd, ↓D0, ↓D1, ↓D2, ↓D3, ↓D4, ↓D5, ↓D6, ↓D7, ↓D8, ↓D9, U0, U1, U2, U3, U4, U5, U6, U7, U8, U9, U10, ↓reduceIte, Nat.reduceAdd, Nat.reduceMul, Nat.reduceSub, Nat.reduceEqDiff, Nat.reduceBEq, Nat.reduceLeDiff, Nat.reduceLT, Int.reduceAdd, Int.reduceMul, Int.reduceSub, Int.reduceLT, Int.reduceLE, Int.reduceToNat, Int.reduceEq, Int.reduceNe, Int.reduceBEq, Int.reduceBNe, ne_eq, eq_self]
    refine draw_intro [(y, #[.int .i64 cl, .int .i64 0, .int .i64 q, .int .u64 (ws q.toNat), .int .u64 w2.pt, .bool w2.ok], []), (z, #[.int .i64 dd, .int .i64 cl, .int .i64 at', .int .u64 wa, .int .u64 x], []), (xb, xc, [])] (by simp only [hy1, hz1, hxm, ↓D0, ↓D1, ↓D2, ↓D3, ↓D4, ↓D5, ↓D6, ↓D7, ↓D8, ↓D9, U0, U1, U2, U3, U4, U5, U6, U7, U8, U9, U10, ↓reduceIte, Nat.reduceAdd, Nat.reduceMul, Nat.reduceSub, Nat.reduceEqDiff, Nat.reduceBEq, Nat.reduceLeDiff, Nat.reduceLT, Int.reduceAdd, Int.reduceMul, Int.reduceSub, Int.reduceLT, Int.reduceLE, Int.reduceToNat, Int.reduceEq, Int.reduceNe, Int.reduceBEq, Int.reduceBNe, ne_eq, eq_self]) ?_
    simp only [e10, e0, e9, e3, e5, e6, e8, cn, ↓D0, ↓D1, ↓D2, ↓D3, ↓D4, ↓D5, ↓D6, ↓D7, ↓D8, ↓D9, U0, U1, U2, U3, U4, U5, U6, U7, U8, U9, U10, ↓reduceIte, Nat.reduceAdd, Nat.reduceMul, Nat.reduceSub, Nat.reduceEqDiff, Nat.reduceBEq, Nat.reduceLeDiff, Nat.reduceLT, Int.reduceAdd, Int.reduceMul, Int.reduceSub, Int.reduceLT, Int.reduceLE, Int.reduceToNat, Int.reduceEq, Int.reduceNe, Int.reduceBEq, Int.reduceBNe, ne_eq, eq_self]
    refine callT_of (c_steps hS.p1) ?_
    rintro v H' ⟨rfl, hS⟩
    have hy1 := hS.lk 1 rfl
    have hz1 := hS.lk 4 rfl
    have hxm := xrd hS (by simp)
    have hrd := rrd hS (by simp)
    have ry := fun o => rd_of hy1 o
    have rz := fun o => rd_of hz1 o
    simp only [e10, e0, e9, e3, e5, e6, e8, hy1, hz1, hxm, ry, rz, hrd, hxc, nzy, nyz, nxy, nyx, nxz, nzx, q0, q1, cs, cq, cc, cw, hrr, e, ↓D0, ↓D1, ↓D2, ↓D3, ↓D4, ↓D5, ↓D6, ↓D7, ↓D8, ↓D9, U0, U1, U2, U3, U4, U5, U6, U7, U8, U9, U10, ↓reduceIte, Nat.reduceAdd, Nat.reduceMul, Nat.reduceSub, Nat.reduceEqDiff, Nat.reduceBEq, Nat.reduceLeDiff, Nat.reduceLT, Int.reduceAdd, Int.reduceMul, Int.reduceSub, Int.reduceLT, Int.reduceLE, Int.reduceToNat, Int.reduceEq, Int.reduceNe, Int.reduceBEq, Int.reduceBNe, ne_eq, eq_self]
    exact hS.tail.tail.tail.p1.tail
  · simp only [hz1, rz, q0, q1, hrd, hrr, e, ↓D0, ↓D1, ↓D2, ↓D3, ↓D4, ↓D5, ↓D6, ↓D7, ↓D8, ↓D9, U0, U1, U2, U3, U4, U5, U6, U7, U8, U9, U10, ↓reduceIte, Nat.reduceAdd, Nat.reduceMul, Nat.reduceSub, Nat.reduceEqDiff, Nat.reduceBEq, Nat.reduceLeDiff, Nat.reduceLT, Int.reduceAdd, Int.reduceMul, Int.reduceSub, Int.reduceLT, Int.reduceLE, Int.reduceToNat, Int.reduceEq, Int.reduceNe, Int.reduceBEq, Int.reduceBNe, ne_eq, eq_self]
    refine callT_of (c_store cl q x q0 q1' hS) ?_
    rintro v H' ⟨rfl, hS⟩
    obtain ⟨w2, hw2⟩ : ∃ w2, w2 = w.store cl q x := ⟨_, rfl⟩
    rw [← hw2] at hS
    have hwn2 : w2.n = n := by rw [hw2]; exact hwn
    have hjs : ∀ j, j < n → w2.ws j = if j = q.toNat then x else ws j := (by rw [hw2]; intro j hj; show (if j = q.toNat then x else w.ws j) = _; rw [hwj j hj])
    have hst2 : w2.st = 1 := by rw [hw2]; exact hst
    have hlast : wlast w2 = #[.int .i64 cl, .int .i64 1, .int .i64 q, .int .u64 (ws q.toNat), .int .u64 w2.pt, .bool w2.ok] := by
      rw [hw2]; show #[_, _, _, Value.int .u64 (w.get q), _, _] = _; rw [hwg]; rfl
    have hz1 := hS.lk 3 rfl
    have rz := fun o => rd_of hz1 o
    have hrd := rrd hS (by simp)
    try simp only [hz1, rz, q0, q1, hrd, hrr, e, wrap_wu, ↓D0, ↓D1, ↓D2, ↓D3, ↓D4, ↓D5, ↓D6, ↓D7, ↓D8, ↓D9, U0, U1, U2, U3, U4, U5, U6, U7, U8, U9, U10, ↓reduceIte, Nat.reduceAdd, Nat.reduceMul, Nat.reduceSub, Nat.reduceEqDiff, Nat.reduceBEq, Nat.reduceLeDiff, Nat.reduceLT, Int.reduceAdd, Int.reduceMul, Int.reduceSub, Int.reduceLT, Int.reduceLE, Int.reduceToNat, Int.reduceEq, Int.reduceNe, Int.reduceBEq, Int.reduceBNe, ne_eq, eq_self]
    refine callT_of (c_all (by omega) hS) ?_
    rintro v H' ⟨a2, cap2, h2, rfl, hr2, hS⟩
    rw [hwn2] at hr2
    simp only [hwn2, ↓D0, ↓D1, ↓D2, ↓D3, ↓D4, ↓D5, ↓D6, ↓D7, ↓D8, ↓D9, U0, U1, U2, U3, U4, U5, U6, U7, U8, U9, U10, ↓reduceIte, Nat.reduceAdd, Nat.reduceMul, Nat.reduceSub, Nat.reduceEqDiff, Nat.reduceBEq, Nat.reduceLeDiff, Nat.reduceLT, Int.reduceAdd, Int.reduceMul, Int.reduceSub, Int.reduceLT, Int.reduceLE, Int.reduceToNat, Int.reduceEq, Int.reduceNe, Int.reduceBEq, Int.reduceBNe, ne_eq, eq_self]
    refine loop_intro (woI n cap cap2 _ a2 z b q (x) r (h2 :: wB b s w2 :: wR s w2 :: h :: sg z (.cells #[.int .i64 dd, .int .i64 cl, .int .i64 at', .int .u64 wa, .int .u64 x] 37 (0, 0)) :: l)) (fun F' _ => (n - iv (gt F' 10)).toNat)
      ⟨0, Nat.zero_le _, rfl, rfl, rfl, rfl, rfl, rfl, rfl, hS⟩ ?_
    rintro F' H' ⟨j, hj, e10, e0, e9, e3, e5, e6, e8, hS⟩
    by_cases hlt : j < n
    · have d1 : decide ((j : Int) < (n : Int)) = true := decide_eq_true (by omega)
      have d2 : (0 : Int) ≤ (j : Int) := by omega
      have d3 : (j : Int) < (n : Int) := by omega
      have wj : w64 ((j : Int) + 1) = ((j + 1 : Nat) : Int) := by rw [w64_eq (by omega) (by omega)]; omega
      obtain ⟨yb, yo, hya, hrd2⟩ := (hr2.sub (hS.sb h2 (by simp))).at' hlt
      obtain ⟨ub, uo, hua, hrd3⟩ := (hr.sub (hS.sb h (by simp))).at' hlt
      cases hua
      subst hya
      have hjv := hjs j hlt
      by_cases hjq : j = q.toNat
      · rw [if_pos hjq] at hjv
        have c1 : ((j : Int) != q) = false := by rw [show (j : Int) = q by omega]; simp
        have c2 : ((j : Int) == q) = true := beq_iff_eq.2 (by omega)
        have c3 : (w2.ws j != x) = false := by rw [hjv]; simp
        simp only [e10, e0, e9, e3, e5, e6, e8, d1, d2, d3, c1, c2, hrd2, c3, wrap_w64, wj, Int.toNat_natCast, ↓D0, ↓D1, ↓D2, ↓D3, ↓D4, ↓D5, ↓D6, ↓D7, ↓D8, ↓D9, U0, U1, U2, U3, U4, U5, U6, U7, U8, U9, U10, ↓reduceIte, Nat.reduceAdd, Nat.reduceMul, Nat.reduceSub, Nat.reduceEqDiff, Nat.reduceBEq, Nat.reduceLeDiff, Nat.reduceLT, Int.reduceAdd, Int.reduceMul, Int.reduceSub, Int.reduceLT, Int.reduceLE, Int.reduceToNat, Int.reduceEq, Int.reduceNe, Int.reduceBEq, Int.reduceBNe, ne_eq, eq_self]
        exact ⟨⟨j + 1, by omega, rfl, by simp [gt, e0], by simp [gt, e9], by simp [gt, e3], by simp [gt, e5], by simp [gt, e6], by simp [gt, e8], hS⟩, by simp [gt, iv, e10]; omega⟩
      · rw [if_neg hjq] at hjv
        have c1 : ((j : Int) != q) = true := by have : (j : Int) ≠ q := by omega
                                                simpa using this
        have c2 : ((j : Int) == q) = false := beq_eq_false_iff_ne.2 (by omega)
        have c3 : (w2.ws j != ws j) = false := by rw [hjv]; simp
        simp only [e10, e0, e9, e3, e5, e6, e8, d1, d2, d3, c1, c2, hrd2, hrd3, c3, wrap_w64, wj, Int.toNat_natCast, ↓D0, ↓D1, ↓D2, ↓D3, ↓D4, ↓D5, ↓D6, ↓D7, ↓D8, ↓D9, U0, U1, U2, U3, U4, U5, U6, U7, U8, U9, U10, ↓reduceIte, Nat.reduceAdd, Nat.reduceMul, Nat.reduceSub, Nat.reduceEqDiff, Nat.reduceBEq, Nat.reduceLeDiff, Nat.reduceLT, Int.reduceAdd, Int.reduceMul, Int.reduceSub, Int.reduceLT, Int.reduceLE, Int.reduceToNat, Int.reduceEq, Int.reduceNe, Int.reduceBEq, Int.reduceBNe, ne_eq, eq_self]
        exact ⟨⟨j + 1, by omega, rfl, by simp [gt, e0], by simp [gt, e9], by simp [gt, e3], by simp [gt, e5], by simp [gt, e6], by simp [gt, e8], hS⟩, by simp [gt, iv, e10]; omega⟩
    have hin : (j : Int) = n := by omega
    have d1 : decide ((j : Int) < (n : Int)) = false := decide_eq_false (by omega)
    simp only [e10, e0, e9, e3, e5, e6, e8, d1, ↓D0, ↓D1, ↓D2, ↓D3, ↓D4, ↓D5, ↓D6, ↓D7, ↓D8, ↓D9, U0, U1, U2, U3, U4, U5, U6, U7, U8, U9, U10, ↓reduceIte, Nat.reduceAdd, Nat.reduceMul, Nat.reduceSub, Nat.reduceEqDiff, Nat.reduceBEq, Nat.reduceLeDiff, Nat.reduceLT, Int.reduceAdd, Int.reduceMul, Int.reduceSub, Int.reduceLT, Int.reduceLE, Int.reduceToNat, Int.reduceEq, Int.reduceNe, Int.reduceBEq, Int.reduceBNe, ne_eq, eq_self]
    refine callT_of (c_last hS.tail) ?_
    rintro v H' ⟨rfl, hS⟩
    rw [hlast]
    simp only [e10, e0, e9, e3, e5, e6, e8, ↓D0, ↓D1, ↓D2, ↓D3, ↓D4, ↓D5, ↓D6, ↓D7, ↓D8, ↓D9, U0, U1, U2, U3, U4, U5, U6, U7, U8, U9, U10, ↓reduceIte, Nat.reduceAdd, Nat.reduceMul, Nat.reduceSub, Nat.reduceEqDiff, Nat.reduceBEq, Nat.reduceLeDiff, Nat.reduceLT, Int.reduceAdd, Int.reduceMul, Int.reduceSub, Int.reduceLT, Int.reduceLE, Int.reduceToNat, Int.reduceEq, Int.reduceNe, Int.reduceBEq, Int.reduceBNe, ne_eq, eq_self]
    refine newB_intro fun y hy f3 f4 => ?_
    have hxm := xrd hS (by simp)
    have nzy : (z = y) = False := f3 z (by rw [hS.lk 3 rfl]; rfl)
    have nyz : (y = z) = False := f4 z (by rw [hS.lk 3 rfl]; rfl)
    have nxy : (xb = y) = False := f3 xb (by rw [hxm]; rfl)
    have nyx : (y = xb) = False := f4 xb (by rw [hxm]; rfl)
    have hS := hS.new f3 (.cells #[.int .i64 0, .int .i64 0, .int .i64 0, .int .u64 0, .int .u64 0, .bool false] 41 (0, 0))
    have hS := hS.set (.cells #[.int .i64 cl, .int .i64 1, .int .i64 q, .int .u64 (ws q.toNat), .int .u64 w2.pt, .bool w2.ok] 41 (0, 0))
    rw [Ev.upd_upd] at hS
    have hy1 := hS.look
    have hz1 := hS.lk 4 rfl
    have hxm := xrd hS (by simp)
    have hrd := rrd hS (by simp)
    have ry := fun o => rd_of hy1 o
    have rz := fun o => rd_of hz1 o
    have cn : ((n : Int) == (n : Int)) = true := by simp
    have cs : (w2.st == 1) = true := beq_iff_eq.2 hst2
    have cq : (q == q) = true := by simp
    have cc : (cl == cl) = true := by simp
    have cw : (ws q.toNat == ws q.toNat) = true := by simp
    simp only [e10, e0, e9, e3, e5, e6, e8, Ev.upd_upd, ↓D0, ↓D1, ↓D2, ↓D3, ↓D4, ↓D5, ↓D6, ↓D7, ↓D8, ↓D9, U0, U1, U2, U3, U4, U5, U6, U7, U8, U9, U10, ↓reduceIte, Nat.reduceAdd, Nat.reduceMul, Nat.reduceSub, Nat.reduceEqDiff, Nat.reduceBEq, Nat.reduceLeDiff, Nat.reduceLT, Int.reduceAdd, Int.reduceMul, Int.reduceSub, Int.reduceLT, Int.reduceLE, Int.reduceToNat, Int.reduceEq, Int.reduceNe, Int.reduceBEq, Int.reduceBNe, ne_eq, eq_self]
    refine draw_intro [(y, #[.int .i64 cl, .int .i64 1, .int .i64 q, .int .u64 (ws q.toNat), .int .u64 w2.pt, .bool w2.ok], []), (z, #[.int .i64 dd, .int .i64 cl, .int .i64 at', .int .u64 wa, .int .u64 x], []), (xb, xc, [])] (by simp only [hy1, hz1, hxm, ↓D0, ↓D1, ↓D2, ↓D3, ↓D4, ↓D5, ↓D6, ↓D7, ↓D8, ↓D9, U0, U1, U2, U3, U4, U5, U6, U7, U8, U9, U10, ↓reduceIte, Nat.reduceAdd, Nat.reduceMul, Nat.reduceSub, Nat.reduceEqDiff, Nat.reduceBEq, Nat.reduceLeDiff, Nat.reduceLT, Int.reduceAdd, Int.reduceMul, Int.reduceSub, Int.reduceLT, Int.reduceLE, Int.reduceToNat, Int.reduceEq, Int.reduceNe, Int.reduceBEq, Int.reduceBNe, ne_eq, eq_self]) ?_
    simp only [e10, e0, e9, e3, e5, e6, e8, cn, ↓D0, ↓D1, ↓D2, ↓D3, ↓D4, ↓D5, ↓D6, ↓D7, ↓D8, ↓D9, U0, U1, U2, U3, U4, U5, U6, U7, U8, U9, U10, ↓reduceIte, Nat.reduceAdd, Nat.reduceMul, Nat.reduceSub, Nat.reduceEqDiff, Nat.reduceBEq, Nat.reduceLeDiff, Nat.reduceLT, Int.reduceAdd, Int.reduceMul, Int.reduceSub, Int.reduceLT, Int.reduceLE, Int.reduceToNat, Int.reduceEq, Int.reduceNe, Int.reduceBEq, Int.reduceBNe, ne_eq, eq_self]
    refine callT_of (c_steps hS.p1) ?_
    rintro v H' ⟨rfl, hS⟩
    have hy1 := hS.lk 1 rfl
    have hz1 := hS.lk 4 rfl
    have hxm := xrd hS (by simp)
    have hrd := rrd hS (by simp)
    have ry := fun o => rd_of hy1 o
    have rz := fun o => rd_of hz1 o
    simp only [e10, e0, e9, e3, e5, e6, e8, hy1, hz1, hxm, ry, rz, hrd, hxc, nzy, nyz, nxy, nyx, nxz, nzx, q0, q1, cs, cq, cc, cw, hrr, e, ↓D0, ↓D1, ↓D2, ↓D3, ↓D4, ↓D5, ↓D6, ↓D7, ↓D8, ↓D9, U0, U1, U2, U3, U4, U5, U6, U7, U8, U9, U10, ↓reduceIte, Nat.reduceAdd, Nat.reduceMul, Nat.reduceSub, Nat.reduceEqDiff, Nat.reduceBEq, Nat.reduceLeDiff, Nat.reduceLT, Int.reduceAdd, Int.reduceMul, Int.reduceSub, Int.reduceLT, Int.reduceLE, Int.reduceToNat, Int.reduceEq, Int.reduceNe, Int.reduceBEq, Int.reduceBNe, ne_eq, eq_self]
    exact hS.tail.tail.tail.p1.tail
  · by_cases hE : ws q.toNat = wa
    · have cE : (w.get q == wa) = true := by rw [hwg]; exact beq_iff_eq.2 hE
      have cE2 : (wa == ws q.toNat) = true := beq_iff_eq.2 hE.symm
      simp only [hz1, rz, q0, q1, hrd, hrr, e, ↓D0, ↓D1, ↓D2, ↓D3, ↓D4, ↓D5, ↓D6, ↓D7, ↓D8, ↓D9, U0, U1, U2, U3, U4, U5, U6, U7, U8, U9, U10, ↓reduceIte, Nat.reduceAdd, Nat.reduceMul, Nat.reduceSub, Nat.reduceEqDiff, Nat.reduceBEq, Nat.reduceLeDiff, Nat.reduceLT, Int.reduceAdd, Int.reduceMul, Int.reduceSub, Int.reduceLT, Int.reduceLE, Int.reduceToNat, Int.reduceEq, Int.reduceNe, Int.reduceBEq, Int.reduceBNe, ne_eq, eq_self]
      refine callT_of (c_swap cl q wa x q0 q1' hS) ?_
      rintro v H' ⟨rfl, hS⟩
      have hz1 := hS.lk 3 rfl
      have rz := fun o => rd_of hz1 o
      have hrd := rrd hS (by simp)
      simp only [hz1, rz, q0, q1, hrd, cE, cE2, ↓D0, ↓D1, ↓D2, ↓D3, ↓D4, ↓D5, ↓D6, ↓D7, ↓D8, ↓D9, U0, U1, U2, U3, U4, U5, U6, U7, U8, U9, U10, ↓reduceIte, Nat.reduceAdd, Nat.reduceMul, Nat.reduceSub, Nat.reduceEqDiff, Nat.reduceBEq, Nat.reduceLeDiff, Nat.reduceLT, Int.reduceAdd, Int.reduceMul, Int.reduceSub, Int.reduceLT, Int.reduceLE, Int.reduceToNat, Int.reduceEq, Int.reduceNe, Int.reduceBEq, Int.reduceBNe, ne_eq, eq_self]
      obtain ⟨w2, hw2⟩ : ∃ w2, w2 = w.swap cl q wa x := ⟨_, rfl⟩
      rw [← hw2] at hS
      have hwn2 : w2.n = n := by rw [hw2]; exact hwn
      have hjs : ∀ j, j < n → w2.ws j = if j = q.toNat then x else ws j := (by rw [hw2]; intro j hj; show (if j = q.toNat then (if (w.get q == wa) = true then x else w.get q) else w.ws j) = _; rw [hwj j hj, cE]; simp)
      have hst2 : w2.st = 1 := by rw [hw2]; exact hst
      have hlast : wlast w2 = #[.int .i64 cl, .int .i64 2, .int .i64 q, .int .u64 (ws q.toNat), .int .u64 w2.pt, .bool w2.ok] := by
        rw [hw2]; show #[_, _, _, Value.int .u64 (w.get q), _, _] = _; rw [hwg]; rfl
      have hz1 := hS.lk 3 rfl
      have rz := fun o => rd_of hz1 o
      have hrd := rrd hS (by simp)
      try simp only [hz1, rz, q0, q1, hrd, hrr, e, wrap_wu, ↓D0, ↓D1, ↓D2, ↓D3, ↓D4, ↓D5, ↓D6, ↓D7, ↓D8, ↓D9, U0, U1, U2, U3, U4, U5, U6, U7, U8, U9, U10, ↓reduceIte, Nat.reduceAdd, Nat.reduceMul, Nat.reduceSub, Nat.reduceEqDiff, Nat.reduceBEq, Nat.reduceLeDiff, Nat.reduceLT, Int.reduceAdd, Int.reduceMul, Int.reduceSub, Int.reduceLT, Int.reduceLE, Int.reduceToNat, Int.reduceEq, Int.reduceNe, Int.reduceBEq, Int.reduceBNe, ne_eq, eq_self]
      refine callT_of (c_all (by omega) hS) ?_
      rintro v H' ⟨a2, cap2, h2, rfl, hr2, hS⟩
      rw [hwn2] at hr2
      simp only [hwn2, ↓D0, ↓D1, ↓D2, ↓D3, ↓D4, ↓D5, ↓D6, ↓D7, ↓D8, ↓D9, U0, U1, U2, U3, U4, U5, U6, U7, U8, U9, U10, ↓reduceIte, Nat.reduceAdd, Nat.reduceMul, Nat.reduceSub, Nat.reduceEqDiff, Nat.reduceBEq, Nat.reduceLeDiff, Nat.reduceLT, Int.reduceAdd, Int.reduceMul, Int.reduceSub, Int.reduceLT, Int.reduceLE, Int.reduceToNat, Int.reduceEq, Int.reduceNe, Int.reduceBEq, Int.reduceBNe, ne_eq, eq_self]
      refine loop_intro (woI n cap cap2 _ a2 z b q (x) r (h2 :: wB b s w2 :: wR s w2 :: h :: sg z (.cells #[.int .i64 dd, .int .i64 cl, .int .i64 at', .int .u64 wa, .int .u64 x] 37 (0, 0)) :: l)) (fun F' _ => (n - iv (gt F' 10)).toNat)
        ⟨0, Nat.zero_le _, rfl, rfl, rfl, rfl, rfl, rfl, rfl, hS⟩ ?_
      rintro F' H' ⟨j, hj, e10, e0, e9, e3, e5, e6, e8, hS⟩
      by_cases hlt : j < n
      · have d1 : decide ((j : Int) < (n : Int)) = true := decide_eq_true (by omega)
        have d2 : (0 : Int) ≤ (j : Int) := by omega
        have d3 : (j : Int) < (n : Int) := by omega
        have wj : w64 ((j : Int) + 1) = ((j + 1 : Nat) : Int) := by rw [w64_eq (by omega) (by omega)]; omega
        obtain ⟨yb, yo, hya, hrd2⟩ := (hr2.sub (hS.sb h2 (by simp))).at' hlt
        obtain ⟨ub, uo, hua, hrd3⟩ := (hr.sub (hS.sb h (by simp))).at' hlt
        cases hua
        subst hya
        have hjv := hjs j hlt
        by_cases hjq : j = q.toNat
        · rw [if_pos hjq] at hjv
          have c1 : ((j : Int) != q) = false := by rw [show (j : Int) = q by omega]; simp
          have c2 : ((j : Int) == q) = true := beq_iff_eq.2 (by omega)
          have c3 : (w2.ws j != x) = false := by rw [hjv]; simp
          simp only [e10, e0, e9, e3, e5, e6, e8, d1, d2, d3, c1, c2, hrd2, c3, wrap_w64, wj, Int.toNat_natCast, ↓D0, ↓D1, ↓D2, ↓D3, ↓D4, ↓D5, ↓D6, ↓D7, ↓D8, ↓D9, U0, U1, U2, U3, U4, U5, U6, U7, U8, U9, U10, ↓reduceIte, Nat.reduceAdd, Nat.reduceMul, Nat.reduceSub, Nat.reduceEqDiff, Nat.reduceBEq, Nat.reduceLeDiff, Nat.reduceLT, Int.reduceAdd, Int.reduceMul, Int.reduceSub, Int.reduceLT, Int.reduceLE, Int.reduceToNat, Int.reduceEq, Int.reduceNe, Int.reduceBEq, Int.reduceBNe, ne_eq, eq_self]
          exact ⟨⟨j + 1, by omega, rfl, by simp [gt, e0], by simp [gt, e9], by simp [gt, e3], by simp [gt, e5], by simp [gt, e6], by simp [gt, e8], hS⟩, by simp [gt, iv, e10]; omega⟩
        · rw [if_neg hjq] at hjv
          have c1 : ((j : Int) != q) = true := by have : (j : Int) ≠ q := by omega
                                                  simpa using this
          have c2 : ((j : Int) == q) = false := beq_eq_false_iff_ne.2 (by omega)
          have c3 : (w2.ws j != ws j) = false := by rw [hjv]; simp
          simp only [e10, e0, e9, e3, e5, e6, e8, d1, d2, d3, c1, c2, hrd2, hrd3, c3, wrap_w64, wj, Int.toNat_natCast, ↓D0, ↓D1, ↓D2, ↓D3, ↓D4, ↓D5, ↓D6, ↓D7, ↓D8, ↓D9, U0, U1, U2, U3, U4, U5, U6, U7, U8, U9, U10, ↓reduceIte, Nat.reduceAdd, Nat.reduceMul, Nat.reduceSub, Nat.reduceEqDiff, Nat.reduceBEq, Nat.reduceLeDiff, Nat.reduceLT, Int.reduceAdd, Int.reduceMul, Int.reduceSub, Int.reduceLT, Int.reduceLE, Int.reduceToNat, Int.reduceEq, Int.reduceNe, Int.reduceBEq, Int.reduceBNe, ne_eq, eq_self]
          exact ⟨⟨j + 1, by omega, rfl, by simp [gt, e0], by simp [gt, e9], by simp [gt, e3], by simp [gt, e5], by simp [gt, e6], by simp [gt, e8], hS⟩, by simp [gt, iv, e10]; omega⟩
      have hin : (j : Int) = n := by omega
      have d1 : decide ((j : Int) < (n : Int)) = false := decide_eq_false (by omega)
      simp only [e10, e0, e9, e3, e5, e6, e8, d1, ↓D0, ↓D1, ↓D2, ↓D3, ↓D4, ↓D5, ↓D6, ↓D7, ↓D8, ↓D9, U0, U1, U2, U3, U4, U5, U6, U7, U8, U9, U10, ↓reduceIte, Nat.reduceAdd, Nat.reduceMul, Nat.reduceSub, Nat.reduceEqDiff, Nat.reduceBEq, Nat.reduceLeDiff, Nat.reduceLT, Int.reduceAdd, Int.reduceMul, Int.reduceSub, Int.reduceLT, Int.reduceLE, Int.reduceToNat, Int.reduceEq, Int.reduceNe, Int.reduceBEq, Int.reduceBNe, ne_eq, eq_self]
      refine callT_of (c_last hS.tail) ?_
      rintro v H' ⟨rfl, hS⟩
      rw [hlast]
      simp only [e10, e0, e9, e3, e5, e6, e8, ↓D0, ↓D1, ↓D2, ↓D3, ↓D4, ↓D5, ↓D6, ↓D7, ↓D8, ↓D9, U0, U1, U2, U3, U4, U5, U6, U7, U8, U9, U10, ↓reduceIte, Nat.reduceAdd, Nat.reduceMul, Nat.reduceSub, Nat.reduceEqDiff, Nat.reduceBEq, Nat.reduceLeDiff, Nat.reduceLT, Int.reduceAdd, Int.reduceMul, Int.reduceSub, Int.reduceLT, Int.reduceLE, Int.reduceToNat, Int.reduceEq, Int.reduceNe, Int.reduceBEq, Int.reduceBNe, ne_eq, eq_self]
      refine newB_intro fun y hy f3 f4 => ?_
      have hxm := xrd hS (by simp)
      have nzy : (z = y) = False := f3 z (by rw [hS.lk 3 rfl]; rfl)
      have nyz : (y = z) = False := f4 z (by rw [hS.lk 3 rfl]; rfl)
      have nxy : (xb = y) = False := f3 xb (by rw [hxm]; rfl)
      have nyx : (y = xb) = False := f4 xb (by rw [hxm]; rfl)
      have hS := hS.new f3 (.cells #[.int .i64 0, .int .i64 0, .int .i64 0, .int .u64 0, .int .u64 0, .bool false] 41 (0, 0))
      have hS := hS.set (.cells #[.int .i64 cl, .int .i64 2, .int .i64 q, .int .u64 (ws q.toNat), .int .u64 w2.pt, .bool w2.ok] 41 (0, 0))
      rw [Ev.upd_upd] at hS
      have hy1 := hS.look
      have hz1 := hS.lk 4 rfl
      have hxm := xrd hS (by simp)
      have hrd := rrd hS (by simp)
      have ry := fun o => rd_of hy1 o
      have rz := fun o => rd_of hz1 o
      have cn : ((n : Int) == (n : Int)) = true := by simp
      have cs : (w2.st == 1) = true := beq_iff_eq.2 hst2
      have cq : (q == q) = true := by simp
      have cc : (cl == cl) = true := by simp
      have cw : (ws q.toNat == ws q.toNat) = true := by simp
      simp only [e10, e0, e9, e3, e5, e6, e8, Ev.upd_upd, ↓D0, ↓D1, ↓D2, ↓D3, ↓D4, ↓D5, ↓D6, ↓D7, ↓D8, ↓D9, U0, U1, U2, U3, U4, U5, U6, U7, U8, U9, U10, ↓reduceIte, Nat.reduceAdd, Nat.reduceMul, Nat.reduceSub, Nat.reduceEqDiff, Nat.reduceBEq, Nat.reduceLeDiff, Nat.reduceLT, Int.reduceAdd, Int.reduceMul, Int.reduceSub, Int.reduceLT, Int.reduceLE, Int.reduceToNat, Int.reduceEq, Int.reduceNe, Int.reduceBEq, Int.reduceBNe, ne_eq, eq_self]
      refine draw_intro [(y, #[.int .i64 cl, .int .i64 2, .int .i64 q, .int .u64 (ws q.toNat), .int .u64 w2.pt, .bool w2.ok], []), (z, #[.int .i64 dd, .int .i64 cl, .int .i64 at', .int .u64 wa, .int .u64 x], []), (xb, xc, [])] (by simp only [hy1, hz1, hxm, ↓D0, ↓D1, ↓D2, ↓D3, ↓D4, ↓D5, ↓D6, ↓D7, ↓D8, ↓D9, U0, U1, U2, U3, U4, U5, U6, U7, U8, U9, U10, ↓reduceIte, Nat.reduceAdd, Nat.reduceMul, Nat.reduceSub, Nat.reduceEqDiff, Nat.reduceBEq, Nat.reduceLeDiff, Nat.reduceLT, Int.reduceAdd, Int.reduceMul, Int.reduceSub, Int.reduceLT, Int.reduceLE, Int.reduceToNat, Int.reduceEq, Int.reduceNe, Int.reduceBEq, Int.reduceBNe, ne_eq, eq_self]) ?_
      simp only [e10, e0, e9, e3, e5, e6, e8, cn, ↓D0, ↓D1, ↓D2, ↓D3, ↓D4, ↓D5, ↓D6, ↓D7, ↓D8, ↓D9, U0, U1, U2, U3, U4, U5, U6, U7, U8, U9, U10, ↓reduceIte, Nat.reduceAdd, Nat.reduceMul, Nat.reduceSub, Nat.reduceEqDiff, Nat.reduceBEq, Nat.reduceLeDiff, Nat.reduceLT, Int.reduceAdd, Int.reduceMul, Int.reduceSub, Int.reduceLT, Int.reduceLE, Int.reduceToNat, Int.reduceEq, Int.reduceNe, Int.reduceBEq, Int.reduceBNe, ne_eq, eq_self]
      refine callT_of (c_steps hS.p1) ?_
      rintro v H' ⟨rfl, hS⟩
      have hy1 := hS.lk 1 rfl
      have hz1 := hS.lk 4 rfl
      have hxm := xrd hS (by simp)
      have hrd := rrd hS (by simp)
      have ry := fun o => rd_of hy1 o
      have rz := fun o => rd_of hz1 o
      simp only [e10, e0, e9, e3, e5, e6, e8, hy1, hz1, hxm, ry, rz, hrd, hxc, nzy, nyz, nxy, nyx, nxz, nzx, q0, q1, cs, cq, cc, cw, hrr, e, ↓D0, ↓D1, ↓D2, ↓D3, ↓D4, ↓D5, ↓D6, ↓D7, ↓D8, ↓D9, U0, U1, U2, U3, U4, U5, U6, U7, U8, U9, U10, ↓reduceIte, Nat.reduceAdd, Nat.reduceMul, Nat.reduceSub, Nat.reduceEqDiff, Nat.reduceBEq, Nat.reduceLeDiff, Nat.reduceLT, Int.reduceAdd, Int.reduceMul, Int.reduceSub, Int.reduceLT, Int.reduceLE, Int.reduceToNat, Int.reduceEq, Int.reduceNe, Int.reduceBEq, Int.reduceBNe, ne_eq, eq_self]
      exact hS.tail.tail.tail.p1.tail
    · have cE : (w.get q == wa) = false := by rw [hwg]; exact beq_eq_false_iff_ne.2 hE
      have cE2 : (wa == ws q.toNat) = false := beq_eq_false_iff_ne.2 fun h => hE h.symm
      simp only [hz1, rz, q0, q1, hrd, hrr, e, ↓D0, ↓D1, ↓D2, ↓D3, ↓D4, ↓D5, ↓D6, ↓D7, ↓D8, ↓D9, U0, U1, U2, U3, U4, U5, U6, U7, U8, U9, U10, ↓reduceIte, Nat.reduceAdd, Nat.reduceMul, Nat.reduceSub, Nat.reduceEqDiff, Nat.reduceBEq, Nat.reduceLeDiff, Nat.reduceLT, Int.reduceAdd, Int.reduceMul, Int.reduceSub, Int.reduceLT, Int.reduceLE, Int.reduceToNat, Int.reduceEq, Int.reduceNe, Int.reduceBEq, Int.reduceBNe, ne_eq, eq_self]
      refine callT_of (c_swap cl q wa x q0 q1' hS) ?_
      rintro v H' ⟨rfl, hS⟩
      have hz1 := hS.lk 3 rfl
      have rz := fun o => rd_of hz1 o
      have hrd := rrd hS (by simp)
      simp only [hz1, rz, q0, q1, hrd, cE, cE2, ↓D0, ↓D1, ↓D2, ↓D3, ↓D4, ↓D5, ↓D6, ↓D7, ↓D8, ↓D9, U0, U1, U2, U3, U4, U5, U6, U7, U8, U9, U10, ↓reduceIte, Nat.reduceAdd, Nat.reduceMul, Nat.reduceSub, Nat.reduceEqDiff, Nat.reduceBEq, Nat.reduceLeDiff, Nat.reduceLT, Int.reduceAdd, Int.reduceMul, Int.reduceSub, Int.reduceLT, Int.reduceLE, Int.reduceToNat, Int.reduceEq, Int.reduceNe, Int.reduceBEq, Int.reduceBNe, ne_eq, eq_self]
      obtain ⟨w2, hw2⟩ : ∃ w2, w2 = w.swap cl q wa x := ⟨_, rfl⟩
      rw [← hw2] at hS
      have hwn2 : w2.n = n := by rw [hw2]; exact hwn
      have hjs : ∀ j, j < n → w2.ws j = if j = q.toNat then ws q.toNat else ws j := (by rw [hw2]; intro j hj; show (if j = q.toNat then (if (w.get q == wa) = true then x else w.get q) else w.ws j) = _; rw [hwj j hj, cE, hwg]; simp)
      have hst2 : w2.st = 1 := by rw [hw2]; exact hst
      have hlast : wlast w2 = #[.int .i64 cl, .int .i64 2, .int .i64 q, .int .u64 (ws q.toNat), .int .u64 w2.pt, .bool w2.ok] := by
        rw [hw2]; show #[_, _, _, Value.int .u64 (w.get q), _, _] = _; rw [hwg]; rfl
      have hz1 := hS.lk 3 rfl
      have rz := fun o => rd_of hz1 o
      have hrd := rrd hS (by simp)
      try simp only [hz1, rz, q0, q1, hrd, hrr, e, wrap_wu, ↓D0, ↓D1, ↓D2, ↓D3, ↓D4, ↓D5, ↓D6, ↓D7, ↓D8, ↓D9, U0, U1, U2, U3, U4, U5, U6, U7, U8, U9, U10, ↓reduceIte, Nat.reduceAdd, Nat.reduceMul, Nat.reduceSub, Nat.reduceEqDiff, Nat.reduceBEq, Nat.reduceLeDiff, Nat.reduceLT, Int.reduceAdd, Int.reduceMul, Int.reduceSub, Int.reduceLT, Int.reduceLE, Int.reduceToNat, Int.reduceEq, Int.reduceNe, Int.reduceBEq, Int.reduceBNe, ne_eq, eq_self]
      refine callT_of (c_all (by omega) hS) ?_
      rintro v H' ⟨a2, cap2, h2, rfl, hr2, hS⟩
      rw [hwn2] at hr2
      simp only [hwn2, ↓D0, ↓D1, ↓D2, ↓D3, ↓D4, ↓D5, ↓D6, ↓D7, ↓D8, ↓D9, U0, U1, U2, U3, U4, U5, U6, U7, U8, U9, U10, ↓reduceIte, Nat.reduceAdd, Nat.reduceMul, Nat.reduceSub, Nat.reduceEqDiff, Nat.reduceBEq, Nat.reduceLeDiff, Nat.reduceLT, Int.reduceAdd, Int.reduceMul, Int.reduceSub, Int.reduceLT, Int.reduceLE, Int.reduceToNat, Int.reduceEq, Int.reduceNe, Int.reduceBEq, Int.reduceBNe, ne_eq, eq_self]
      refine loop_intro (woI n cap cap2 _ a2 z b q (ws q.toNat) r (h2 :: wB b s w2 :: wR s w2 :: h :: sg z (.cells #[.int .i64 dd, .int .i64 cl, .int .i64 at', .int .u64 wa, .int .u64 x] 37 (0, 0)) :: l)) (fun F' _ => (n - iv (gt F' 10)).toNat)
        ⟨0, Nat.zero_le _, rfl, rfl, rfl, rfl, rfl, rfl, rfl, hS⟩ ?_
      rintro F' H' ⟨j, hj, e10, e0, e9, e3, e5, e6, e8, hS⟩
      by_cases hlt : j < n
      · have d1 : decide ((j : Int) < (n : Int)) = true := decide_eq_true (by omega)
        have d2 : (0 : Int) ≤ (j : Int) := by omega
        have d3 : (j : Int) < (n : Int) := by omega
        have wj : w64 ((j : Int) + 1) = ((j + 1 : Nat) : Int) := by rw [w64_eq (by omega) (by omega)]; omega
        obtain ⟨yb, yo, hya, hrd2⟩ := (hr2.sub (hS.sb h2 (by simp))).at' hlt
        obtain ⟨ub, uo, hua, hrd3⟩ := (hr.sub (hS.sb h (by simp))).at' hlt
        cases hua
        subst hya
        have hjv := hjs j hlt
        by_cases hjq : j = q.toNat
        · rw [if_pos hjq] at hjv
          have c1 : ((j : Int) != q) = false := by rw [show (j : Int) = q by omega]; simp
          have c2 : ((j : Int) == q) = true := beq_iff_eq.2 (by omega)
          have c3 : (w2.ws j != ws q.toNat) = false := by rw [hjv]; simp
          simp only [e10, e0, e9, e3, e5, e6, e8, d1, d2, d3, c1, c2, hrd2, c3, wrap_w64, wj, Int.toNat_natCast, ↓D0, ↓D1, ↓D2, ↓D3, ↓D4, ↓D5, ↓D6, ↓D7, ↓D8, ↓D9, U0, U1, U2, U3, U4, U5, U6, U7, U8, U9, U10, ↓reduceIte, Nat.reduceAdd, Nat.reduceMul, Nat.reduceSub, Nat.reduceEqDiff, Nat.reduceBEq, Nat.reduceLeDiff, Nat.reduceLT, Int.reduceAdd, Int.reduceMul, Int.reduceSub, Int.reduceLT, Int.reduceLE, Int.reduceToNat, Int.reduceEq, Int.reduceNe, Int.reduceBEq, Int.reduceBNe, ne_eq, eq_self]
          exact ⟨⟨j + 1, by omega, rfl, by simp [gt, e0], by simp [gt, e9], by simp [gt, e3], by simp [gt, e5], by simp [gt, e6], by simp [gt, e8], hS⟩, by simp [gt, iv, e10]; omega⟩
        · rw [if_neg hjq] at hjv
          have c1 : ((j : Int) != q) = true := by have : (j : Int) ≠ q := by omega
                                                  simpa using this
          have c2 : ((j : Int) == q) = false := beq_eq_false_iff_ne.2 (by omega)
          have c3 : (w2.ws j != ws j) = false := by rw [hjv]; simp
          simp only [e10, e0, e9, e3, e5, e6, e8, d1, d2, d3, c1, c2, hrd2, hrd3, c3, wrap_w64, wj, Int.toNat_natCast, ↓D0, ↓D1, ↓D2, ↓D3, ↓D4, ↓D5, ↓D6, ↓D7, ↓D8, ↓D9, U0, U1, U2, U3, U4, U5, U6, U7, U8, U9, U10, ↓reduceIte, Nat.reduceAdd, Nat.reduceMul, Nat.reduceSub, Nat.reduceEqDiff, Nat.reduceBEq, Nat.reduceLeDiff, Nat.reduceLT, Int.reduceAdd, Int.reduceMul, Int.reduceSub, Int.reduceLT, Int.reduceLE, Int.reduceToNat, Int.reduceEq, Int.reduceNe, Int.reduceBEq, Int.reduceBNe, ne_eq, eq_self]
          exact ⟨⟨j + 1, by omega, rfl, by simp [gt, e0], by simp [gt, e9], by simp [gt, e3], by simp [gt, e5], by simp [gt, e6], by simp [gt, e8], hS⟩, by simp [gt, iv, e10]; omega⟩
      have hin : (j : Int) = n := by omega
      have d1 : decide ((j : Int) < (n : Int)) = false := decide_eq_false (by omega)
      simp only [e10, e0, e9, e3, e5, e6, e8, d1, ↓D0, ↓D1, ↓D2, ↓D3, ↓D4, ↓D5, ↓D6, ↓D7, ↓D8, ↓D9, U0, U1, U2, U3, U4, U5, U6, U7, U8, U9, U10, ↓reduceIte, Nat.reduceAdd, Nat.reduceMul, Nat.reduceSub, Nat.reduceEqDiff, Nat.reduceBEq, Nat.reduceLeDiff, Nat.reduceLT, Int.reduceAdd, Int.reduceMul, Int.reduceSub, Int.reduceLT, Int.reduceLE, Int.reduceToNat, Int.reduceEq, Int.reduceNe, Int.reduceBEq, Int.reduceBNe, ne_eq, eq_self]
      refine callT_of (c_last hS.tail) ?_
      rintro v H' ⟨rfl, hS⟩
      rw [hlast]
      simp only [e10, e0, e9, e3, e5, e6, e8, ↓D0, ↓D1, ↓D2, ↓D3, ↓D4, ↓D5, ↓D6, ↓D7, ↓D8, ↓D9, U0, U1, U2, U3, U4, U5, U6, U7, U8, U9, U10, ↓reduceIte, Nat.reduceAdd, Nat.reduceMul, Nat.reduceSub, Nat.reduceEqDiff, Nat.reduceBEq, Nat.reduceLeDiff, Nat.reduceLT, Int.reduceAdd, Int.reduceMul, Int.reduceSub, Int.reduceLT, Int.reduceLE, Int.reduceToNat, Int.reduceEq, Int.reduceNe, Int.reduceBEq, Int.reduceBNe, ne_eq, eq_self]
      refine newB_intro fun y hy f3 f4 => ?_
      have hxm := xrd hS (by simp)
      have nzy : (z = y) = False := f3 z (by rw [hS.lk 3 rfl]; rfl)
      have nyz : (y = z) = False := f4 z (by rw [hS.lk 3 rfl]; rfl)
      have nxy : (xb = y) = False := f3 xb (by rw [hxm]; rfl)
      have nyx : (y = xb) = False := f4 xb (by rw [hxm]; rfl)
      have hS := hS.new f3 (.cells #[.int .i64 0, .int .i64 0, .int .i64 0, .int .u64 0, .int .u64 0, .bool false] 41 (0, 0))
      have hS := hS.set (.cells #[.int .i64 cl, .int .i64 2, .int .i64 q, .int .u64 (ws q.toNat), .int .u64 w2.pt, .bool w2.ok] 41 (0, 0))
      rw [Ev.upd_upd] at hS
      have hy1 := hS.look
      have hz1 := hS.lk 4 rfl
      have hxm := xrd hS (by simp)
      have hrd := rrd hS (by simp)
      have ry := fun o => rd_of hy1 o
      have rz := fun o => rd_of hz1 o
      have cn : ((n : Int) == (n : Int)) = true := by simp
      have cs : (w2.st == 1) = true := beq_iff_eq.2 hst2
      have cq : (q == q) = true := by simp
      have cc : (cl == cl) = true := by simp
      have cw : (ws q.toNat == ws q.toNat) = true := by simp
      simp only [e10, e0, e9, e3, e5, e6, e8, Ev.upd_upd, ↓D0, ↓D1, ↓D2, ↓D3, ↓D4, ↓D5, ↓D6, ↓D7, ↓D8, ↓D9, U0, U1, U2, U3, U4, U5, U6, U7, U8, U9, U10, ↓reduceIte, Nat.reduceAdd, Nat.reduceMul, Nat.reduceSub, Nat.reduceEqDiff, Nat.reduceBEq, Nat.reduceLeDiff, Nat.reduceLT, Int.reduceAdd, Int.reduceMul, Int.reduceSub, Int.reduceLT, Int.reduceLE, Int.reduceToNat, Int.reduceEq, Int.reduceNe, Int.reduceBEq, Int.reduceBNe, ne_eq, eq_self]
      refine draw_intro [(y, #[.int .i64 cl, .int .i64 2, .int .i64 q, .int .u64 (ws q.toNat), .int .u64 w2.pt, .bool w2.ok], []), (z, #[.int .i64 dd, .int .i64 cl, .int .i64 at', .int .u64 wa, .int .u64 x], []), (xb, xc, [])] (by simp only [hy1, hz1, hxm, ↓D0, ↓D1, ↓D2, ↓D3, ↓D4, ↓D5, ↓D6, ↓D7, ↓D8, ↓D9, U0, U1, U2, U3, U4, U5, U6, U7, U8, U9, U10, ↓reduceIte, Nat.reduceAdd, Nat.reduceMul, Nat.reduceSub, Nat.reduceEqDiff, Nat.reduceBEq, Nat.reduceLeDiff, Nat.reduceLT, Int.reduceAdd, Int.reduceMul, Int.reduceSub, Int.reduceLT, Int.reduceLE, Int.reduceToNat, Int.reduceEq, Int.reduceNe, Int.reduceBEq, Int.reduceBNe, ne_eq, eq_self]) ?_
      simp only [e10, e0, e9, e3, e5, e6, e8, cn, ↓D0, ↓D1, ↓D2, ↓D3, ↓D4, ↓D5, ↓D6, ↓D7, ↓D8, ↓D9, U0, U1, U2, U3, U4, U5, U6, U7, U8, U9, U10, ↓reduceIte, Nat.reduceAdd, Nat.reduceMul, Nat.reduceSub, Nat.reduceEqDiff, Nat.reduceBEq, Nat.reduceLeDiff, Nat.reduceLT, Int.reduceAdd, Int.reduceMul, Int.reduceSub, Int.reduceLT, Int.reduceLE, Int.reduceToNat, Int.reduceEq, Int.reduceNe, Int.reduceBEq, Int.reduceBNe, ne_eq, eq_self]
      refine callT_of (c_steps hS.p1) ?_
      rintro v H' ⟨rfl, hS⟩
      have hy1 := hS.lk 1 rfl
      have hz1 := hS.lk 4 rfl
      have hxm := xrd hS (by simp)
      have hrd := rrd hS (by simp)
      have ry := fun o => rd_of hy1 o
      have rz := fun o => rd_of hz1 o
      simp only [e10, e0, e9, e3, e5, e6, e8, hy1, hz1, hxm, ry, rz, hrd, hxc, nzy, nyz, nxy, nyx, nxz, nzx, q0, q1, cs, cq, cc, cw, hrr, e, ↓D0, ↓D1, ↓D2, ↓D3, ↓D4, ↓D5, ↓D6, ↓D7, ↓D8, ↓D9, U0, U1, U2, U3, U4, U5, U6, U7, U8, U9, U10, ↓reduceIte, Nat.reduceAdd, Nat.reduceMul, Nat.reduceSub, Nat.reduceEqDiff, Nat.reduceBEq, Nat.reduceLeDiff, Nat.reduceLT, Int.reduceAdd, Int.reduceMul, Int.reduceSub, Int.reduceLT, Int.reduceLE, Int.reduceToNat, Int.reduceEq, Int.reduceNe, Int.reduceBEq, Int.reduceBNe, ne_eq, eq_self]
      exact hS.tail.tail.tail.p1.tail
  · simp only [hz1, rz, q0, q1, hrd, hrr, e, ↓D0, ↓D1, ↓D2, ↓D3, ↓D4, ↓D5, ↓D6, ↓D7, ↓D8, ↓D9, U0, U1, U2, U3, U4, U5, U6, U7, U8, U9, U10, ↓reduceIte, Nat.reduceAdd, Nat.reduceMul, Nat.reduceSub, Nat.reduceEqDiff, Nat.reduceBEq, Nat.reduceLeDiff, Nat.reduceLT, Int.reduceAdd, Int.reduceMul, Int.reduceSub, Int.reduceLT, Int.reduceLE, Int.reduceToNat, Int.reduceEq, Int.reduceNe, Int.reduceBEq, Int.reduceBNe, ne_eq, eq_self]
    refine draw_intro [(z, #[.int .i64 dd, .int .i64 cl, .int .i64 at', .int .u64 wa, .int .u64 x], []), (xb, xc, [])] (by simp only [hz1, hxm, ↓D0, ↓D1, ↓D2, ↓D3, ↓D4, ↓D5, ↓D6, ↓D7, ↓D8, ↓D9, U0, U1, U2, U3, U4, U5, U6, U7, U8, U9, U10, ↓reduceIte, Nat.reduceAdd, Nat.reduceMul, Nat.reduceSub, Nat.reduceEqDiff, Nat.reduceBEq, Nat.reduceLeDiff, Nat.reduceLT, Int.reduceAdd, Int.reduceMul, Int.reduceSub, Int.reduceLT, Int.reduceLE, Int.reduceToNat, Int.reduceEq, Int.reduceNe, Int.reduceBEq, Int.reduceBNe, ne_eq, eq_self]) ?_
    simp only [hz1, rz, q0, q1, hrd, hrr, e, hxc, nxz, nzx, ↓D0, ↓D1, ↓D2, ↓D3, ↓D4, ↓D5, ↓D6, ↓D7, ↓D8, ↓D9, U0, U1, U2, U3, U4, U5, U6, U7, U8, U9, U10, ↓reduceIte, Nat.reduceAdd, Nat.reduceMul, Nat.reduceSub, Nat.reduceEqDiff, Nat.reduceBEq, Nat.reduceLeDiff, Nat.reduceLT, Int.reduceAdd, Int.reduceMul, Int.reduceSub, Int.reduceLT, Int.reduceLE, Int.reduceToNat, Int.reduceEq, Int.reduceNe, Int.reduceBEq, Int.reduceBNe, ne_eq, eq_self]
    refine callT_of (c_add cl q x q0 q1' hS) ?_
    rintro v H' ⟨rfl, hS⟩
    have hz1 := hS.lk 3 rfl
    have rz := fun o => rd_of hz1 o
    have hxm := xrd hS (by simp)
    have hrd := rrd hS (by simp)
    have hne : (w.get q != ws q.toNat) = false := by rw [hwg]; simp
    simp only [hz1, hxm, hne, ↓D0, ↓D1, ↓D2, ↓D3, ↓D4, ↓D5, ↓D6, ↓D7, ↓D8, ↓D9, U0, U1, U2, U3, U4, U5, U6, U7, U8, U9, U10, ↓reduceIte, Nat.reduceAdd, Nat.reduceMul, Nat.reduceSub, Nat.reduceEqDiff, Nat.reduceBEq, Nat.reduceLeDiff, Nat.reduceLT, Int.reduceAdd, Int.reduceMul, Int.reduceSub, Int.reduceLT, Int.reduceLE, Int.reduceToNat, Int.reduceEq, Int.reduceNe, Int.reduceBEq, Int.reduceBNe, ne_eq, eq_self]
    obtain ⟨w2, hw2⟩ : ∃ w2, w2 = w.add cl q x := ⟨_, rfl⟩
    rw [← hw2] at hS
    have hwn2 : w2.n = n := by rw [hw2]; exact hwn
    have hjs : ∀ j, j < n → w2.ws j = if j = q.toNat then wu (ws q.toNat + x) else ws j := (by rw [hw2]; intro j hj; show (if j = q.toNat then wu (w.get q + x) else w.ws j) = _; rw [hwj j hj, hwg])
    have hst2 : w2.st = 1 := by rw [hw2]; exact hst
    have hlast : wlast w2 = #[.int .i64 cl, .int .i64 3, .int .i64 q, .int .u64 (ws q.toNat), .int .u64 w2.pt, .bool w2.ok] := by
      rw [hw2]; show #[_, _, _, Value.int .u64 (w.get q), _, _] = _; rw [hwg]; rfl
    have hz1 := hS.lk 3 rfl
    have rz := fun o => rd_of hz1 o
    have hrd := rrd hS (by simp)
    try simp only [hz1, rz, q0, q1, hrd, hrr, e, wrap_wu, ↓D0, ↓D1, ↓D2, ↓D3, ↓D4, ↓D5, ↓D6, ↓D7, ↓D8, ↓D9, U0, U1, U2, U3, U4, U5, U6, U7, U8, U9, U10, ↓reduceIte, Nat.reduceAdd, Nat.reduceMul, Nat.reduceSub, Nat.reduceEqDiff, Nat.reduceBEq, Nat.reduceLeDiff, Nat.reduceLT, Int.reduceAdd, Int.reduceMul, Int.reduceSub, Int.reduceLT, Int.reduceLE, Int.reduceToNat, Int.reduceEq, Int.reduceNe, Int.reduceBEq, Int.reduceBNe, ne_eq, eq_self]
    refine callT_of (c_all (by omega) hS) ?_
    rintro v H' ⟨a2, cap2, h2, rfl, hr2, hS⟩
    rw [hwn2] at hr2
    simp only [hwn2, ↓D0, ↓D1, ↓D2, ↓D3, ↓D4, ↓D5, ↓D6, ↓D7, ↓D8, ↓D9, U0, U1, U2, U3, U4, U5, U6, U7, U8, U9, U10, ↓reduceIte, Nat.reduceAdd, Nat.reduceMul, Nat.reduceSub, Nat.reduceEqDiff, Nat.reduceBEq, Nat.reduceLeDiff, Nat.reduceLT, Int.reduceAdd, Int.reduceMul, Int.reduceSub, Int.reduceLT, Int.reduceLE, Int.reduceToNat, Int.reduceEq, Int.reduceNe, Int.reduceBEq, Int.reduceBNe, ne_eq, eq_self]
    refine loop_intro (woI n cap cap2 _ a2 z b q (wu (ws q.toNat + x)) r (h2 :: wB b s w2 :: wR s w2 :: h :: sg z (.cells #[.int .i64 dd, .int .i64 cl, .int .i64 at', .int .u64 wa, .int .u64 x] 37 (0, 0)) :: l)) (fun F' _ => (n - iv (gt F' 10)).toNat)
      ⟨0, Nat.zero_le _, rfl, rfl, rfl, rfl, rfl, rfl, rfl, hS⟩ ?_
    rintro F' H' ⟨j, hj, e10, e0, e9, e3, e5, e6, e8, hS⟩
    by_cases hlt : j < n
    · have d1 : decide ((j : Int) < (n : Int)) = true := decide_eq_true (by omega)
      have d2 : (0 : Int) ≤ (j : Int) := by omega
      have d3 : (j : Int) < (n : Int) := by omega
      have wj : w64 ((j : Int) + 1) = ((j + 1 : Nat) : Int) := by rw [w64_eq (by omega) (by omega)]; omega
      obtain ⟨yb, yo, hya, hrd2⟩ := (hr2.sub (hS.sb h2 (by simp))).at' hlt
      obtain ⟨ub, uo, hua, hrd3⟩ := (hr.sub (hS.sb h (by simp))).at' hlt
      cases hua
      subst hya
      have hjv := hjs j hlt
      by_cases hjq : j = q.toNat
      · rw [if_pos hjq] at hjv
        have c1 : ((j : Int) != q) = false := by rw [show (j : Int) = q by omega]; simp
        have c2 : ((j : Int) == q) = true := beq_iff_eq.2 (by omega)
        have c3 : (w2.ws j != wu (ws q.toNat + x)) = false := by rw [hjv]; simp
        simp only [e10, e0, e9, e3, e5, e6, e8, d1, d2, d3, c1, c2, hrd2, c3, wrap_w64, wj, Int.toNat_natCast, ↓D0, ↓D1, ↓D2, ↓D3, ↓D4, ↓D5, ↓D6, ↓D7, ↓D8, ↓D9, U0, U1, U2, U3, U4, U5, U6, U7, U8, U9, U10, ↓reduceIte, Nat.reduceAdd, Nat.reduceMul, Nat.reduceSub, Nat.reduceEqDiff, Nat.reduceBEq, Nat.reduceLeDiff, Nat.reduceLT, Int.reduceAdd, Int.reduceMul, Int.reduceSub, Int.reduceLT, Int.reduceLE, Int.reduceToNat, Int.reduceEq, Int.reduceNe, Int.reduceBEq, Int.reduceBNe, ne_eq, eq_self]
        exact ⟨⟨j + 1, by omega, rfl, by simp [gt, e0], by simp [gt, e9], by simp [gt, e3], by simp [gt, e5], by simp [gt, e6], by simp [gt, e8], hS⟩, by simp [gt, iv, e10]; omega⟩
      · rw [if_neg hjq] at hjv
        have c1 : ((j : Int) != q) = true := by have : (j : Int) ≠ q := by omega
                                                simpa using this
        have c2 : ((j : Int) == q) = false := beq_eq_false_iff_ne.2 (by omega)
        have c3 : (w2.ws j != ws j) = false := by rw [hjv]; simp
        simp only [e10, e0, e9, e3, e5, e6, e8, d1, d2, d3, c1, c2, hrd2, hrd3, c3, wrap_w64, wj, Int.toNat_natCast, ↓D0, ↓D1, ↓D2, ↓D3, ↓D4, ↓D5, ↓D6, ↓D7, ↓D8, ↓D9, U0, U1, U2, U3, U4, U5, U6, U7, U8, U9, U10, ↓reduceIte, Nat.reduceAdd, Nat.reduceMul, Nat.reduceSub, Nat.reduceEqDiff, Nat.reduceBEq, Nat.reduceLeDiff, Nat.reduceLT, Int.reduceAdd, Int.reduceMul, Int.reduceSub, Int.reduceLT, Int.reduceLE, Int.reduceToNat, Int.reduceEq, Int.reduceNe, Int.reduceBEq, Int.reduceBNe, ne_eq, eq_self]
        exact ⟨⟨j + 1, by omega, rfl, by simp [gt, e0], by simp [gt, e9], by simp [gt, e3], by simp [gt, e5], by simp [gt, e6], by simp [gt, e8], hS⟩, by simp [gt, iv, e10]; omega⟩
    have hin : (j : Int) = n := by omega
    have d1 : decide ((j : Int) < (n : Int)) = false := decide_eq_false (by omega)
    simp only [e10, e0, e9, e3, e5, e6, e8, d1, ↓D0, ↓D1, ↓D2, ↓D3, ↓D4, ↓D5, ↓D6, ↓D7, ↓D8, ↓D9, U0, U1, U2, U3, U4, U5, U6, U7, U8, U9, U10, ↓reduceIte, Nat.reduceAdd, Nat.reduceMul, Nat.reduceSub, Nat.reduceEqDiff, Nat.reduceBEq, Nat.reduceLeDiff, Nat.reduceLT, Int.reduceAdd, Int.reduceMul, Int.reduceSub, Int.reduceLT, Int.reduceLE, Int.reduceToNat, Int.reduceEq, Int.reduceNe, Int.reduceBEq, Int.reduceBNe, ne_eq, eq_self]
    refine callT_of (c_last hS.tail) ?_
    rintro v H' ⟨rfl, hS⟩
    rw [hlast]
    simp only [e10, e0, e9, e3, e5, e6, e8, ↓D0, ↓D1, ↓D2, ↓D3, ↓D4, ↓D5, ↓D6, ↓D7, ↓D8, ↓D9, U0, U1, U2, U3, U4, U5, U6, U7, U8, U9, U10, ↓reduceIte, Nat.reduceAdd, Nat.reduceMul, Nat.reduceSub, Nat.reduceEqDiff, Nat.reduceBEq, Nat.reduceLeDiff, Nat.reduceLT, Int.reduceAdd, Int.reduceMul, Int.reduceSub, Int.reduceLT, Int.reduceLE, Int.reduceToNat, Int.reduceEq, Int.reduceNe, Int.reduceBEq, Int.reduceBNe, ne_eq, eq_self]
    refine newB_intro fun y hy f3 f4 => ?_
    have hxm := xrd hS (by simp)
    have nzy : (z = y) = False := f3 z (by rw [hS.lk 3 rfl]; rfl)
    have nyz : (y = z) = False := f4 z (by rw [hS.lk 3 rfl]; rfl)
    have nxy : (xb = y) = False := f3 xb (by rw [hxm]; rfl)
    have nyx : (y = xb) = False := f4 xb (by rw [hxm]; rfl)
    have hS := hS.new f3 (.cells #[.int .i64 0, .int .i64 0, .int .i64 0, .int .u64 0, .int .u64 0, .bool false] 41 (0, 0))
    have hS := hS.set (.cells #[.int .i64 cl, .int .i64 3, .int .i64 q, .int .u64 (ws q.toNat), .int .u64 w2.pt, .bool w2.ok] 41 (0, 0))
    rw [Ev.upd_upd] at hS
    have hy1 := hS.look
    have hz1 := hS.lk 4 rfl
    have hxm := xrd hS (by simp)
    have hrd := rrd hS (by simp)
    have ry := fun o => rd_of hy1 o
    have rz := fun o => rd_of hz1 o
    have cn : ((n : Int) == (n : Int)) = true := by simp
    have cs : (w2.st == 1) = true := beq_iff_eq.2 hst2
    have cq : (q == q) = true := by simp
    have cc : (cl == cl) = true := by simp
    have cw : (ws q.toNat == ws q.toNat) = true := by simp
    simp only [e10, e0, e9, e3, e5, e6, e8, Ev.upd_upd, ↓D0, ↓D1, ↓D2, ↓D3, ↓D4, ↓D5, ↓D6, ↓D7, ↓D8, ↓D9, U0, U1, U2, U3, U4, U5, U6, U7, U8, U9, U10, ↓reduceIte, Nat.reduceAdd, Nat.reduceMul, Nat.reduceSub, Nat.reduceEqDiff, Nat.reduceBEq, Nat.reduceLeDiff, Nat.reduceLT, Int.reduceAdd, Int.reduceMul, Int.reduceSub, Int.reduceLT, Int.reduceLE, Int.reduceToNat, Int.reduceEq, Int.reduceNe, Int.reduceBEq, Int.reduceBNe, ne_eq, eq_self]
    refine draw_intro [(y, #[.int .i64 cl, .int .i64 3, .int .i64 q, .int .u64 (ws q.toNat), .int .u64 w2.pt, .bool w2.ok], []), (z, #[.int .i64 dd, .int .i64 cl, .int .i64 at', .int .u64 wa, .int .u64 x], []), (xb, xc, [])] (by simp only [hy1, hz1, hxm, ↓D0, ↓D1, ↓D2, ↓D3, ↓D4, ↓D5, ↓D6, ↓D7, ↓D8, ↓D9, U0, U1, U2, U3, U4, U5, U6, U7, U8, U9, U10, ↓reduceIte, Nat.reduceAdd, Nat.reduceMul, Nat.reduceSub, Nat.reduceEqDiff, Nat.reduceBEq, Nat.reduceLeDiff, Nat.reduceLT, Int.reduceAdd, Int.reduceMul, Int.reduceSub, Int.reduceLT, Int.reduceLE, Int.reduceToNat, Int.reduceEq, Int.reduceNe, Int.reduceBEq, Int.reduceBNe, ne_eq, eq_self]) ?_
    simp only [e10, e0, e9, e3, e5, e6, e8, cn, ↓D0, ↓D1, ↓D2, ↓D3, ↓D4, ↓D5, ↓D6, ↓D7, ↓D8, ↓D9, U0, U1, U2, U3, U4, U5, U6, U7, U8, U9, U10, ↓reduceIte, Nat.reduceAdd, Nat.reduceMul, Nat.reduceSub, Nat.reduceEqDiff, Nat.reduceBEq, Nat.reduceLeDiff, Nat.reduceLT, Int.reduceAdd, Int.reduceMul, Int.reduceSub, Int.reduceLT, Int.reduceLE, Int.reduceToNat, Int.reduceEq, Int.reduceNe, Int.reduceBEq, Int.reduceBNe, ne_eq, eq_self]
    refine callT_of (c_steps hS.p1) ?_
    rintro v H' ⟨rfl, hS⟩
    have hy1 := hS.lk 1 rfl
    have hz1 := hS.lk 4 rfl
    have hxm := xrd hS (by simp)
    have hrd := rrd hS (by simp)
    have ry := fun o => rd_of hy1 o
    have rz := fun o => rd_of hz1 o
    simp only [e10, e0, e9, e3, e5, e6, e8, hy1, hz1, hxm, ry, rz, hrd, hxc, nzy, nyz, nxy, nyx, nxz, nzx, q0, q1, cs, cq, cc, cw, hrr, e, ↓D0, ↓D1, ↓D2, ↓D3, ↓D4, ↓D5, ↓D6, ↓D7, ↓D8, ↓D9, U0, U1, U2, U3, U4, U5, U6, U7, U8, U9, U10, ↓reduceIte, Nat.reduceAdd, Nat.reduceMul, Nat.reduceSub, Nat.reduceEqDiff, Nat.reduceBEq, Nat.reduceLeDiff, Nat.reduceLT, Int.reduceAdd, Int.reduceMul, Int.reduceSub, Int.reduceLT, Int.reduceLE, Int.reduceToNat, Int.reduceEq, Int.reduceNe, Int.reduceBEq, Int.reduceBNe, ne_eq, eq_self]
    exact hS.tail.tail.tail.p1.tail
end

theorem l_wordsone {W : World} {a : Option Addr} {n cap : Nat} {ws : Nat → Int} (hn : n ≤ 9223372036854775807) (hr : RowU (memOf W) a n ws) (hU : ∀ i, i < n → IntKind.u64.has (ws i)) (dd cl at' wa x : Int) (hd : -9223372036854775808 ≤ dd ∧ dd ≤ 9223372036854775807) (hc : -9223372036854775808 ≤ cl ∧ cl ≤ 9223372036854775807) (ha : -9223372036854775808 ≤ at' ∧ at' ≤ 9223372036854775807) (hwa : 0 ≤ wa ∧ wa ≤ 18446744073709551615) (hx : 0 ≤ x ∧ x ≤ 18446744073709551615) :
    CallP Try.prog W 5 #[.slice a n cap, .agg #[.int .i64 dd, .int .i64 cl, .int .i64 at', .int .u64 wa, .int .u64 x]] (memOf W) fun v H' => v = .bool true ∧ Sub (memOf W) H' :=
  (c_wordsone hd ha hwa hx hr (fun i hi => u64_bd (hU i hi)) (Sep.one _)).mono fun v H' ⟨h1, h2⟩ => ⟨h1, h2.head⟩
end Go.Proofs.Ytfapipblclikbaa
