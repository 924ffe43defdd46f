/-
  Who adopts a dead client: the document's machine goes as the program's plain one. Conditions: none.
-/
import Derived.Test.YtbehnodllajnjaaAdoptS
import Derived.Test.YtbehnodllajnjaaModel
import Derived.Test.YtbehnodllajnjaaAlt
set_option linter.unusedVariables false
set_option linter.unusedSimpArgs false
set_option maxRecDepth 8000
namespace Go.Proofs.Ytbehnodllajnjaa
open Go Go.Ev Go.Pl Go.Ma

/-- The document's line. -/
def Ad.ln (n : Int) : Int := if n ≤ 7 then n else n - 1
def Ad.ren (t : Ad) : Array Value := #[.int .i64 t.s.p, .int .i64 t.s.c, .int .i64 t.s.m, .int .i64 t.c, .int .i64 t.d, .int .i64 t.err, .bool t.dn, .int .i64 (Ad.ln t.nx), .int .u64 t.was, .int .i64 t.at', .int .i64 t.di, .int .i64 t.qK, .int .i64 t.qA, .int .i64 t.qB]
def raB (k : Nat) (t : Ad) : Hp := sg k (.cells (Ad.ren t) 101 (0, 0))
theorem own_iff {t : Ad} {q x : Int} (hm : may t.s.p t.s.c t.s.m = true) (hq : 0 ≤ q ∧ q < t.s.p) (hd : 0 ≤ t.d ∧ t.d < t.s.c) : t.own q x = true ↔ x = held t.d := by
  have hb := (may_iff _ _ _).1 hm
  have hh : held t.d = 1 + 16 * t.d := by unfold held putPg; rw [if_pos (by omega)]; omega
  constructor
  · intro h
    unfold Ad.own at h
    simp only [Bool.and_eq_true, decide_eq_true_eq] at h
    obtain ⟨h1, h2, h3⟩ := h
    have k1 : x % 16 = 1 := by unfold pgK at h2; rwa [if_pos h1] at h2
    have k2 : pt x 16 = t.d := by unfold pgA at h3; rwa [if_pos h1] at h3
    unfold okPg at h1
    simp only [Bool.and_eq_true, decide_eq_true_eq] at h1
    have h4 := h1.1
    rw [k1, k2] at h4
    unfold putPg at h4
    split at h4
    · omega
    · omega
  · intro h
    have k1 : x % 16 = 1 := by omega
    have k2 : pt x 16 = t.d := by unfold pt; omega
    have k3 : pt x 4096 = 0 := by unfold pt; omega
    have hp : page t.s.p t.s.c t.s.m q = t.s.c + q := page_yes hm hq.1 hq.2
    have ho : okPg t.s q x = true := by
      unfold okPg fits
      rw [k1, k2, k3]
      have : putPg 1 t.d 0 = held t.d := rfl
      rw [this, decide_eq_true h.symm, decide_eq_true (by omega : 0 ≤ page t.s.p t.s.c t.s.m q), if_pos rfl, decide_eq_true hd.2]
      rfl
    unfold Ad.own pgK pgA
    rw [ho, if_pos rfl, if_pos rfl, k1, k2, decide_eq_true rfl, decide_eq_true rfl]
    rfl
section
variable {W : World} {H : Hp} {k b s : Nat} {t : Ad} {w : Wd} {l : List Hp} {a : Option Addr} {cap : Nat} {g : Hp}

theorem m_adend (e : Int) (hS : Sep (raB k t :: l) H) :
    CallP Try.prog W 123 #[.pointer (some ⟨k, 0, none⟩), .int .i64 e] H fun v H' => v = .tuple #[] ∧ Sep (raB k (t.fin e) :: l) H' := by
  refine CallP.of mixed Try.func123 tr123 (by show 2 ≤ _; decide) fun W _ => ?_
  have hk := hS.look
  have r1 := fun o => rd_of hk o
  simp only [hk, r1, Ad.ren, Ev.upd_upd, ↓D0, ↓D1, ↓D2, ↓D3, ↓D4, ↓D5, ↓D6, ↓D7, ↓D8, ↓D9, U0, U1, U2, U3, U4, U5, U6, U7, U8, U9, U10, ↓reduceIte, Nat.reduceAdd, Nat.reduceMul, Nat.reduceSub, Nat.reduceEqDiff, Nat.reduceBEq, Nat.reduceLeDiff, Nat.reduceLT, Int.reduceAdd, Int.reduceMul, Int.reduceSub, Int.reduceLT, Int.reduceLE, Int.reduceToNat, Int.reduceEq, Int.reduceNe, Int.reduceBEq, Int.reduceBNe, ne_eq, eq_self]
  exact hS.set (.cells (Ad.ren (t.fin e)) 101 (0, 0))
theorem m_adnew {sh : Sh} {c d : Int} (hS : Sep l H) :
    CallP Try.prog W 57 #[.agg #[.int .i64 sh.p, .int .i64 sh.c, .int .i64 sh.m], .int .i64 c, .int .i64 d] H fun v H' => ∃ k, v = .pointer (some ⟨k, 0, none⟩) ∧ Sep (raB k (Ad.new sh c d) :: l) H' := by
  refine CallP.of mixed Try.func57 tr57 (by show 3 ≤ _; decide) fun W _ => ?_
  simp only [↓D0, ↓D1, ↓D2, ↓D3, ↓D4, ↓D5, ↓D6, ↓D7, ↓D8, ↓D9, U0, U1, U2, U3, U4, U5, U6, U7, U8, U9, U10, ↓reduceIte, Nat.reduceAdd, Nat.reduceMul, Nat.reduceSub, Nat.reduceEqDiff, Nat.reduceBEq, Nat.reduceLeDiff, Nat.reduceLT, Int.reduceAdd, Int.reduceMul, Int.reduceSub, Int.reduceLT, Int.reduceLE, Int.reduceToNat, Int.reduceEq, Int.reduceNe, Int.reduceBEq, Int.reduceBNe, ne_eq, eq_self]
  refine newB_intro fun x hx f1 f2 => ?_
  have hS := hS.new f1 (.cells #[.int .i64 sh.p, .int .i64 sh.c, .int .i64 sh.m] 25 (0, 0))
  have hx1 := hS.look
  have r1 := fun o => rd_of hx1 o
  have r2 := fun o n => rdn_of hx1 o n
  simp only [hx1, r1, r2, ↓D0, ↓D1, ↓D2, ↓D3, ↓D4, ↓D5, ↓D6, ↓D7, ↓D8, ↓D9, U0, U1, U2, U3, U4, U5, U6, U7, U8, U9, U10, ↓reduceIte, Nat.reduceAdd, Nat.reduceMul, Nat.reduceSub, Nat.reduceEqDiff, Nat.reduceBEq, Nat.reduceLeDiff, Nat.reduceLT, Int.reduceAdd, Int.reduceMul, Int.reduceSub, Int.reduceLT, Int.reduceLE, Int.reduceToNat, Int.reduceEq, Int.reduceNe, Int.reduceBEq, Int.reduceBNe, ne_eq, eq_self]
  refine newB_intro fun y hy f3 f4 => ?_
  have nxy : (x = y) = False := f3 x (by rw [hx1]; rfl)
  have nyx : (y = x) = False := f4 x (by rw [hx1]; rfl)
  have hS := hS.new f3 (.cells (Ad.ren { Ad.new sh c d with err := 0, dn := false }) 101 (0, 0))
  have hE : ∀ {e : Bool}, Ad.bad sh c d = e → ({ Ad.new sh c d with err := if e then 1 else 0, dn := e } : Ad) = Ad.new sh c d := fun h => by unfold Ad.new; rw [h]
  have n1 : decide (0 ≤ status sh.p sh.c sh.m c) = !decide (status sh.p sh.c sh.m c < 0) := by rw [← decide_not]; exact decide_eq_decide.2 (by omega)
  have n2 : decide (0 ≤ status sh.p sh.c sh.m d) = !decide (status sh.p sh.c sh.m d < 0) := by rw [← decide_not]; exact decide_eq_decide.2 (by omega)
  cases h1 : decide (status sh.p sh.c sh.m c < 0)
  · rw [h1] at n1
    cases h2 : decide (status sh.p sh.c sh.m d < 0)
    · rw [h2] at n2
      cases h3 : (c == d)
      · have hb : Ad.bad sh c d = false := by
          unfold Ad.bad; rw [h1, h2, decide_eq_false (by simpa using h3)]; rfl
        simp only [hx1, r1, r2, nxy, nyx, u_good, n1, n2, h3, ↓D0, ↓D1, ↓D2, ↓D3, ↓D4, ↓D5, ↓D6, ↓D7, ↓D8, ↓D9, U0, U1, U2, U3, U4, U5, U6, U7, U8, U9, U10, ↓reduceIte, Nat.reduceAdd, Nat.reduceMul, Nat.reduceSub, Nat.reduceEqDiff, Nat.reduceBEq, Nat.reduceLeDiff, Nat.reduceLT, Int.reduceAdd, Int.reduceMul, Int.reduceSub, Int.reduceLT, Int.reduceLE, Int.reduceToNat, Int.reduceEq, Int.reduceNe, Int.reduceBEq, Int.reduceBNe, ne_eq, eq_self]
        refine ⟨y, rfl, ?_⟩
        have := hS.p1.tail
        rw [← hE hb]
        exact this
      · have hb : Ad.bad sh c d = true := by
          unfold Ad.bad; rw [h1, h2, decide_eq_true (by simpa using h3)]; rfl
        simp only [hx1, r1, r2, nxy, nyx, u_good, n1, n2, h3, ↓D0, ↓D1, ↓D2, ↓D3, ↓D4, ↓D5, ↓D6, ↓D7, ↓D8, ↓D9, U0, U1, U2, U3, U4, U5, U6, U7, U8, U9, U10, ↓reduceIte, Nat.reduceAdd, Nat.reduceMul, Nat.reduceSub, Nat.reduceEqDiff, Nat.reduceBEq, Nat.reduceLeDiff, Nat.reduceLT, Int.reduceAdd, Int.reduceMul, Int.reduceSub, Int.reduceLT, Int.reduceLE, Int.reduceToNat, Int.reduceEq, Int.reduceNe, Int.reduceBEq, Int.reduceBNe, ne_eq, eq_self]
        refine callT_of (m_adend 1 hS) ?_
        rintro v H' ⟨rfl, hS⟩
        simp only [↓D0, ↓D1, ↓D2, ↓D3, ↓D4, ↓D5, ↓D6, ↓D7, ↓D8, ↓D9, U0, U1, U2, U3, U4, U5, U6, U7, U8, U9, U10, ↓reduceIte, Nat.reduceAdd, Nat.reduceMul, Nat.reduceSub, Nat.reduceEqDiff, Nat.reduceBEq, Nat.reduceLeDiff, Nat.reduceLT, Int.reduceAdd, Int.reduceMul, Int.reduceSub, Int.reduceLT, Int.reduceLE, Int.reduceToNat, Int.reduceEq, Int.reduceNe, Int.reduceBEq, Int.reduceBNe, ne_eq, eq_self]
        refine ⟨y, rfl, ?_⟩
        rw [← hE hb]
        exact hS.p1.tail
    · rw [h2] at n2
      have hb : Ad.bad sh c d = true := by unfold Ad.bad; rw [h1, h2]; rfl
      simp only [hx1, r1, r2, nxy, nyx, u_good, n1, n2, ↓D0, ↓D1, ↓D2, ↓D3, ↓D4, ↓D5, ↓D6, ↓D7, ↓D8, ↓D9, U0, U1, U2, U3, U4, U5, U6, U7, U8, U9, U10, ↓reduceIte, Nat.reduceAdd, Nat.reduceMul, Nat.reduceSub, Nat.reduceEqDiff, Nat.reduceBEq, Nat.reduceLeDiff, Nat.reduceLT, Int.reduceAdd, Int.reduceMul, Int.reduceSub, Int.reduceLT, Int.reduceLE, Int.reduceToNat, Int.reduceEq, Int.reduceNe, Int.reduceBEq, Int.reduceBNe, ne_eq, eq_self]
      refine callT_of (m_adend 1 hS) ?_
      rintro v H' ⟨rfl, hS⟩
      simp only [↓D0, ↓D1, ↓D2, ↓D3, ↓D4, ↓D5, ↓D6, ↓D7, ↓D8, ↓D9, U0, U1, U2, U3, U4, U5, U6, U7, U8, U9, U10, ↓reduceIte, Nat.reduceAdd, Nat.reduceMul, Nat.reduceSub, Nat.reduceEqDiff, Nat.reduceBEq, Nat.reduceLeDiff, Nat.reduceLT, Int.reduceAdd, Int.reduceMul, Int.reduceSub, Int.reduceLT, Int.reduceLE, Int.reduceToNat, Int.reduceEq, Int.reduceNe, Int.reduceBEq, Int.reduceBNe, ne_eq, eq_self]
      refine ⟨y, rfl, ?_⟩
      rw [← hE hb]
      exact hS.p1.tail
  · rw [h1] at n1
    have hb : Ad.bad sh c d = true := by unfold Ad.bad; rw [h1]; rfl
    simp only [hx1, r1, r2, nxy, nyx, u_good, n1, ↓D0, ↓D1, ↓D2, ↓D3, ↓D4, ↓D5, ↓D6, ↓D7, ↓D8, ↓D9, U0, U1, U2, U3, U4, U5, U6, U7, U8, U9, U10, ↓reduceIte, Nat.reduceAdd, Nat.reduceMul, Nat.reduceSub, Nat.reduceEqDiff, Nat.reduceBEq, Nat.reduceLeDiff, Nat.reduceLT, Int.reduceAdd, Int.reduceMul, Int.reduceSub, Int.reduceLT, Int.reduceLE, Int.reduceToNat, Int.reduceEq, Int.reduceNe, Int.reduceBEq, Int.reduceBNe, ne_eq, eq_self]
    refine callT_of (m_adend 1 hS) ?_
    rintro v H' ⟨rfl, hS⟩
    simp only [↓D0, ↓D1, ↓D2, ↓D3, ↓D4, ↓D5, ↓D6, ↓D7, ↓D8, ↓D9, U0, U1, U2, U3, U4, U5, U6, U7, U8, U9, U10, ↓reduceIte, Nat.reduceAdd, Nat.reduceMul, Nat.reduceSub, Nat.reduceEqDiff, Nat.reduceBEq, Nat.reduceLeDiff, Nat.reduceLT, Int.reduceAdd, Int.reduceMul, Int.reduceSub, Int.reduceLT, Int.reduceLE, Int.reduceToNat, Int.reduceEq, Int.reduceNe, Int.reduceBEq, Int.reduceBNe, ne_eq, eq_self]
    refine ⟨y, rfl, ?_⟩
    rw [← hE hb]
    exact hS.p1.tail
theorem ra_turn (x a b : Int) : raB k ((t.read x).turn a b) = raB k (t.turn a b) := by
  unfold Ad.turn
  by_cases hz : t.at' + 1 = t.s.p
  · rw [if_pos hz, if_pos (show (t.read x).at' + 1 = (t.read x).s.p from hz)]; rfl
  · rw [if_neg hz, if_neg (show ¬ (t.read x).at' + 1 = (t.read x).s.p from hz)]; rfl
theorem m_adon {lx ly : Int} (x y : Int) (hx : Ad.ln x = lx) (hy : Ad.ln y = ly) (h9 : y = 9 ↔ ly = 8) (ha : 0 ≤ t.at' ∧ t.at' ≤ 1000) (hS : Sep (raB k t :: l) H) :
    CallP Try.prog W 125 #[.pointer (some ⟨k, 0, none⟩), .int .i64 lx, .int .i64 ly] H fun v H' => v = .tuple #[] ∧ Sep (raB k (t.turn x y) :: l) H' := by
  refine CallP.of mixed Try.func125 tr125 (by show 3 ≤ _; decide) fun W _ => ?_
  have hk := hS.look
  have r1 := fun o => rd_of hk o
  have w1 : w64 (t.at' + 1) = t.at' + 1 := w64_eq (by omega) (by omega)
  by_cases he : t.at' + 1 = t.s.p
  · have g1 : (t.at' + 1 == t.s.p) = true := beq_iff_eq.2 he
    by_cases hy9 : y = 9
    · have gy : (ly == 8) = true := beq_iff_eq.2 (h9.1 hy9)
      by_cases hm : t.s.m = 0
      · have gm : (t.s.m == 0) = true := beq_iff_eq.2 hm
        have e : t.turn x y = { t with at' := 0, i := 0, di := 0, nx := 10 } := by unfold Ad.turn; rw [if_pos he, if_pos ⟨hy9, hm⟩]
        simp only [hk, r1, wrap_w64, w1, g1, gy, gm, Ad.ren, Ev.upd_upd, ↓D0, ↓D1, ↓D2, ↓D3, ↓D4, ↓D5, ↓D6, ↓D7, ↓D8, ↓D9, U0, U1, U2, U3, U4, U5, U6, U7, U8, U9, U10, ↓reduceIte, Nat.reduceAdd, Nat.reduceMul, Nat.reduceSub, Nat.reduceEqDiff, Nat.reduceBEq, Nat.reduceLeDiff, Nat.reduceLT, Int.reduceAdd, Int.reduceMul, Int.reduceSub, Int.reduceLT, Int.reduceLE, Int.reduceToNat, Int.reduceEq, Int.reduceNe, Int.reduceBEq, Int.reduceBNe, ne_eq, eq_self]
        rw [e]
        exact hS.set (.cells (Ad.ren { t with at' := 0, i := 0, di := 0, nx := 10 }) 101 (0, 0))
      · have gm : (t.s.m == 0) = false := beq_eq_false_iff_ne.2 hm
        have e : t.turn x y = { t with at' := 0, i := 0, di := 0, nx := y } := by unfold Ad.turn; rw [if_pos he, if_neg (by omega)]
        simp only [hk, r1, wrap_w64, w1, g1, gy, gm, Ad.ren, Ev.upd_upd, ↓D0, ↓D1, ↓D2, ↓D3, ↓D4, ↓D5, ↓D6, ↓D7, ↓D8, ↓D9, U0, U1, U2, U3, U4, U5, U6, U7, U8, U9, U10, ↓reduceIte, Nat.reduceAdd, Nat.reduceMul, Nat.reduceSub, Nat.reduceEqDiff, Nat.reduceBEq, Nat.reduceLeDiff, Nat.reduceLT, Int.reduceAdd, Int.reduceMul, Int.reduceSub, Int.reduceLT, Int.reduceLE, Int.reduceToNat, Int.reduceEq, Int.reduceNe, Int.reduceBEq, Int.reduceBNe, ne_eq, eq_self]
        rw [e, ← hy]
        exact hS.set (.cells (Ad.ren { t with at' := 0, i := 0, di := 0, nx := y }) 101 (0, 0))
    · have gy : (ly == 8) = false := beq_eq_false_iff_ne.2 (fun h => hy9 (h9.2 h))
      have e : t.turn x y = { t with at' := 0, i := 0, di := 0, nx := y } := by unfold Ad.turn; rw [if_pos he, if_neg (by omega)]
      simp only [hk, r1, wrap_w64, w1, g1, gy, Ad.ren, Ev.upd_upd, ↓D0, ↓D1, ↓D2, ↓D3, ↓D4, ↓D5, ↓D6, ↓D7, ↓D8, ↓D9, U0, U1, U2, U3, U4, U5, U6, U7, U8, U9, U10, ↓reduceIte, Nat.reduceAdd, Nat.reduceMul, Nat.reduceSub, Nat.reduceEqDiff, Nat.reduceBEq, Nat.reduceLeDiff, Nat.reduceLT, Int.reduceAdd, Int.reduceMul, Int.reduceSub, Int.reduceLT, Int.reduceLE, Int.reduceToNat, Int.reduceEq, Int.reduceNe, Int.reduceBEq, Int.reduceBNe, ne_eq, eq_self]
      rw [e, ← hy]
      exact hS.set (.cells (Ad.ren { t with at' := 0, i := 0, di := 0, nx := y }) 101 (0, 0))
  · have g1 : (t.at' + 1 == t.s.p) = false := beq_eq_false_iff_ne.2 he
    have e : t.turn x y = { t with at' := t.at' + 1, nx := x } := by unfold Ad.turn; rw [if_neg he]
    simp only [hk, r1, wrap_w64, w1, g1, Ad.ren, Ev.upd_upd, ↓D0, ↓D1, ↓D2, ↓D3, ↓D4, ↓D5, ↓D6, ↓D7, ↓D8, ↓D9, U0, U1, U2, U3, U4, U5, U6, U7, U8, U9, U10, ↓reduceIte, Nat.reduceAdd, Nat.reduceMul, Nat.reduceSub, Nat.reduceEqDiff, Nat.reduceBEq, Nat.reduceLeDiff, Nat.reduceLT, Int.reduceAdd, Int.reduceMul, Int.reduceSub, Int.reduceLT, Int.reduceLE, Int.reduceToNat, Int.reduceEq, Int.reduceNe, Int.reduceBEq, Int.reduceBNe, ne_eq, eq_self]
    rw [e, ← hx]
    exact hS.set (.cells (Ad.ren { t with at' := t.at' + 1, nx := x }) 101 (0, 0))
theorem m_adslot (hi : 0 ≤ t.i ∧ t.i ≤ 1000) (hdi : t.di = t.i) (hq : t.qA = t.pA) (ha : 0 ≤ t.at' ∧ t.at' ≤ 1000) (hS : Sep (raB k t :: l) H) :
    CallP Try.prog W 127 #[.pointer (some ⟨k, 0, none⟩)] H fun v H' => v = .tuple #[] ∧ Sep (raB k t.slot :: l) H' := by
  refine CallP.of mixed Try.func127 tr127 (by show 1 ≤ _; decide) fun W _ => ?_
  have hk := hS.look
  have r1 := fun o => rd_of hk o
  have w1 : w64 (t.di + 1) = t.di + 1 := w64_eq (by omega) (by omega)
  by_cases he : t.i + 1 = slots t.pA
  · have g1 : (t.di + 1 == slots t.qA) = true := beq_iff_eq.2 (by rw [hdi, hq]; exact he)
    have e : t.slot = ({ t with i := 0, di := t.di + 1, nx := 11 } : Ad).turn 10 13 := by unfold Ad.slot; rw [if_pos he]
    simp only [hk, r1, u_slots, wrap_w64, w1, g1, Ad.ren, Ev.upd_upd, ↓D0, ↓D1, ↓D2, ↓D3, ↓D4, ↓D5, ↓D6, ↓D7, ↓D8, ↓D9, U0, U1, U2, U3, U4, U5, U6, U7, U8, U9, U10, ↓reduceIte, Nat.reduceAdd, Nat.reduceMul, Nat.reduceSub, Nat.reduceEqDiff, Nat.reduceBEq, Nat.reduceLeDiff, Nat.reduceLT, Int.reduceAdd, Int.reduceMul, Int.reduceSub, Int.reduceLT, Int.reduceLE, Int.reduceToNat, Int.reduceEq, Int.reduceNe, Int.reduceBEq, Int.reduceBNe, ne_eq, eq_self]
    refine callT_of (m_adon (t := { t with i := 0, di := t.di + 1, nx := 11 }) 10 13 rfl rfl (by decide) ha (hS.set (.cells (Ad.ren { t with i := 0, di := t.di + 1, nx := 11 }) 101 (0, 0)))) ?_
    rintro v H' ⟨rfl, hS⟩
    simp only [↓D0, ↓D1, ↓D2, ↓D3, ↓D4, ↓D5, ↓D6, ↓D7, ↓D8, ↓D9, U0, U1, U2, U3, U4, U5, U6, U7, U8, U9, U10, ↓reduceIte, Nat.reduceAdd, Nat.reduceMul, Nat.reduceSub, Nat.reduceEqDiff, Nat.reduceBEq, Nat.reduceLeDiff, Nat.reduceLT, Int.reduceAdd, Int.reduceMul, Int.reduceSub, Int.reduceLT, Int.reduceLE, Int.reduceToNat, Int.reduceEq, Int.reduceNe, Int.reduceBEq, Int.reduceBNe, ne_eq, eq_self]
    rw [e]
    exact hS
  · have g1 : (t.di + 1 == slots t.qA) = false := beq_eq_false_iff_ne.2 (by rw [hdi, hq]; exact he)
    have e : t.slot = { t with i := t.i + 1, di := t.di + 1, nx := 11 } := by unfold Ad.slot; rw [if_neg he]
    simp only [hk, r1, u_slots, wrap_w64, w1, g1, Ad.ren, Ev.upd_upd, ↓D0, ↓D1, ↓D2, ↓D3, ↓D4, ↓D5, ↓D6, ↓D7, ↓D8, ↓D9, U0, U1, U2, U3, U4, U5, U6, U7, U8, U9, U10, ↓reduceIte, Nat.reduceAdd, Nat.reduceMul, Nat.reduceSub, Nat.reduceEqDiff, Nat.reduceBEq, Nat.reduceLeDiff, Nat.reduceLT, Int.reduceAdd, Int.reduceMul, Int.reduceSub, Int.reduceLT, Int.reduceLE, Int.reduceToNat, Int.reduceEq, Int.reduceNe, Int.reduceBEq, Int.reduceBNe, ne_eq, eq_self]
    rw [e]
    exact hS.set (.cells (Ad.ren { t with i := t.i + 1, di := t.di + 1, nx := 11 }) 101 (0, 0))
theorem m_adbegin (ht : t.wf) (hd : t.dn = false) (hn : t.nx ≤ 2) (hw : w.of t.s) (hL : LogOk a cap w g) (hl : w.st + 1 ≤ 1000000000) (hS : Sep (raB k t :: mB b s a cap w :: wR s w :: g :: l) H) :
    CallP Try.prog W 124 #[.pointer (some ⟨k, 0, none⟩), .pointer (some ⟨b, 0, none⟩)] H fun v H' => v = .tuple #[] ∧
      ∃ a2 cap2 g2, LogOk a2 cap2 (t.step w).2 g2 ∧ Sep (raB k (t.step w).1 :: mB b s a2 cap2 (t.step w).2 :: wR s (t.step w).2 :: g2 :: l) H' := by
  refine CallP.of mixed Try.func124 tr124 (by show 2 ≤ _; decide) fun W _ => ?_
  have hk := hS.look
  have r1 := fun o => rd_of hk o
  have r2 := fun o n => rdn_of hk o n
  obtain ⟨hm, he, hcd, ar⟩ := ht.of hd
  unfold Ad.Ar at ar
  have hb := (may_iff _ _ _).1 hm
  obtain ⟨q0, q1⟩ := status_in (i := t.d) hw hm (by omega) (by omega)
  rcases (by omega : t.nx = 0 ∨ t.nx = 1 ∨ t.nx = 2) with hn | hn | hn
  · rw [Ad.s0 hd hn]
    have hln : Ad.ln t.nx = 0 := by rw [hn]; rfl
    have hu : U (w.get (status t.s.p t.s.c t.s.m t.d)) := hw.u _
    simp only [hk, r1, r2, u_status, hln, Ad.ren, ↓D0, ↓D1, ↓D2, ↓D3, ↓D4, ↓D5, ↓D6, ↓D7, ↓D8, ↓D9, U0, U1, U2, U3, U4, U5, U6, U7, U8, U9, U10, ↓reduceIte, Nat.reduceAdd, Nat.reduceMul, Nat.reduceSub, Nat.reduceEqDiff, Nat.reduceBEq, Nat.reduceLeDiff, Nat.reduceLT, Int.reduceAdd, Int.reduceMul, Int.reduceSub, Int.reduceLT, Int.reduceLE, Int.reduceToNat, Int.reduceEq, Int.reduceNe, Int.reduceBEq, Int.reduceBNe, ne_eq, eq_self]
    refine callT_of (m_load _ _ q0 q1 hL hl hS.r3) ?_
    rintro v H' ⟨rfl, a2, cap2, g2, hL, hS⟩
    have hS := hS.p3
    have hk := hS.look
    have r1 := fun o => rd_of hk o
    have r2 := fun o n => rdn_of hk o n
    have hS1 := hS.set (.cells (Ad.ren { t with was := w.get (status t.s.p t.s.c t.s.m t.d) }) 101 (0, 0))
    obtain ⟨x, hx⟩ : ∃ x, x = w.get (status t.s.p t.s.c t.s.m t.d) := ⟨_, rfl⟩
    have hx2 : w.get t.dat = x := hx.symm
    rw [hx2]
    rw [← hx] at hu hS1 ⊢
    have hbx := stB_bd x
    by_cases k2 : stK x = 2
    · have g2 : (stK x == 2) = true := beq_iff_eq.2 k2
      have e : t.ask x = { t with was := x, nx := 2 } := by unfold Ad.ask; rw [if_pos k2]
      simp only [hk, r1, r2, u_readst hu, g2, Ad.ren, Ev.upd_upd, ↓D0, ↓D1, ↓D2, ↓D3, ↓D4, ↓D5, ↓D6, ↓D7, ↓D8, ↓D9, U0, U1, U2, U3, U4, U5, U6, U7, U8, U9, U10, ↓reduceIte, Nat.reduceAdd, Nat.reduceMul, Nat.reduceSub, Nat.reduceEqDiff, Nat.reduceBEq, Nat.reduceLeDiff, Nat.reduceLT, Int.reduceAdd, Int.reduceMul, Int.reduceSub, Int.reduceLT, Int.reduceLE, Int.reduceToNat, Int.reduceEq, Int.reduceNe, Int.reduceBEq, Int.reduceBNe, ne_eq, eq_self]
      rw [e]
      exact ⟨a2, cap2, _, hL, hS.set (.cells (Ad.ren { t with was := x, nx := 2 }) 101 (0, 0))⟩
    have g2 : (stK x == 2) = false := beq_eq_false_iff_ne.2 k2
    by_cases k3 : stK x = 3
    · have g3 : (stK x != 3) = false := by simp [k3]
      by_cases hs : t.s.c ≤ stB x
      · have gs : decide (t.s.c ≤ stB x) = true := decide_eq_true hs
        have hs' : status t.s.p t.s.c t.s.m (stB x) < 0 := by rw [status_lt0]; omega
        have e : t.ask x = ({ t with was := x } : Ad).fin 4 := by unfold Ad.ask; rw [if_neg k2, if_pos k3, if_pos hs']; rfl
        simp only [hk, r1, r2, u_readst hu, g2, g3, gs, Ad.ren, Ev.upd_upd, ↓D0, ↓D1, ↓D2, ↓D3, ↓D4, ↓D5, ↓D6, ↓D7, ↓D8, ↓D9, U0, U1, U2, U3, U4, U5, U6, U7, U8, U9, U10, ↓reduceIte, Nat.reduceAdd, Nat.reduceMul, Nat.reduceSub, Nat.reduceEqDiff, Nat.reduceBEq, Nat.reduceLeDiff, Nat.reduceLT, Int.reduceAdd, Int.reduceMul, Int.reduceSub, Int.reduceLT, Int.reduceLE, Int.reduceToNat, Int.reduceEq, Int.reduceNe, Int.reduceBEq, Int.reduceBNe, ne_eq, eq_self]
        refine callT_of (m_adend (t := { t with was := x }) 4 hS1) ?_
        rintro v H' ⟨rfl, hS⟩
        simp only [↓D0, ↓D1, ↓D2, ↓D3, ↓D4, ↓D5, ↓D6, ↓D7, ↓D8, ↓D9, U0, U1, U2, U3, U4, U5, U6, U7, U8, U9, U10, ↓reduceIte, Nat.reduceAdd, Nat.reduceMul, Nat.reduceSub, Nat.reduceEqDiff, Nat.reduceBEq, Nat.reduceLeDiff, Nat.reduceLT, Int.reduceAdd, Int.reduceMul, Int.reduceSub, Int.reduceLT, Int.reduceLE, Int.reduceToNat, Int.reduceEq, Int.reduceNe, Int.reduceBEq, Int.reduceBNe, ne_eq, eq_self]
        rw [e]
        exact ⟨a2, cap2, _, hL, hS⟩
      · have gs : decide (t.s.c ≤ stB x) = false := decide_eq_false hs
        have hs' : ¬ status t.s.p t.s.c t.s.m (stB x) < 0 := by rw [status_lt0]; exact fun h => h ⟨hm, by omega, by omega⟩
        have e : t.ask x = { t with was := x, by' := stB x, nx := 1, di := stB x } := by unfold Ad.ask; rw [if_neg k2, if_pos k3, if_neg hs']
        simp only [hk, r1, r2, u_readst hu, g2, g3, gs, Ad.ren, Ev.upd_upd, ↓D0, ↓D1, ↓D2, ↓D3, ↓D4, ↓D5, ↓D6, ↓D7, ↓D8, ↓D9, U0, U1, U2, U3, U4, U5, U6, U7, U8, U9, U10, ↓reduceIte, Nat.reduceAdd, Nat.reduceMul, Nat.reduceSub, Nat.reduceEqDiff, Nat.reduceBEq, Nat.reduceLeDiff, Nat.reduceLT, Int.reduceAdd, Int.reduceMul, Int.reduceSub, Int.reduceLT, Int.reduceLE, Int.reduceToNat, Int.reduceEq, Int.reduceNe, Int.reduceBEq, Int.reduceBNe, ne_eq, eq_self]
        rw [e]
        exact ⟨a2, cap2, _, hL, hS.set (.cells (Ad.ren { t with was := x, by' := stB x, nx := 1, di := stB x }) 101 (0, 0))⟩
    · have g3 : (stK x != 3) = true := by simp [k3]
      have e : t.ask x = ({ t with was := x } : Ad).fin 5 := by unfold Ad.ask; rw [if_neg k2, if_neg k3]; rfl
      simp only [hk, r1, r2, u_readst hu, g2, g3, Ad.ren, Ev.upd_upd, ↓D0, ↓D1, ↓D2, ↓D3, ↓D4, ↓D5, ↓D6, ↓D7, ↓D8, ↓D9, U0, U1, U2, U3, U4, U5, U6, U7, U8, U9, U10, ↓reduceIte, Nat.reduceAdd, Nat.reduceMul, Nat.reduceSub, Nat.reduceEqDiff, Nat.reduceBEq, Nat.reduceLeDiff, Nat.reduceLT, Int.reduceAdd, Int.reduceMul, Int.reduceSub, Int.reduceLT, Int.reduceLE, Int.reduceToNat, Int.reduceEq, Int.reduceNe, Int.reduceBEq, Int.reduceBNe, ne_eq, eq_self]
      refine callT_of (m_adend (t := { t with was := x }) 5 hS1) ?_
      rintro v H' ⟨rfl, hS⟩
      simp only [↓D0, ↓D1, ↓D2, ↓D3, ↓D4, ↓D5, ↓D6, ↓D7, ↓D8, ↓D9, U0, U1, U2, U3, U4, U5, U6, U7, U8, U9, U10, ↓reduceIte, Nat.reduceAdd, Nat.reduceMul, Nat.reduceSub, Nat.reduceEqDiff, Nat.reduceBEq, Nat.reduceLeDiff, Nat.reduceLT, Int.reduceAdd, Int.reduceMul, Int.reduceSub, Int.reduceLT, Int.reduceLE, Int.reduceToNat, Int.reduceEq, Int.reduceNe, Int.reduceBEq, Int.reduceBNe, ne_eq, eq_self]
      rw [e]
      exact ⟨a2, cap2, _, hL, hS⟩
  · rw [Ad.s1 hd hn]
    have hln : Ad.ln t.nx = 1 := by rw [hn]; rfl
    obtain ⟨hby0, hby1, hdb⟩ := ar.2.2.2.2.2.2.2.2.2.2.1 hn
    obtain ⟨z0, z1⟩ := status_in (i := t.by') hw hm (by omega) (by omega)
    have hu : U (w.get (status t.s.p t.s.c t.s.m t.by')) := hw.u _
    simp only [hk, r1, r2, u_status, hln, Ad.ren, ↓D0, ↓D1, ↓D2, ↓D3, ↓D4, ↓D5, ↓D6, ↓D7, ↓D8, ↓D9, U0, U1, U2, U3, U4, U5, U6, U7, U8, U9, U10, ↓reduceIte, Nat.reduceAdd, Nat.reduceMul, Nat.reduceSub, Nat.reduceEqDiff, Nat.reduceBEq, Nat.reduceLeDiff, Nat.reduceLT, Int.reduceAdd, Int.reduceMul, Int.reduceSub, Int.reduceLT, Int.reduceLE, Int.reduceToNat, Int.reduceEq, Int.reduceNe, Int.reduceBEq, Int.reduceBNe, ne_eq, eq_self]
    refine draw_intro [(k, Ad.ren t, [])] (by simp only [hk, ↓D0, ↓D1, ↓D2, ↓D3, ↓D4, ↓D5, ↓D6, ↓D7, ↓D8, ↓D9, U0, U1, U2, U3, U4, U5, U6, U7, U8, U9, U10, ↓reduceIte, Nat.reduceAdd, Nat.reduceMul, Nat.reduceSub, Nat.reduceEqDiff, Nat.reduceBEq, Nat.reduceLeDiff, Nat.reduceLT, Int.reduceAdd, Int.reduceMul, Int.reduceSub, Int.reduceLT, Int.reduceLE, Int.reduceToNat, Int.reduceEq, Int.reduceNe, Int.reduceBEq, Int.reduceBNe, ne_eq, eq_self]) ?_
    simp only [hk, r1, r2, u_status, hdb, Ad.ren, ↓D0, ↓D1, ↓D2, ↓D3, ↓D4, ↓D5, ↓D6, ↓D7, ↓D8, ↓D9, U0, U1, U2, U3, U4, U5, U6, U7, U8, U9, U10, ↓reduceIte, Nat.reduceAdd, Nat.reduceMul, Nat.reduceSub, Nat.reduceEqDiff, Nat.reduceBEq, Nat.reduceLeDiff, Nat.reduceLT, Int.reduceAdd, Int.reduceMul, Int.reduceSub, Int.reduceLT, Int.reduceLE, Int.reduceToNat, Int.reduceEq, Int.reduceNe, Int.reduceBEq, Int.reduceBNe, ne_eq, eq_self]
    refine callT_of (m_load _ _ z0 z1 hL hl hS.r3) ?_
    rintro v H' ⟨rfl, a2, cap2, g2, hL, hS⟩
    have hS := hS.p3
    have hk := hS.look
    have r1 := fun o => rd_of hk o
    obtain ⟨x, hx⟩ : ∃ x, x = w.get (status t.s.p t.s.c t.s.m t.by') := ⟨_, rfl⟩
    have hx2 : w.get t.bat = x := hx.symm
    rw [hx2]
    rw [← hx] at hu ⊢
    by_cases k1 : stK x = 1
    · have g1 : (stK x == 1) = true := beq_iff_eq.2 k1
      have e : t.other x = { t.fin 4 with nx := 2 } := by unfold Ad.other; rw [if_pos k1]; rfl
      simp only [hk, r1, u_readst hu, g1, hdb, Ad.ren, Ev.upd_upd, ↓D0, ↓D1, ↓D2, ↓D3, ↓D4, ↓D5, ↓D6, ↓D7, ↓D8, ↓D9, U0, U1, U2, U3, U4, U5, U6, U7, U8, U9, U10, ↓reduceIte, Nat.reduceAdd, Nat.reduceMul, Nat.reduceSub, Nat.reduceEqDiff, Nat.reduceBEq, Nat.reduceLeDiff, Nat.reduceLT, Int.reduceAdd, Int.reduceMul, Int.reduceSub, Int.reduceLT, Int.reduceLE, Int.reduceToNat, Int.reduceEq, Int.reduceNe, Int.reduceBEq, Int.reduceBNe, ne_eq, eq_self]
      refine callT_of (m_adend 4 hS) ?_
      rintro v H' ⟨rfl, hS⟩
      have hk := hS.look
      have r1 := fun o => rd_of hk o
      simp only [hk, r1, Ad.ren, Ev.upd_upd, ↓D0, ↓D1, ↓D2, ↓D3, ↓D4, ↓D5, ↓D6, ↓D7, ↓D8, ↓D9, U0, U1, U2, U3, U4, U5, U6, U7, U8, U9, U10, ↓reduceIte, Nat.reduceAdd, Nat.reduceMul, Nat.reduceSub, Nat.reduceEqDiff, Nat.reduceBEq, Nat.reduceLeDiff, Nat.reduceLT, Int.reduceAdd, Int.reduceMul, Int.reduceSub, Int.reduceLT, Int.reduceLE, Int.reduceToNat, Int.reduceEq, Int.reduceNe, Int.reduceBEq, Int.reduceBNe, ne_eq, eq_self]
      rw [e]
      exact ⟨a2, cap2, _, hL, hS.set (.cells (Ad.ren { t.fin 4 with nx := 2 }) 101 (0, 0))⟩
    · have g1 : (stK x == 1) = false := beq_eq_false_iff_ne.2 k1
      have e : t.other x = { t with nx := 2 } := by unfold Ad.other; rw [if_neg k1]
      simp only [hk, r1, u_readst hu, g1, hdb, Ad.ren, Ev.upd_upd, ↓D0, ↓D1, ↓D2, ↓D3, ↓D4, ↓D5, ↓D6, ↓D7, ↓D8, ↓D9, U0, U1, U2, U3, U4, U5, U6, U7, U8, U9, U10, ↓reduceIte, Nat.reduceAdd, Nat.reduceMul, Nat.reduceSub, Nat.reduceEqDiff, Nat.reduceBEq, Nat.reduceLeDiff, Nat.reduceLT, Int.reduceAdd, Int.reduceMul, Int.reduceSub, Int.reduceLT, Int.reduceLE, Int.reduceToNat, Int.reduceEq, Int.reduceNe, Int.reduceBEq, Int.reduceBNe, ne_eq, eq_self]
      rw [e]
      have := hS.set (.cells (Ad.ren { t with nx := 2 }) 101 (0, 0))
      unfold Ad.ren at this
      simp only [hdb] at this
      unfold raB Ad.ren
      simp only [hdb]
      exact ⟨a2, cap2, _, hL, this⟩
  · rw [Ad.s2 hd hn]
    have hln : Ad.ln t.nx = 2 := by rw [hn]; rfl
    simp only [hk, r1, r2, u_status, hln, Ad.ren, ↓D0, ↓D1, ↓D2, ↓D3, ↓D4, ↓D5, ↓D6, ↓D7, ↓D8, ↓D9, U0, U1, U2, U3, U4, U5, U6, U7, U8, U9, U10, ↓reduceIte, Nat.reduceAdd, Nat.reduceMul, Nat.reduceSub, Nat.reduceEqDiff, Nat.reduceBEq, Nat.reduceLeDiff, Nat.reduceLT, Int.reduceAdd, Int.reduceMul, Int.reduceSub, Int.reduceLT, Int.reduceLE, Int.reduceToNat, Int.reduceEq, Int.reduceNe, Int.reduceBEq, Int.reduceBNe, ne_eq, eq_self]
    refine draw_intro [(k, Ad.ren t, [])] (by simp only [hk, Ad.ren, ↓D0, ↓D1, ↓D2, ↓D3, ↓D4, ↓D5, ↓D6, ↓D7, ↓D8, ↓D9, U0, U1, U2, U3, U4, U5, U6, U7, U8, U9, U10, ↓reduceIte, Nat.reduceAdd, Nat.reduceMul, Nat.reduceSub, Nat.reduceEqDiff, Nat.reduceBEq, Nat.reduceLeDiff, Nat.reduceLT, Int.reduceAdd, Int.reduceMul, Int.reduceSub, Int.reduceLT, Int.reduceLE, Int.reduceToNat, Int.reduceEq, Int.reduceNe, Int.reduceBEq, Int.reduceBNe, ne_eq, eq_self]) ?_
    simp only [hk, r1, r2, u_status, u_putst, Ad.ren, ↓D0, ↓D1, ↓D2, ↓D3, ↓D4, ↓D5, ↓D6, ↓D7, ↓D8, ↓D9, U0, U1, U2, U3, U4, U5, U6, U7, U8, U9, U10, ↓reduceIte, Nat.reduceAdd, Nat.reduceMul, Nat.reduceSub, Nat.reduceEqDiff, Nat.reduceBEq, Nat.reduceLeDiff, Nat.reduceLT, Int.reduceAdd, Int.reduceMul, Int.reduceSub, Int.reduceLT, Int.reduceLE, Int.reduceToNat, Int.reduceEq, Int.reduceNe, Int.reduceBEq, Int.reduceBNe, ne_eq, eq_self]
    refine callT_of (m_swap _ _ _ _ q0 q1 hL hl hS.r3) ?_
    rintro v H' ⟨rfl, a2, cap2, g2, hL, hS⟩
    have hS := hS.p3
    have hk := hS.look
    have r1 := fun o => rd_of hk o
    by_cases hx : w.get t.dat = t.was
    · have gx : (w.get (status t.s.p t.s.c t.s.m t.d) == t.was) = true := beq_iff_eq.2 hx
      have e : t.claim (w.get t.dat) = { t with nx := 3, di := 0 } := by unfold Ad.claim; rw [if_pos hx]
      simp only [hk, r1, gx, Ad.ren, Ev.upd_upd, ↓D0, ↓D1, ↓D2, ↓D3, ↓D4, ↓D5, ↓D6, ↓D7, ↓D8, ↓D9, U0, U1, U2, U3, U4, U5, U6, U7, U8, U9, U10, ↓reduceIte, Nat.reduceAdd, Nat.reduceMul, Nat.reduceSub, Nat.reduceEqDiff, Nat.reduceBEq, Nat.reduceLeDiff, Nat.reduceLT, Int.reduceAdd, Int.reduceMul, Int.reduceSub, Int.reduceLT, Int.reduceLE, Int.reduceToNat, Int.reduceEq, Int.reduceNe, Int.reduceBEq, Int.reduceBNe, ne_eq, eq_self]
      rw [e]
      exact ⟨a2, cap2, _, hL, hS.set (.cells (Ad.ren { t with nx := 3, di := 0 }) 101 (0, 0))⟩
    · have gx : (w.get (status t.s.p t.s.c t.s.m t.d) == t.was) = false := beq_eq_false_iff_ne.2 hx
      have e : t.claim (w.get t.dat) = { t.fin 4 with nx := 3, di := 0 } := by unfold Ad.claim; rw [if_neg hx]; rfl
      simp only [hk, r1, gx, Ad.ren, Ev.upd_upd, ↓D0, ↓D1, ↓D2, ↓D3, ↓D4, ↓D5, ↓D6, ↓D7, ↓D8, ↓D9, U0, U1, U2, U3, U4, U5, U6, U7, U8, U9, U10, ↓reduceIte, Nat.reduceAdd, Nat.reduceMul, Nat.reduceSub, Nat.reduceEqDiff, Nat.reduceBEq, Nat.reduceLeDiff, Nat.reduceLT, Int.reduceAdd, Int.reduceMul, Int.reduceSub, Int.reduceLT, Int.reduceLE, Int.reduceToNat, Int.reduceEq, Int.reduceNe, Int.reduceBEq, Int.reduceBNe, ne_eq, eq_self]
      refine callT_of (m_adend 4 hS) ?_
      rintro v H' ⟨rfl, hS⟩
      have hk := hS.look
      have r1 := fun o => rd_of hk o
      simp only [hk, r1, Ad.ren, Ev.upd_upd, ↓D0, ↓D1, ↓D2, ↓D3, ↓D4, ↓D5, ↓D6, ↓D7, ↓D8, ↓D9, U0, U1, U2, U3, U4, U5, U6, U7, U8, U9, U10, ↓reduceIte, Nat.reduceAdd, Nat.reduceMul, Nat.reduceSub, Nat.reduceEqDiff, Nat.reduceBEq, Nat.reduceLeDiff, Nat.reduceLT, Int.reduceAdd, Int.reduceMul, Int.reduceSub, Int.reduceLT, Int.reduceLE, Int.reduceToNat, Int.reduceEq, Int.reduceNe, Int.reduceBEq, Int.reduceBNe, ne_eq, eq_self]
      rw [e]
      exact ⟨a2, cap2, _, hL, hS.set (.cells (Ad.ren { t.fin 4 with nx := 3, di := 0 }) 101 (0, 0))⟩
/-- Behind a look at a page: what was read, in a new place. -/
def adC5 (k b s : Nat) (t : Ad) (w : Wd) (l : List Hp) (F' : Fr) (H' : Hp) : Prop :=
  gt F' 0 = .pointer (some ⟨k, 0, none⟩) ∧ gt F' 6 = .bool (okPg t.s t.at' (w.get t.pat)) ∧ ∃ y a2 cap2 g2, gt F' 5 = .pointer (some ⟨y, 0, none⟩) ∧ LogOk a2 cap2 (w.load t.c t.pat) g2 ∧
    Sep (raB k t :: mB b s a2 cap2 (w.load t.c t.pat) :: wR s (w.load t.c t.pat) :: g2 :: sg y (.cells #[.int .i64 (pgK t.s t.at' (w.get t.pat)), .int .i64 (pgA t.s t.at' (w.get t.pat)), .int .i64 (pgB t.s t.at' (w.get t.pat))] 32 (0, 0)) :: l) H'
/-- Behind a look at a page: what was read, in a new place. -/
def adC7 (k b s : Nat) (t : Ad) (w : Wd) (l : List Hp) (F' : Fr) (H' : Hp) : Prop :=
  gt F' 0 = .pointer (some ⟨k, 0, none⟩) ∧ gt F' 8 = .bool (okPg t.s t.at' (w.get t.pat)) ∧ ∃ y a2 cap2 g2, gt F' 7 = .pointer (some ⟨y, 0, none⟩) ∧ LogOk a2 cap2 (w.load t.c t.pat) g2 ∧
    Sep (raB k t :: mB b s a2 cap2 (w.load t.c t.pat) :: wR s (w.load t.c t.pat) :: g2 :: sg y (.cells #[.int .i64 (pgK t.s t.at' (w.get t.pat)), .int .i64 (pgA t.s t.at' (w.get t.pat)), .int .i64 (pgB t.s t.at' (w.get t.pat))] 32 (0, 0)) :: l) H'
theorem m_adstep (ht : t.wf) (hw : t.dn = false → w.of t.s) (hL : LogOk a cap w g) (hl : w.st + 1 ≤ 1000000000) (hS : Sep (raB k t :: mB b s a cap w :: wR s w :: g :: l) H) :
    CallP Try.prog W 58 #[.pointer (some ⟨k, 0, none⟩), .pointer (some ⟨b, 0, none⟩)] H fun v H' => v = .tuple #[] ∧
      ∃ a2 cap2 g2, LogOk a2 cap2 (t.step w).2 g2 ∧ Sep (raB k (t.step w).1 :: mB b s a2 cap2 (t.step w).2 :: wR s (t.step w).2 :: g2 :: l) H' := by
  refine CallP.of mixed Try.func58 tr58 (by show 2 ≤ _; decide) fun W _ => ?_
  have hk := hS.look
  have r1 := fun o => rd_of hk o
  have r2 := fun o n => rdn_of hk o n
  cases hd : t.dn
  rotate_left
  · rw [Ad.step_dn hd]
    simp only [hk, r1, Ad.ren, hd, ↓D0, ↓D1, ↓D2, ↓D3, ↓D4, ↓D5, ↓D6, ↓D7, ↓D8, ↓D9, U0, U1, U2, U3, U4, U5, U6, U7, U8, U9, U10, ↓reduceIte, Nat.reduceAdd, Nat.reduceMul, Nat.reduceSub, Nat.reduceEqDiff, Nat.reduceBEq, Nat.reduceLeDiff, Nat.reduceLT, Int.reduceAdd, Int.reduceMul, Int.reduceSub, Int.reduceLT, Int.reduceLE, Int.reduceToNat, Int.reduceEq, Int.reduceNe, Int.reduceBEq, Int.reduceBNe, ne_eq, eq_self]
    exact ⟨a, cap, g, hL, hS⟩
  have hw := hw hd
  obtain ⟨hm, he, hcd, ar⟩ := ht.of hd
  unfold Ad.Ar at ar
  have hb := (may_iff _ _ _).1 hm
  have sb := slots_bd t.pA
  by_cases h2 : t.nx ≤ 2
  · have g2 : decide (Ad.ln t.nx ≤ 2) = true := decide_eq_true (by unfold Ad.ln; rw [if_pos (by omega)]; exact h2)
    simp only [hk, r1, Ad.ren, hd, g2, ↓D0, ↓D1, ↓D2, ↓D3, ↓D4, ↓D5, ↓D6, ↓D7, ↓D8, ↓D9, U0, U1, U2, U3, U4, U5, U6, U7, U8, U9, U10, ↓reduceIte, Nat.reduceAdd, Nat.reduceMul, Nat.reduceSub, Nat.reduceEqDiff, Nat.reduceBEq, Nat.reduceLeDiff, Nat.reduceLT, Int.reduceAdd, Int.reduceMul, Int.reduceSub, Int.reduceLT, Int.reduceLE, Int.reduceToNat, Int.reduceEq, Int.reduceNe, Int.reduceBEq, Int.reduceBNe, ne_eq, eq_self]
    refine callT_of (m_adbegin ht hd h2 hw hL hl hS) ?_
    rintro v H' ⟨rfl, a2, cap2, g2, hL, hS⟩
    simp only [↓D0, ↓D1, ↓D2, ↓D3, ↓D4, ↓D5, ↓D6, ↓D7, ↓D8, ↓D9, U0, U1, U2, U3, U4, U5, U6, U7, U8, U9, U10, ↓reduceIte, Nat.reduceAdd, Nat.reduceMul, Nat.reduceSub, Nat.reduceEqDiff, Nat.reduceBEq, Nat.reduceLeDiff, Nat.reduceLT, Int.reduceAdd, Int.reduceMul, Int.reduceSub, Int.reduceLT, Int.reduceLE, Int.reduceToNat, Int.reduceEq, Int.reduceNe, Int.reduceBEq, Int.reduceBNe, ne_eq, eq_self]
    exact ⟨a2, cap2, g2, hL, hS⟩
  obtain ⟨p0, p1⟩ := page_in (i := t.at') hw hm (by omega) (by omega)
  rcases (by omega : t.nx = 3 ∨ t.nx = 4 ∨ t.nx = 5 ∨ t.nx = 6 ∨ t.nx = 7 ∨ t.nx = 8 ∨ t.nx = 9 ∨ t.nx = 10 ∨ t.nx = 11 ∨ t.nx = 12 ∨ t.nx = 13) with hn | hn | hn | hn | hn | hn | hn | hn | hn | hn | hn
  · rw [Ad.s3 hd hn]
    have hln : Ad.ln t.nx = 3 := by rw [hn]; rfl
    have hu : U (w.get (page t.s.p t.s.c t.s.m t.at')) := hw.u _
    simp only [hk, r1, r2, u_page, hln, Ad.ren, hd, ↓D0, ↓D1, ↓D2, ↓D3, ↓D4, ↓D5, ↓D6, ↓D7, ↓D8, ↓D9, U0, U1, U2, U3, U4, U5, U6, U7, U8, U9, U10, ↓reduceIte, Nat.reduceAdd, Nat.reduceMul, Nat.reduceSub, Nat.reduceEqDiff, Nat.reduceBEq, Nat.reduceLeDiff, Nat.reduceLT, Int.reduceAdd, Int.reduceMul, Int.reduceSub, Int.reduceLT, Int.reduceLE, Int.reduceToNat, Int.reduceEq, Int.reduceNe, Int.reduceBEq, Int.reduceBNe, ne_eq, eq_self]
    have hkr : H k = some (.cells #[.int .i64 t.s.p, .int .i64 t.s.c, .int .i64 t.s.m, .int .i64 t.c, .int .i64 t.d, .int .i64 t.err, .bool t.dn, .int .i64 (Ad.ln t.nx), .int .u64 t.was, .int .i64 t.at', .int .i64 t.di, .int .i64 t.qK, .int .i64 t.qA, .int .i64 t.qB] 101 (0, 0)) := hk
    refine draw_cut [(k, Ad.ren t, [])] (adC5 k b s t w l) (by simp only [hk, Ad.ren, ↓D0, ↓D1, ↓D2, ↓D3, ↓D4, ↓D5, ↓D6, ↓D7, ↓D8, ↓D9, U0, U1, U2, U3, U4, U5, U6, U7, U8, U9, U10, ↓reduceIte, Nat.reduceAdd, Nat.reduceMul, Nat.reduceSub, Nat.reduceEqDiff, Nat.reduceBEq, Nat.reduceLeDiff, Nat.reduceLT, Int.reduceAdd, Int.reduceMul, Int.reduceSub, Int.reduceLT, Int.reduceLE, Int.reduceToNat, Int.reduceEq, Int.reduceNe, Int.reduceBEq, Int.reduceBNe, ne_eq, eq_self]) ?_ ?_
    · simp only [hk, r1, r2, u_page, Ad.ren, ↓e_dalt2, ↓D0, ↓D1, ↓D2, ↓D3, ↓D4, ↓D5, ↓D6, ↓D7, ↓D8, ↓D9, U0, U1, U2, U3, U4, U5, U6, U7, U8, U9, U10, ↓reduceIte, Nat.reduceAdd, Nat.reduceMul, Nat.reduceSub, Nat.reduceEqDiff, Nat.reduceBEq, Nat.reduceLeDiff, Nat.reduceLT, Int.reduceAdd, Int.reduceMul, Int.reduceSub, Int.reduceLT, Int.reduceLE, Int.reduceToNat, Int.reduceEq, Int.reduceNe, Int.reduceBEq, Int.reduceBNe, ne_eq, eq_self]
      refine ⟨?_, ?_⟩
      · refine callT_of (m_load _ _ p0 p1 hL hl hS.r3) ?_
        rintro v H' ⟨rfl, a2, cap2, g2, hL, hS⟩
        have hS := hS.p3
        have hk := hS.look
        have r1 := fun o => rd_of hk o
        have r2 := fun o n => rdn_of hk o n
        simp only [hk, r1, r2, u_readpg t.s _ hu, Ad.ren, ↓e_dalt2, ↓D0, ↓D1, ↓D2, ↓D3, ↓D4, ↓D5, ↓D6, ↓D7, ↓D8, ↓D9, U0, U1, U2, U3, U4, U5, U6, U7, U8, U9, U10, ↓reduceIte, Nat.reduceAdd, Nat.reduceMul, Nat.reduceSub, Nat.reduceEqDiff, Nat.reduceBEq, Nat.reduceLeDiff, Nat.reduceLT, Int.reduceAdd, Int.reduceMul, Int.reduceSub, Int.reduceLT, Int.reduceLE, Int.reduceToNat, Int.reduceEq, Int.reduceNe, Int.reduceBEq, Int.reduceBNe, ne_eq, eq_self]
        refine ⟨?_, ?_⟩
        all_goals
          refine newB_intro fun y hy f3 f4 => ?_
          have nky : (k = y) = False := f3 k (by rw [hk]; rfl)
          have nyk : (y = k) = False := f4 k (by rw [hk]; rfl)
          have hS := (hS.new f3 (.cells #[.int .i64 (pgK t.s t.at' (w.get t.pat)), .int .i64 (pgA t.s t.at' (w.get t.pat)), .int .i64 (pgB t.s t.at' (w.get t.pat))] 32 (0, 0))).r4
          simp only [hk, r1, r2, nky, nyk, u_readpg t.s _ hu, Ev.upd_upd, Ad.ren, ↓D0, ↓D1, ↓D2, ↓D3, ↓D4, ↓D5, ↓D6, ↓D7, ↓D8, ↓D9, U0, U1, U2, U3, U4, U5, U6, U7, U8, U9, U10, ↓reduceIte, Nat.reduceAdd, Nat.reduceMul, Nat.reduceSub, Nat.reduceEqDiff, Nat.reduceBEq, Nat.reduceLeDiff, Nat.reduceLT, Int.reduceAdd, Int.reduceMul, Int.reduceSub, Int.reduceLT, Int.reduceLE, Int.reduceToNat, Int.reduceEq, Int.reduceNe, Int.reduceBEq, Int.reduceBNe, ne_eq, eq_self]
          exact ⟨rfl, rfl, y, a2, cap2, _, rfl, hL, hS⟩
      · refine newB_intro fun y hy f3 f4 => ?_
        have nky : (k = y) = False := f3 k (by rw [hk]; rfl)
        have nyk : (y = k) = False := f4 k (by rw [hk]; rfl)
        have hS := (hS.new f3 (.cells #[.int .i64 0, .int .i64 0, .int .i64 0] 32 (0, 0))).r4
        simp only [hk, r1, r2, nky, nyk, Ad.ren, ↓D0, ↓D1, ↓D2, ↓D3, ↓D4, ↓D5, ↓D6, ↓D7, ↓D8, ↓D9, U0, U1, U2, U3, U4, U5, U6, U7, U8, U9, U10, ↓reduceIte, Nat.reduceAdd, Nat.reduceMul, Nat.reduceSub, Nat.reduceEqDiff, Nat.reduceBEq, Nat.reduceLeDiff, Nat.reduceLT, Int.reduceAdd, Int.reduceMul, Int.reduceSub, Int.reduceLT, Int.reduceLE, Int.reduceToNat, Int.reduceEq, Int.reduceNe, Int.reduceBEq, Int.reduceBNe, ne_eq, eq_self]
        refine callT_of (m_load _ _ p0 p1 hL hl hS.r3) ?_
        rintro v H' ⟨rfl, a2, cap2, g2, hL, hS⟩
        have hS := hS.p3
        have hk := hS.look
        have hy1 := hS.lk 4 rfl
        have r1 := fun o => rd_of hk o
        have r2 := fun o n => rdn_of hk o n
        simp only [hk, hy1, r1, r2, nky, nyk, u_readpg t.s _ hu, Ev.upd_upd, Ad.ren, ↓D0, ↓D1, ↓D2, ↓D3, ↓D4, ↓D5, ↓D6, ↓D7, ↓D8, ↓D9, U0, U1, U2, U3, U4, U5, U6, U7, U8, U9, U10, ↓reduceIte, Nat.reduceAdd, Nat.reduceMul, Nat.reduceSub, Nat.reduceEqDiff, Nat.reduceBEq, Nat.reduceLeDiff, Nat.reduceLT, Int.reduceAdd, Int.reduceMul, Int.reduceSub, Int.reduceLT, Int.reduceLE, Int.reduceToNat, Int.reduceEq, Int.reduceNe, Int.reduceBEq, Int.reduceBNe, ne_eq, eq_self]
        exact ⟨rfl, rfl, y, a2, cap2, _, rfl, hL, (hS.p4.set (.cells #[.int .i64 (pgK t.s t.at' (w.get t.pat)), .int .i64 (pgA t.s t.at' (w.get t.pat)), .int .i64 (pgB t.s t.at' (w.get t.pat))] 32 (0, 0))).r4⟩
    · rintro F' H' ⟨e0, e6, y, a2, cap2, g2, e5, hL, hS⟩
      have hk := hS.look
      have r1 := fun o => rd_of hk o
      have hy1 := hS.lk 4 rfl
      have ry := fun o => rd_of hy1 o
      have ryn := fun o n => rdn_of hy1 o n
      have nky := hS.neq 0 4 (by decide) rfl rfl
      have nyk := hS.qen 0 4 (by decide) rfl rfl
      cases ho : okPg t.s t.at' (w.get t.pat)
      · have e : t.bodies (w.get t.pat) = (t.read (w.get t.pat)).turn 3 6 := by unfold Ad.bodies; rw [if_neg (by unfold Ad.isB; rw [ho]; simp)]
        have e2 : raB k ((t.read (w.get t.pat)).turn 3 6) = raB k (t.turn 3 6) := ra_turn ..
        rw [ho] at e6
        simp only [hk, r1, hy1, ry, ryn, e0, e5, e6, nky, nyk, Ad.ren, Ev.upd_upd, ↓D0, ↓D1, ↓D2, ↓D3, ↓D4, ↓D5, ↓D6, ↓D7, ↓D8, ↓D9, U0, U1, U2, U3, U4, U5, U6, U7, U8, U9, U10, ↓reduceIte, Nat.reduceAdd, Nat.reduceMul, Nat.reduceSub, Nat.reduceEqDiff, Nat.reduceBEq, Nat.reduceLeDiff, Nat.reduceLT, Int.reduceAdd, Int.reduceMul, Int.reduceSub, Int.reduceLT, Int.reduceLE, Int.reduceToNat, Int.reduceEq, Int.reduceNe, Int.reduceBEq, Int.reduceBNe, ne_eq, eq_self]
        refine callT_of (m_adon 3 6 rfl rfl (by decide) (by omega) hS) ?_
        rintro v H' ⟨rfl, hS⟩
        simp only [↓D0, ↓D1, ↓D2, ↓D3, ↓D4, ↓D5, ↓D6, ↓D7, ↓D8, ↓D9, U0, U1, U2, U3, U4, U5, U6, U7, U8, U9, U10, ↓reduceIte, Nat.reduceAdd, Nat.reduceMul, Nat.reduceSub, Nat.reduceEqDiff, Nat.reduceBEq, Nat.reduceLeDiff, Nat.reduceLT, Int.reduceAdd, Int.reduceMul, Int.reduceSub, Int.reduceLT, Int.reduceLE, Int.reduceToNat, Int.reduceEq, Int.reduceNe, Int.reduceBEq, Int.reduceBNe, ne_eq, eq_self]
        rw [e, e2]
        exact ⟨a2, cap2, g2, hL, hS.p4.tail⟩
      · rw [ho] at e6
        by_cases hK : pgK t.s t.at' (w.get t.pat) = 4
        · have gK : (pgK t.s t.at' (w.get t.pat) == 4) = true := beq_iff_eq.2 hK
          have e : t.bodies (w.get t.pat) = { t.readQ (w.get t.pat) with nx := 4 } := by unfold Ad.bodies; rw [if_pos (by unfold Ad.isB; rw [ho, decide_eq_true hK]; rfl)]
          simp only [hk, r1, hy1, ry, ryn, e0, e5, e6, nky, nyk, gK, Ad.ren, Ev.upd_upd, ↓D0, ↓D1, ↓D2, ↓D3, ↓D4, ↓D5, ↓D6, ↓D7, ↓D8, ↓D9, U0, U1, U2, U3, U4, U5, U6, U7, U8, U9, U10, ↓reduceIte, Nat.reduceAdd, Nat.reduceMul, Nat.reduceSub, Nat.reduceEqDiff, Nat.reduceBEq, Nat.reduceLeDiff, Nat.reduceLT, Int.reduceAdd, Int.reduceMul, Int.reduceSub, Int.reduceLT, Int.reduceLE, Int.reduceToNat, Int.reduceEq, Int.reduceNe, Int.reduceBEq, Int.reduceBNe, ne_eq, eq_self]
          rw [e]
          exact ⟨a2, cap2, g2, hL, (hS.set (.cells (Ad.ren { t.readQ (w.get t.pat) with nx := 4 }) 101 (0, 0))).p4.tail⟩
        · have gK : (pgK t.s t.at' (w.get t.pat) == 4) = false := beq_eq_false_iff_ne.2 hK
          have e : t.bodies (w.get t.pat) = (t.read (w.get t.pat)).turn 3 6 := by unfold Ad.bodies; rw [if_neg (by unfold Ad.isB; rw [decide_eq_false hK]; simp)]
          have e2 : raB k ((t.read (w.get t.pat)).turn 3 6) = raB k (t.turn 3 6) := ra_turn ..
          simp only [hk, r1, hy1, ry, ryn, e0, e5, e6, nky, nyk, gK, Ad.ren, Ev.upd_upd, ↓D0, ↓D1, ↓D2, ↓D3, ↓D4, ↓D5, ↓D6, ↓D7, ↓D8, ↓D9, U0, U1, U2, U3, U4, U5, U6, U7, U8, U9, U10, ↓reduceIte, Nat.reduceAdd, Nat.reduceMul, Nat.reduceSub, Nat.reduceEqDiff, Nat.reduceBEq, Nat.reduceLeDiff, Nat.reduceLT, Int.reduceAdd, Int.reduceMul, Int.reduceSub, Int.reduceLT, Int.reduceLE, Int.reduceToNat, Int.reduceEq, Int.reduceNe, Int.reduceBEq, Int.reduceBNe, ne_eq, eq_self]
          refine callT_of (m_adon 3 6 rfl rfl (by decide) (by omega) hS) ?_
          rintro v H' ⟨rfl, hS⟩
          simp only [↓D0, ↓D1, ↓D2, ↓D3, ↓D4, ↓D5, ↓D6, ↓D7, ↓D8, ↓D9, U0, U1, U2, U3, U4, U5, U6, U7, U8, U9, U10, ↓reduceIte, Nat.reduceAdd, Nat.reduceMul, Nat.reduceSub, Nat.reduceEqDiff, Nat.reduceBEq, Nat.reduceLeDiff, Nat.reduceLT, Int.reduceAdd, Int.reduceMul, Int.reduceSub, Int.reduceLT, Int.reduceLE, Int.reduceToNat, Int.reduceEq, Int.reduceNe, Int.reduceBEq, Int.reduceBNe, ne_eq, eq_self]
          rw [e, e2]
          exact ⟨a2, cap2, g2, hL, hS.p4.tail⟩
  · rw [Ad.s4 hd hn]
    have hln : Ad.ln t.nx = 4 := by rw [hn]; rfl
    obtain ⟨hq0, hq1, hqa⟩ := ar.2.2.2.2.2.2.2.2.2.2.2.1 hn
    obtain ⟨z0, z1⟩ := page_in (i := t.pA) hw hm (by omega) (by omega)
    simp only [hk, r1, r2, u_page, hln, Ad.ren, hd, ↓D0, ↓D1, ↓D2, ↓D3, ↓D4, ↓D5, ↓D6, ↓D7, ↓D8, ↓D9, U0, U1, U2, U3, U4, U5, U6, U7, U8, U9, U10, ↓reduceIte, Nat.reduceAdd, Nat.reduceMul, Nat.reduceSub, Nat.reduceEqDiff, Nat.reduceBEq, Nat.reduceLeDiff, Nat.reduceLT, Int.reduceAdd, Int.reduceMul, Int.reduceSub, Int.reduceLT, Int.reduceLE, Int.reduceToNat, Int.reduceEq, Int.reduceNe, Int.reduceBEq, Int.reduceBNe, ne_eq, eq_self]
    refine draw_intro [(k, Ad.ren t, [])] (by simp only [hk, Ad.ren, ↓D0, ↓D1, ↓D2, ↓D3, ↓D4, ↓D5, ↓D6, ↓D7, ↓D8, ↓D9, U0, U1, U2, U3, U4, U5, U6, U7, U8, U9, U10, ↓reduceIte, Nat.reduceAdd, Nat.reduceMul, Nat.reduceSub, Nat.reduceEqDiff, Nat.reduceBEq, Nat.reduceLeDiff, Nat.reduceLT, Int.reduceAdd, Int.reduceMul, Int.reduceSub, Int.reduceLT, Int.reduceLE, Int.reduceToNat, Int.reduceEq, Int.reduceNe, Int.reduceBEq, Int.reduceBNe, ne_eq, eq_self]) ?_
    simp only [hk, r1, r2, u_page, hqa, Ad.ren, ↓D0, ↓D1, ↓D2, ↓D3, ↓D4, ↓D5, ↓D6, ↓D7, ↓D8, ↓D9, U0, U1, U2, U3, U4, U5, U6, U7, U8, U9, U10, ↓reduceIte, Nat.reduceAdd, Nat.reduceMul, Nat.reduceSub, Nat.reduceEqDiff, Nat.reduceBEq, Nat.reduceLeDiff, Nat.reduceLT, Int.reduceAdd, Int.reduceMul, Int.reduceSub, Int.reduceLT, Int.reduceLE, Int.reduceToNat, Int.reduceEq, Int.reduceNe, Int.reduceBEq, Int.reduceBNe, ne_eq, eq_self]
    refine callT_of (m_load _ _ z0 z1 hL hl hS.r3) ?_
    rintro v H' ⟨rfl, a2, cap2, g2, hL, hS⟩
    have hS := hS.p3
    have hk := hS.look
    have r1 := fun o => rd_of hk o
    by_cases ho : t.own t.pA (w.get t.hat) = true
    · have hh : w.get t.hat = held t.d := (own_iff hm (by omega) (by omega)).1 ho
      have gx : (w.get (page t.s.p t.s.c t.s.m t.pA) == held t.d) = true := beq_iff_eq.2 hh
      have e : t.head (w.get t.hat) = { t with nx := 5 } := by unfold Ad.head; rw [if_pos ho]
      simp only [hk, r1, u_held, gx, hqa, Ad.ren, Ev.upd_upd, ↓D0, ↓D1, ↓D2, ↓D3, ↓D4, ↓D5, ↓D6, ↓D7, ↓D8, ↓D9, U0, U1, U2, U3, U4, U5, U6, U7, U8, U9, U10, ↓reduceIte, Nat.reduceAdd, Nat.reduceMul, Nat.reduceSub, Nat.reduceEqDiff, Nat.reduceBEq, Nat.reduceLeDiff, Nat.reduceLT, Int.reduceAdd, Int.reduceMul, Int.reduceSub, Int.reduceLT, Int.reduceLE, Int.reduceToNat, Int.reduceEq, Int.reduceNe, Int.reduceBEq, Int.reduceBNe, ne_eq, eq_self]
      rw [e]
      have := hS.set (.cells (Ad.ren { t with nx := 5 }) 101 (0, 0))
      unfold Ad.ren at this
      simp only [hqa] at this; unfold raB Ad.ren; simp only [hqa]
      exact ⟨a2, cap2, _, hL, this⟩
    · have hh : ¬ w.get t.hat = held t.d := fun h => ho ((own_iff hm (by omega) (by omega)).2 h)
      have gx : (w.get (page t.s.p t.s.c t.s.m t.pA) == held t.d) = false := beq_eq_false_iff_ne.2 hh
      have e : t.head (w.get t.hat) = t.turn 3 6 := by unfold Ad.head; rw [if_neg ho]
      simp only [hk, r1, u_held, gx, hqa, Ad.ren, Ev.upd_upd, ↓D0, ↓D1, ↓D2, ↓D3, ↓D4, ↓D5, ↓D6, ↓D7, ↓D8, ↓D9, U0, U1, U2, U3, U4, U5, U6, U7, U8, U9, U10, ↓reduceIte, Nat.reduceAdd, Nat.reduceMul, Nat.reduceSub, Nat.reduceEqDiff, Nat.reduceBEq, Nat.reduceLeDiff, Nat.reduceLT, Int.reduceAdd, Int.reduceMul, Int.reduceSub, Int.reduceLT, Int.reduceLE, Int.reduceToNat, Int.reduceEq, Int.reduceNe, Int.reduceBEq, Int.reduceBNe, ne_eq, eq_self]
      refine callT_of (m_adon 3 6 rfl rfl (by decide) (by omega) hS) ?_
      rintro v H' ⟨rfl, hS⟩
      simp only [↓D0, ↓D1, ↓D2, ↓D3, ↓D4, ↓D5, ↓D6, ↓D7, ↓D8, ↓D9, U0, U1, U2, U3, U4, U5, U6, U7, U8, U9, U10, ↓reduceIte, Nat.reduceAdd, Nat.reduceMul, Nat.reduceSub, Nat.reduceEqDiff, Nat.reduceBEq, Nat.reduceLeDiff, Nat.reduceLT, Int.reduceAdd, Int.reduceMul, Int.reduceSub, Int.reduceLT, Int.reduceLE, Int.reduceToNat, Int.reduceEq, Int.reduceNe, Int.reduceBEq, Int.reduceBNe, ne_eq, eq_self]
      rw [e]
      exact ⟨a2, cap2, _, hL, hS⟩
  · rw [Ad.s5 hd hn]
    have hln : Ad.ln t.nx = 5 := by rw [hn]; rfl
    skip
    simp only [hk, r1, r2, u_page, hln, Ad.ren, hd, ↓D0, ↓D1, ↓D2, ↓D3, ↓D4, ↓D5, ↓D6, ↓D7, ↓D8, ↓D9, U0, U1, U2, U3, U4, U5, U6, U7, U8, U9, U10, ↓reduceIte, Nat.reduceAdd, Nat.reduceMul, Nat.reduceSub, Nat.reduceEqDiff, Nat.reduceBEq, Nat.reduceLeDiff, Nat.reduceLT, Int.reduceAdd, Int.reduceMul, Int.reduceSub, Int.reduceLT, Int.reduceLE, Int.reduceToNat, Int.reduceEq, Int.reduceNe, Int.reduceBEq, Int.reduceBNe, ne_eq, eq_self]
    refine callT_of (m_store _ _ _ p0 p1 hL hl hS.r3) ?_
    rintro v H' ⟨rfl, a2, cap2, g2, hL, hS⟩
    have hS := hS.p3
    have hk := hS.look
    have r1 := fun o => rd_of hk o
    simp only [hk, r1, Ad.ren, ↓D0, ↓D1, ↓D2, ↓D3, ↓D4, ↓D5, ↓D6, ↓D7, ↓D8, ↓D9, U0, U1, U2, U3, U4, U5, U6, U7, U8, U9, U10, ↓reduceIte, Nat.reduceAdd, Nat.reduceMul, Nat.reduceSub, Nat.reduceEqDiff, Nat.reduceBEq, Nat.reduceLeDiff, Nat.reduceLT, Int.reduceAdd, Int.reduceMul, Int.reduceSub, Int.reduceLT, Int.reduceLE, Int.reduceToNat, Int.reduceEq, Int.reduceNe, Int.reduceBEq, Int.reduceBNe, ne_eq, eq_self]
    refine callT_of (m_adon 3 6 rfl rfl (by decide) (by omega) hS) ?_
    rintro v H' ⟨rfl, hS⟩
    simp only [↓D0, ↓D1, ↓D2, ↓D3, ↓D4, ↓D5, ↓D6, ↓D7, ↓D8, ↓D9, U0, U1, U2, U3, U4, U5, U6, U7, U8, U9, U10, ↓reduceIte, Nat.reduceAdd, Nat.reduceMul, Nat.reduceSub, Nat.reduceEqDiff, Nat.reduceBEq, Nat.reduceLeDiff, Nat.reduceLT, Int.reduceAdd, Int.reduceMul, Int.reduceSub, Int.reduceLT, Int.reduceLE, Int.reduceToNat, Int.reduceEq, Int.reduceNe, Int.reduceBEq, Int.reduceBNe, ne_eq, eq_self]
    exact ⟨a2, cap2, _, hL, hS⟩
  · rw [Ad.s6 hd hn]
    have hln : Ad.ln t.nx = 6 := by rw [hn]; rfl
    simp only [hk, r1, r2, u_page, hln, Ad.ren, hd, ↓D0, ↓D1, ↓D2, ↓D3, ↓D4, ↓D5, ↓D6, ↓D7, ↓D8, ↓D9, U0, U1, U2, U3, U4, U5, U6, U7, U8, U9, U10, ↓reduceIte, Nat.reduceAdd, Nat.reduceMul, Nat.reduceSub, Nat.reduceEqDiff, Nat.reduceBEq, Nat.reduceLeDiff, Nat.reduceLT, Int.reduceAdd, Int.reduceMul, Int.reduceSub, Int.reduceLT, Int.reduceLE, Int.reduceToNat, Int.reduceEq, Int.reduceNe, Int.reduceBEq, Int.reduceBNe, ne_eq, eq_self]
    refine draw_intro [(k, Ad.ren t, [])] (by simp only [hk, Ad.ren, ↓D0, ↓D1, ↓D2, ↓D3, ↓D4, ↓D5, ↓D6, ↓D7, ↓D8, ↓D9, U0, U1, U2, U3, U4, U5, U6, U7, U8, U9, U10, ↓reduceIte, Nat.reduceAdd, Nat.reduceMul, Nat.reduceSub, Nat.reduceEqDiff, Nat.reduceBEq, Nat.reduceLeDiff, Nat.reduceLT, Int.reduceAdd, Int.reduceMul, Int.reduceSub, Int.reduceLT, Int.reduceLE, Int.reduceToNat, Int.reduceEq, Int.reduceNe, Int.reduceBEq, Int.reduceBNe, ne_eq, eq_self]) ?_
    simp only [hk, r1, r2, u_page, Ad.ren, ↓D0, ↓D1, ↓D2, ↓D3, ↓D4, ↓D5, ↓D6, ↓D7, ↓D8, ↓D9, U0, U1, U2, U3, U4, U5, U6, U7, U8, U9, U10, ↓reduceIte, Nat.reduceAdd, Nat.reduceMul, Nat.reduceSub, Nat.reduceEqDiff, Nat.reduceBEq, Nat.reduceLeDiff, Nat.reduceLT, Int.reduceAdd, Int.reduceMul, Int.reduceSub, Int.reduceLT, Int.reduceLE, Int.reduceToNat, Int.reduceEq, Int.reduceNe, Int.reduceBEq, Int.reduceBNe, ne_eq, eq_self]
    refine callT_of (m_load _ _ p0 p1 hL hl hS.r3) ?_
    rintro v H' ⟨rfl, a2, cap2, g2, hL, hS⟩
    have hS := hS.p3
    have hk := hS.look
    have r1 := fun o => rd_of hk o
    by_cases ho : t.own t.at' (w.get t.pat) = true
    · have hh : w.get t.pat = held t.d := (own_iff hm (by omega) (by omega)).1 ho
      have gx : (w.get (page t.s.p t.s.c t.s.m t.at') == held t.d) = true := beq_iff_eq.2 hh
      have e : t.pages (w.get t.pat) = { t with nx := 7, i := 0, di := 0 } := by unfold Ad.pages; rw [if_pos ho]
      simp only [hk, r1, u_held, gx, Ad.ren, Ev.upd_upd, ↓D0, ↓D1, ↓D2, ↓D3, ↓D4, ↓D5, ↓D6, ↓D7, ↓D8, ↓D9, U0, U1, U2, U3, U4, U5, U6, U7, U8, U9, U10, ↓reduceIte, Nat.reduceAdd, Nat.reduceMul, Nat.reduceSub, Nat.reduceEqDiff, Nat.reduceBEq, Nat.reduceLeDiff, Nat.reduceLT, Int.reduceAdd, Int.reduceMul, Int.reduceSub, Int.reduceLT, Int.reduceLE, Int.reduceToNat, Int.reduceEq, Int.reduceNe, Int.reduceBEq, Int.reduceBNe, ne_eq, eq_self]
      rw [e]
      have := hS.set (.cells (Ad.ren { t with nx := 7, i := 0, di := 0 }) 101 (0, 0))
      unfold Ad.ren at this
      skip
      exact ⟨a2, cap2, _, hL, this⟩
    · have hh : ¬ w.get t.pat = held t.d := fun h => ho ((own_iff hm (by omega) (by omega)).2 h)
      have gx : (w.get (page t.s.p t.s.c t.s.m t.at') == held t.d) = false := beq_eq_false_iff_ne.2 hh
      have e : t.pages (w.get t.pat) = t.turn 6 9 := by unfold Ad.pages; rw [if_neg ho]
      simp only [hk, r1, u_held, gx, Ad.ren, Ev.upd_upd, ↓D0, ↓D1, ↓D2, ↓D3, ↓D4, ↓D5, ↓D6, ↓D7, ↓D8, ↓D9, U0, U1, U2, U3, U4, U5, U6, U7, U8, U9, U10, ↓reduceIte, Nat.reduceAdd, Nat.reduceMul, Nat.reduceSub, Nat.reduceEqDiff, Nat.reduceBEq, Nat.reduceLeDiff, Nat.reduceLT, Int.reduceAdd, Int.reduceMul, Int.reduceSub, Int.reduceLT, Int.reduceLE, Int.reduceToNat, Int.reduceEq, Int.reduceNe, Int.reduceBEq, Int.reduceBNe, ne_eq, eq_self]
      refine callT_of (m_adon 6 9 rfl rfl (by decide) (by omega) hS) ?_
      rintro v H' ⟨rfl, hS⟩
      simp only [↓D0, ↓D1, ↓D2, ↓D3, ↓D4, ↓D5, ↓D6, ↓D7, ↓D8, ↓D9, U0, U1, U2, U3, U4, U5, U6, U7, U8, U9, U10, ↓reduceIte, Nat.reduceAdd, Nat.reduceMul, Nat.reduceSub, Nat.reduceEqDiff, Nat.reduceBEq, Nat.reduceLeDiff, Nat.reduceLT, Int.reduceAdd, Int.reduceMul, Int.reduceSub, Int.reduceLT, Int.reduceLE, Int.reduceToNat, Int.reduceEq, Int.reduceNe, Int.reduceBEq, Int.reduceBNe, ne_eq, eq_self]
      rw [e]
      exact ⟨a2, cap2, _, hL, hS⟩
  · rw [Ad.s7 hd hn]
    have hln : Ad.ln t.nx = 7 := by rw [hn]; rfl
    obtain ⟨h16, hdi⟩ := ar.2.2.2.2.2.2.2.2.2.2.2.2.1 hn
    obtain ⟨z0, z1⟩ := slot_in (i := t.at') (j := t.i) hw hm (by omega) (by omega) (by omega) (by omega)
    have gd : decide (t.di < 16) = true := decide_eq_true (by omega)
    have w1 : w64 (t.i + 1) = t.i + 1 := w64_eq (by omega) (by omega)
    simp only [hk, r1, r2, u_page, hln, gd, Ad.ren, hd, ↓D0, ↓D1, ↓D2, ↓D3, ↓D4, ↓D5, ↓D6, ↓D7, ↓D8, ↓D9, U0, U1, U2, U3, U4, U5, U6, U7, U8, U9, U10, ↓reduceIte, Nat.reduceAdd, Nat.reduceMul, Nat.reduceSub, Nat.reduceEqDiff, Nat.reduceBEq, Nat.reduceLeDiff, Nat.reduceLT, Int.reduceAdd, Int.reduceMul, Int.reduceSub, Int.reduceLT, Int.reduceLE, Int.reduceToNat, Int.reduceEq, Int.reduceNe, Int.reduceBEq, Int.reduceBNe, ne_eq, eq_self]
    refine draw_intro [(k, Ad.ren t, [])] (by simp only [hk, Ad.ren, ↓D0, ↓D1, ↓D2, ↓D3, ↓D4, ↓D5, ↓D6, ↓D7, ↓D8, ↓D9, U0, U1, U2, U3, U4, U5, U6, U7, U8, U9, U10, ↓reduceIte, Nat.reduceAdd, Nat.reduceMul, Nat.reduceSub, Nat.reduceEqDiff, Nat.reduceBEq, Nat.reduceLeDiff, Nat.reduceLT, Int.reduceAdd, Int.reduceMul, Int.reduceSub, Int.reduceLT, Int.reduceLE, Int.reduceToNat, Int.reduceEq, Int.reduceNe, Int.reduceBEq, Int.reduceBNe, ne_eq, eq_self]) ?_
    simp only [hk, r1, r2, u_slot, hdi, Ad.ren, ↓D0, ↓D1, ↓D2, ↓D3, ↓D4, ↓D5, ↓D6, ↓D7, ↓D8, ↓D9, U0, U1, U2, U3, U4, U5, U6, U7, U8, U9, U10, ↓reduceIte, Nat.reduceAdd, Nat.reduceMul, Nat.reduceSub, Nat.reduceEqDiff, Nat.reduceBEq, Nat.reduceLeDiff, Nat.reduceLT, Int.reduceAdd, Int.reduceMul, Int.reduceSub, Int.reduceLT, Int.reduceLE, Int.reduceToNat, Int.reduceEq, Int.reduceNe, Int.reduceBEq, Int.reduceBNe, ne_eq, eq_self]
    refine callT_of (m_store _ _ _ z0 z1 hL hl hS.r3) ?_
    rintro v H' ⟨rfl, a2, cap2, g2, hL, hS⟩
    have hS := hS.p3
    have hk := hS.look
    have r1 := fun o => rd_of hk o
    simp only [hk, r1, wrap_w64, w1, hdi, Ad.ren, Ev.upd_upd, ↓D0, ↓D1, ↓D2, ↓D3, ↓D4, ↓D5, ↓D6, ↓D7, ↓D8, ↓D9, U0, U1, U2, U3, U4, U5, U6, U7, U8, U9, U10, ↓reduceIte, Nat.reduceAdd, Nat.reduceMul, Nat.reduceSub, Nat.reduceEqDiff, Nat.reduceBEq, Nat.reduceLeDiff, Nat.reduceLT, Int.reduceAdd, Int.reduceMul, Int.reduceSub, Int.reduceLT, Int.reduceLE, Int.reduceToNat, Int.reduceEq, Int.reduceNe, Int.reduceBEq, Int.reduceBNe, ne_eq, eq_self]
    have hc : Ad.ren t.clear = #[.int .i64 t.s.p, .int .i64 t.s.c, .int .i64 t.s.m, .int .i64 t.c, .int .i64 t.d, .int .i64 t.err, .bool t.dn, .int .i64 (Ad.ln t.nx), .int .u64 t.was, .int .i64 t.at', .int .i64 (t.i + 1), .int .i64 t.qK, .int .i64 t.qA, .int .i64 t.qB] := by
      unfold Ad.ren Ad.clear
      simp only [hdi, hln]
      by_cases h16 : t.i + 1 = 16
      · simp only [h16, if_true]; rfl
      · simp only [h16, if_false]; rfl
    have := hS.set (.cells (Ad.ren t.clear) 101 (0, 0))
    have e3 : raB k t.clear = sg k (.cells (Ad.ren t.clear) 101 (0, 0)) := rfl
    rw [e3]
    rw [hc] at this ⊢
    exact ⟨a2, cap2, _, hL, this⟩
  · rw [Ad.s8 hd hn]
    have hln : Ad.ln t.nx = 7 := by rw [hn]; rfl
    obtain ⟨h16, d16⟩ := ar.2.2.2.2.2.2.2.2.2.2.2.2.2.1 hn
    have gd : decide (t.di < 16) = false := decide_eq_false (by omega)
    simp only [hk, r1, r2, u_page, hln, gd, Ad.ren, hd, ↓D0, ↓D1, ↓D2, ↓D3, ↓D4, ↓D5, ↓D6, ↓D7, ↓D8, ↓D9, U0, U1, U2, U3, U4, U5, U6, U7, U8, U9, U10, ↓reduceIte, Nat.reduceAdd, Nat.reduceMul, Nat.reduceSub, Nat.reduceEqDiff, Nat.reduceBEq, Nat.reduceLeDiff, Nat.reduceLT, Int.reduceAdd, Int.reduceMul, Int.reduceSub, Int.reduceLT, Int.reduceLE, Int.reduceToNat, Int.reduceEq, Int.reduceNe, Int.reduceBEq, Int.reduceBNe, ne_eq, eq_self]
    refine callT_of (m_store _ _ _ p0 p1 hL hl hS.r3) ?_
    rintro v H' ⟨rfl, a2, cap2, g2, hL, hS⟩
    have hS := hS.p3
    have hk := hS.look
    have r1 := fun o => rd_of hk o
    simp only [hk, r1, Ad.ren, ↓D0, ↓D1, ↓D2, ↓D3, ↓D4, ↓D5, ↓D6, ↓D7, ↓D8, ↓D9, U0, U1, U2, U3, U4, U5, U6, U7, U8, U9, U10, ↓reduceIte, Nat.reduceAdd, Nat.reduceMul, Nat.reduceSub, Nat.reduceEqDiff, Nat.reduceBEq, Nat.reduceLeDiff, Nat.reduceLT, Int.reduceAdd, Int.reduceMul, Int.reduceSub, Int.reduceLT, Int.reduceLE, Int.reduceToNat, Int.reduceEq, Int.reduceNe, Int.reduceBEq, Int.reduceBNe, ne_eq, eq_self]
    refine callT_of (m_adon 6 9 rfl rfl (by decide) (by omega) hS) ?_
    rintro v H' ⟨rfl, hS⟩
    simp only [↓D0, ↓D1, ↓D2, ↓D3, ↓D4, ↓D5, ↓D6, ↓D7, ↓D8, ↓D9, U0, U1, U2, U3, U4, U5, U6, U7, U8, U9, U10, ↓reduceIte, Nat.reduceAdd, Nat.reduceMul, Nat.reduceSub, Nat.reduceEqDiff, Nat.reduceBEq, Nat.reduceLeDiff, Nat.reduceLT, Int.reduceAdd, Int.reduceMul, Int.reduceSub, Int.reduceLT, Int.reduceLE, Int.reduceToNat, Int.reduceEq, Int.reduceNe, Int.reduceBEq, Int.reduceBNe, ne_eq, eq_self]
    exact ⟨a2, cap2, _, hL, hS⟩
  · rw [Ad.s9 hd hn]
    have hln : Ad.ln t.nx = 8 := by rw [hn]; rfl
    obtain ⟨hi, hdi⟩ := ar.2.2.2.2.2.2.2.2.2.2.2.2.2.2.1 hn
    obtain ⟨z0, z1⟩ := mag_in (i := t.d) (j := t.i) hw hm (by omega) (by omega) (by omega) (by omega)
    have w1 : w64 (t.i + 1) = t.i + 1 := w64_eq (by omega) (by omega)
    simp only [hk, r1, r2, u_page, hln, Ad.ren, hd, ↓D0, ↓D1, ↓D2, ↓D3, ↓D4, ↓D5, ↓D6, ↓D7, ↓D8, ↓D9, U0, U1, U2, U3, U4, U5, U6, U7, U8, U9, U10, ↓reduceIte, Nat.reduceAdd, Nat.reduceMul, Nat.reduceSub, Nat.reduceEqDiff, Nat.reduceBEq, Nat.reduceLeDiff, Nat.reduceLT, Int.reduceAdd, Int.reduceMul, Int.reduceSub, Int.reduceLT, Int.reduceLE, Int.reduceToNat, Int.reduceEq, Int.reduceNe, Int.reduceBEq, Int.reduceBNe, ne_eq, eq_self]
    refine draw_intro [(k, Ad.ren t, [])] (by simp only [hk, Ad.ren, ↓D0, ↓D1, ↓D2, ↓D3, ↓D4, ↓D5, ↓D6, ↓D7, ↓D8, ↓D9, U0, U1, U2, U3, U4, U5, U6, U7, U8, U9, U10, ↓reduceIte, Nat.reduceAdd, Nat.reduceMul, Nat.reduceSub, Nat.reduceEqDiff, Nat.reduceBEq, Nat.reduceLeDiff, Nat.reduceLT, Int.reduceAdd, Int.reduceMul, Int.reduceSub, Int.reduceLT, Int.reduceLE, Int.reduceToNat, Int.reduceEq, Int.reduceNe, Int.reduceBEq, Int.reduceBNe, ne_eq, eq_self]) ?_
    simp only [hk, r1, r2, u_mag, hdi, Ad.ren, ↓D0, ↓D1, ↓D2, ↓D3, ↓D4, ↓D5, ↓D6, ↓D7, ↓D8, ↓D9, U0, U1, U2, U3, U4, U5, U6, U7, U8, U9, U10, ↓reduceIte, Nat.reduceAdd, Nat.reduceMul, Nat.reduceSub, Nat.reduceEqDiff, Nat.reduceBEq, Nat.reduceLeDiff, Nat.reduceLT, Int.reduceAdd, Int.reduceMul, Int.reduceSub, Int.reduceLT, Int.reduceLE, Int.reduceToNat, Int.reduceEq, Int.reduceNe, Int.reduceBEq, Int.reduceBNe, ne_eq, eq_self]
    refine callT_of (m_store _ _ _ z0 z1 hL hl hS.r3) ?_
    rintro v H' ⟨rfl, a2, cap2, g2, hL, hS⟩
    have hS := hS.p3
    have hk := hS.look
    have r1 := fun o => rd_of hk o
    by_cases hi : t.i + 1 = t.s.m
    · have gi : (t.i + 1 == t.s.m) = true := beq_iff_eq.2 hi
      have e : t.entry = { t with i := 0, di := 0, nx := 10 } := by unfold Ad.entry; rw [if_pos hi]
      simp only [hk, r1, wrap_w64, w1, gi, hdi, Ad.ren, Ev.upd_upd, ↓D0, ↓D1, ↓D2, ↓D3, ↓D4, ↓D5, ↓D6, ↓D7, ↓D8, ↓D9, U0, U1, U2, U3, U4, U5, U6, U7, U8, U9, U10, ↓reduceIte, Nat.reduceAdd, Nat.reduceMul, Nat.reduceSub, Nat.reduceEqDiff, Nat.reduceBEq, Nat.reduceLeDiff, Nat.reduceLT, Int.reduceAdd, Int.reduceMul, Int.reduceSub, Int.reduceLT, Int.reduceLE, Int.reduceToNat, Int.reduceEq, Int.reduceNe, Int.reduceBEq, Int.reduceBNe, ne_eq, eq_self]
      rw [e]
      exact ⟨a2, cap2, _, hL, hS.set (.cells (Ad.ren { t with i := 0, di := 0, nx := 10 }) 101 (0, 0))⟩
    · have gi : (t.i + 1 == t.s.m) = false := beq_eq_false_iff_ne.2 hi
      have e : t.entry = { t with i := t.i + 1, di := t.di + 1 } := by unfold Ad.entry; rw [if_neg hi]
      simp only [hk, r1, wrap_w64, w1, gi, hdi, Ad.ren, Ev.upd_upd, ↓D0, ↓D1, ↓D2, ↓D3, ↓D4, ↓D5, ↓D6, ↓D7, ↓D8, ↓D9, U0, U1, U2, U3, U4, U5, U6, U7, U8, U9, U10, ↓reduceIte, Nat.reduceAdd, Nat.reduceMul, Nat.reduceSub, Nat.reduceEqDiff, Nat.reduceBEq, Nat.reduceLeDiff, Nat.reduceLT, Int.reduceAdd, Int.reduceMul, Int.reduceSub, Int.reduceLT, Int.reduceLE, Int.reduceToNat, Int.reduceEq, Int.reduceNe, Int.reduceBEq, Int.reduceBNe, ne_eq, eq_self]
      rw [e]
      have := hS.set (.cells (Ad.ren { t with i := t.i + 1, di := t.di + 1 }) 101 (0, 0))
      unfold Ad.ren at this
      simp only [hdi] at this
      unfold raB Ad.ren
      simp only [hdi]
      exact ⟨a2, cap2, _, hL, this⟩
  · rw [Ad.s10 hd hn]
    have hln : Ad.ln t.nx = 9 := by rw [hn]; rfl
    have hu : U (w.get (page t.s.p t.s.c t.s.m t.at')) := hw.u _
    simp only [hk, r1, r2, u_page, hln, Ad.ren, hd, ↓D0, ↓D1, ↓D2, ↓D3, ↓D4, ↓D5, ↓D6, ↓D7, ↓D8, ↓D9, U0, U1, U2, U3, U4, U5, U6, U7, U8, U9, U10, ↓reduceIte, Nat.reduceAdd, Nat.reduceMul, Nat.reduceSub, Nat.reduceEqDiff, Nat.reduceBEq, Nat.reduceLeDiff, Nat.reduceLT, Int.reduceAdd, Int.reduceMul, Int.reduceSub, Int.reduceLT, Int.reduceLE, Int.reduceToNat, Int.reduceEq, Int.reduceNe, Int.reduceBEq, Int.reduceBNe, ne_eq, eq_self]
    have hkr : H k = some (.cells #[.int .i64 t.s.p, .int .i64 t.s.c, .int .i64 t.s.m, .int .i64 t.c, .int .i64 t.d, .int .i64 t.err, .bool t.dn, .int .i64 (Ad.ln t.nx), .int .u64 t.was, .int .i64 t.at', .int .i64 t.di, .int .i64 t.qK, .int .i64 t.qA, .int .i64 t.qB] 101 (0, 0)) := hk
    refine draw_cut [(k, Ad.ren t, [])] (adC7 k b s t w l) (by simp only [hk, Ad.ren, ↓D0, ↓D1, ↓D2, ↓D3, ↓D4, ↓D5, ↓D6, ↓D7, ↓D8, ↓D9, U0, U1, U2, U3, U4, U5, U6, U7, U8, U9, U10, ↓reduceIte, Nat.reduceAdd, Nat.reduceMul, Nat.reduceSub, Nat.reduceEqDiff, Nat.reduceBEq, Nat.reduceLeDiff, Nat.reduceLT, Int.reduceAdd, Int.reduceMul, Int.reduceSub, Int.reduceLT, Int.reduceLE, Int.reduceToNat, Int.reduceEq, Int.reduceNe, Int.reduceBEq, Int.reduceBNe, ne_eq, eq_self]) ?_ ?_
    · simp only [hk, r1, r2, u_page, Ad.ren, ↓e_dalt2, ↓D0, ↓D1, ↓D2, ↓D3, ↓D4, ↓D5, ↓D6, ↓D7, ↓D8, ↓D9, U0, U1, U2, U3, U4, U5, U6, U7, U8, U9, U10, ↓reduceIte, Nat.reduceAdd, Nat.reduceMul, Nat.reduceSub, Nat.reduceEqDiff, Nat.reduceBEq, Nat.reduceLeDiff, Nat.reduceLT, Int.reduceAdd, Int.reduceMul, Int.reduceSub, Int.reduceLT, Int.reduceLE, Int.reduceToNat, Int.reduceEq, Int.reduceNe, Int.reduceBEq, Int.reduceBNe, ne_eq, eq_self]
      refine ⟨?_, ?_⟩
      · refine callT_of (m_load _ _ p0 p1 hL hl hS.r3) ?_
        rintro v H' ⟨rfl, a2, cap2, g2, hL, hS⟩
        have hS := hS.p3
        have hk := hS.look
        have r1 := fun o => rd_of hk o
        have r2 := fun o n => rdn_of hk o n
        simp only [hk, r1, r2, u_readpg t.s _ hu, Ad.ren, ↓e_dalt2, ↓D0, ↓D1, ↓D2, ↓D3, ↓D4, ↓D5, ↓D6, ↓D7, ↓D8, ↓D9, U0, U1, U2, U3, U4, U5, U6, U7, U8, U9, U10, ↓reduceIte, Nat.reduceAdd, Nat.reduceMul, Nat.reduceSub, Nat.reduceEqDiff, Nat.reduceBEq, Nat.reduceLeDiff, Nat.reduceLT, Int.reduceAdd, Int.reduceMul, Int.reduceSub, Int.reduceLT, Int.reduceLE, Int.reduceToNat, Int.reduceEq, Int.reduceNe, Int.reduceBEq, Int.reduceBNe, ne_eq, eq_self]
        refine ⟨?_, ?_⟩
        all_goals
          refine newB_intro fun y hy f3 f4 => ?_
          have nky : (k = y) = False := f3 k (by rw [hk]; rfl)
          have nyk : (y = k) = False := f4 k (by rw [hk]; rfl)
          have hS := (hS.new f3 (.cells #[.int .i64 (pgK t.s t.at' (w.get t.pat)), .int .i64 (pgA t.s t.at' (w.get t.pat)), .int .i64 (pgB t.s t.at' (w.get t.pat))] 32 (0, 0))).r4
          simp only [hk, r1, r2, nky, nyk, u_readpg t.s _ hu, Ev.upd_upd, Ad.ren, ↓D0, ↓D1, ↓D2, ↓D3, ↓D4, ↓D5, ↓D6, ↓D7, ↓D8, ↓D9, U0, U1, U2, U3, U4, U5, U6, U7, U8, U9, U10, ↓reduceIte, Nat.reduceAdd, Nat.reduceMul, Nat.reduceSub, Nat.reduceEqDiff, Nat.reduceBEq, Nat.reduceLeDiff, Nat.reduceLT, Int.reduceAdd, Int.reduceMul, Int.reduceSub, Int.reduceLT, Int.reduceLE, Int.reduceToNat, Int.reduceEq, Int.reduceNe, Int.reduceBEq, Int.reduceBNe, ne_eq, eq_self]
          exact ⟨rfl, rfl, y, a2, cap2, _, rfl, hL, hS⟩
      · refine newB_intro fun y hy f3 f4 => ?_
        have nky : (k = y) = False := f3 k (by rw [hk]; rfl)
        have nyk : (y = k) = False := f4 k (by rw [hk]; rfl)
        have hS := (hS.new f3 (.cells #[.int .i64 0, .int .i64 0, .int .i64 0] 32 (0, 0))).r4
        simp only [hk, r1, r2, nky, nyk, Ad.ren, ↓D0, ↓D1, ↓D2, ↓D3, ↓D4, ↓D5, ↓D6, ↓D7, ↓D8, ↓D9, U0, U1, U2, U3, U4, U5, U6, U7, U8, U9, U10, ↓reduceIte, Nat.reduceAdd, Nat.reduceMul, Nat.reduceSub, Nat.reduceEqDiff, Nat.reduceBEq, Nat.reduceLeDiff, Nat.reduceLT, Int.reduceAdd, Int.reduceMul, Int.reduceSub, Int.reduceLT, Int.reduceLE, Int.reduceToNat, Int.reduceEq, Int.reduceNe, Int.reduceBEq, Int.reduceBNe, ne_eq, eq_self]
        refine callT_of (m_load _ _ p0 p1 hL hl hS.r3) ?_
        rintro v H' ⟨rfl, a2, cap2, g2, hL, hS⟩
        have hS := hS.p3
        have hk := hS.look
        have hy1 := hS.lk 4 rfl
        have r1 := fun o => rd_of hk o
        have r2 := fun o n => rdn_of hk o n
        simp only [hk, hy1, r1, r2, nky, nyk, u_readpg t.s _ hu, Ev.upd_upd, Ad.ren, ↓D0, ↓D1, ↓D2, ↓D3, ↓D4, ↓D5, ↓D6, ↓D7, ↓D8, ↓D9, U0, U1, U2, U3, U4, U5, U6, U7, U8, U9, U10, ↓reduceIte, Nat.reduceAdd, Nat.reduceMul, Nat.reduceSub, Nat.reduceEqDiff, Nat.reduceBEq, Nat.reduceLeDiff, Nat.reduceLT, Int.reduceAdd, Int.reduceMul, Int.reduceSub, Int.reduceLT, Int.reduceLE, Int.reduceToNat, Int.reduceEq, Int.reduceNe, Int.reduceBEq, Int.reduceBNe, ne_eq, eq_self]
        exact ⟨rfl, rfl, y, a2, cap2, _, rfl, hL, (hS.p4.set (.cells #[.int .i64 (pgK t.s t.at' (w.get t.pat)), .int .i64 (pgA t.s t.at' (w.get t.pat)), .int .i64 (pgB t.s t.at' (w.get t.pat))] 32 (0, 0))).r4⟩
    · rintro F' H' ⟨e0, e6, y, a2, cap2, g2, e5, hL, hS⟩
      have hk := hS.look
      have r1 := fun o => rd_of hk o
      have hy1 := hS.lk 4 rfl
      have ry := fun o => rd_of hy1 o
      have ryn := fun o n => rdn_of hy1 o n
      have nky := hS.neq 0 4 (by decide) rfl rfl
      have nyk := hS.qen 0 4 (by decide) rfl rfl
      cases ho : okPg t.s t.at' (w.get t.pat)
      · have e : t.supers (w.get t.pat) = (t.read (w.get t.pat)).turn 10 13 := by unfold Ad.supers; rw [if_neg (by unfold Ad.isS; rw [ho]; simp)]
        have e2 : raB k ((t.read (w.get t.pat)).turn 10 13) = raB k (t.turn 10 13) := ra_turn ..
        rw [ho] at e6
        simp only [hk, r1, hy1, ry, ryn, e0, e5, e6, nky, nyk, Ad.ren, Ev.upd_upd, ↓D0, ↓D1, ↓D2, ↓D3, ↓D4, ↓D5, ↓D6, ↓D7, ↓D8, ↓D9, U0, U1, U2, U3, U4, U5, U6, U7, U8, U9, U10, ↓reduceIte, Nat.reduceAdd, Nat.reduceMul, Nat.reduceSub, Nat.reduceEqDiff, Nat.reduceBEq, Nat.reduceLeDiff, Nat.reduceLT, Int.reduceAdd, Int.reduceMul, Int.reduceSub, Int.reduceLT, Int.reduceLE, Int.reduceToNat, Int.reduceEq, Int.reduceNe, Int.reduceBEq, Int.reduceBNe, ne_eq, eq_self]
        refine callT_of (m_adon 10 13 rfl rfl (by decide) (by omega) hS) ?_
        rintro v H' ⟨rfl, hS⟩
        simp only [↓D0, ↓D1, ↓D2, ↓D3, ↓D4, ↓D5, ↓D6, ↓D7, ↓D8, ↓D9, U0, U1, U2, U3, U4, U5, U6, U7, U8, U9, U10, ↓reduceIte, Nat.reduceAdd, Nat.reduceMul, Nat.reduceSub, Nat.reduceEqDiff, Nat.reduceBEq, Nat.reduceLeDiff, Nat.reduceLT, Int.reduceAdd, Int.reduceMul, Int.reduceSub, Int.reduceLT, Int.reduceLE, Int.reduceToNat, Int.reduceEq, Int.reduceNe, Int.reduceBEq, Int.reduceBNe, ne_eq, eq_self]
        rw [e, e2]
        exact ⟨a2, cap2, g2, hL, hS.p4.tail⟩
      · rw [ho] at e6
        by_cases hK : pgK t.s t.at' (w.get t.pat) = 2
        · have gK : (pgK t.s t.at' (w.get t.pat) == 2) = true := beq_iff_eq.2 hK
          have e : t.supers (w.get t.pat) = { t.readQ (w.get t.pat) with nx := 11, i := 0, di := 0 } := by unfold Ad.supers; rw [if_pos (by unfold Ad.isS; rw [ho, decide_eq_true hK]; rfl)]
          simp only [hk, r1, hy1, ry, ryn, e0, e5, e6, nky, nyk, gK, Ad.ren, Ev.upd_upd, ↓D0, ↓D1, ↓D2, ↓D3, ↓D4, ↓D5, ↓D6, ↓D7, ↓D8, ↓D9, U0, U1, U2, U3, U4, U5, U6, U7, U8, U9, U10, ↓reduceIte, Nat.reduceAdd, Nat.reduceMul, Nat.reduceSub, Nat.reduceEqDiff, Nat.reduceBEq, Nat.reduceLeDiff, Nat.reduceLT, Int.reduceAdd, Int.reduceMul, Int.reduceSub, Int.reduceLT, Int.reduceLE, Int.reduceToNat, Int.reduceEq, Int.reduceNe, Int.reduceBEq, Int.reduceBNe, ne_eq, eq_self]
          rw [e]
          exact ⟨a2, cap2, g2, hL, (hS.set (.cells (Ad.ren { t.readQ (w.get t.pat) with nx := 11, i := 0, di := 0 }) 101 (0, 0))).p4.tail⟩
        · have gK : (pgK t.s t.at' (w.get t.pat) == 2) = false := beq_eq_false_iff_ne.2 hK
          have e : t.supers (w.get t.pat) = (t.read (w.get t.pat)).turn 10 13 := by unfold Ad.supers; rw [if_neg (by unfold Ad.isS; rw [decide_eq_false hK]; simp)]
          have e2 : raB k ((t.read (w.get t.pat)).turn 10 13) = raB k (t.turn 10 13) := ra_turn ..
          simp only [hk, r1, hy1, ry, ryn, e0, e5, e6, nky, nyk, gK, Ad.ren, Ev.upd_upd, ↓D0, ↓D1, ↓D2, ↓D3, ↓D4, ↓D5, ↓D6, ↓D7, ↓D8, ↓D9, U0, U1, U2, U3, U4, U5, U6, U7, U8, U9, U10, ↓reduceIte, Nat.reduceAdd, Nat.reduceMul, Nat.reduceSub, Nat.reduceEqDiff, Nat.reduceBEq, Nat.reduceLeDiff, Nat.reduceLT, Int.reduceAdd, Int.reduceMul, Int.reduceSub, Int.reduceLT, Int.reduceLE, Int.reduceToNat, Int.reduceEq, Int.reduceNe, Int.reduceBEq, Int.reduceBNe, ne_eq, eq_self]
          refine callT_of (m_adon 10 13 rfl rfl (by decide) (by omega) hS) ?_
          rintro v H' ⟨rfl, hS⟩
          simp only [↓D0, ↓D1, ↓D2, ↓D3, ↓D4, ↓D5, ↓D6, ↓D7, ↓D8, ↓D9, U0, U1, U2, U3, U4, U5, U6, U7, U8, U9, U10, ↓reduceIte, Nat.reduceAdd, Nat.reduceMul, Nat.reduceSub, Nat.reduceEqDiff, Nat.reduceBEq, Nat.reduceLeDiff, Nat.reduceLT, Int.reduceAdd, Int.reduceMul, Int.reduceSub, Int.reduceLT, Int.reduceLE, Int.reduceToNat, Int.reduceEq, Int.reduceNe, Int.reduceBEq, Int.reduceBNe, ne_eq, eq_self]
          rw [e, e2]
          exact ⟨a2, cap2, g2, hL, hS.p4.tail⟩
  · rw [Ad.s11 hd hn]
    have hln : Ad.ln t.nx = 10 := by rw [hn]; rfl
    obtain ⟨hi, hdi, hpA, hpA3, hqA⟩ := ar.2.2.2.2.2.2.2.2.2.2.2.2.2.2.2.1 (.inl hn)
    obtain ⟨z0, z1⟩ := slot_in (i := t.at') (j := t.i) hw hm (by omega) (by omega) (by omega) (by omega)
    simp only [hk, r1, r2, u_page, hln, Ad.ren, hd, ↓D0, ↓D1, ↓D2, ↓D3, ↓D4, ↓D5, ↓D6, ↓D7, ↓D8, ↓D9, U0, U1, U2, U3, U4, U5, U6, U7, U8, U9, U10, ↓reduceIte, Nat.reduceAdd, Nat.reduceMul, Nat.reduceSub, Nat.reduceEqDiff, Nat.reduceBEq, Nat.reduceLeDiff, Nat.reduceLT, Int.reduceAdd, Int.reduceMul, Int.reduceSub, Int.reduceLT, Int.reduceLE, Int.reduceToNat, Int.reduceEq, Int.reduceNe, Int.reduceBEq, Int.reduceBNe, ne_eq, eq_self]
    refine draw_intro [(k, Ad.ren t, [])] (by simp only [hk, Ad.ren, ↓D0, ↓D1, ↓D2, ↓D3, ↓D4, ↓D5, ↓D6, ↓D7, ↓D8, ↓D9, U0, U1, U2, U3, U4, U5, U6, U7, U8, U9, U10, ↓reduceIte, Nat.reduceAdd, Nat.reduceMul, Nat.reduceSub, Nat.reduceEqDiff, Nat.reduceBEq, Nat.reduceLeDiff, Nat.reduceLT, Int.reduceAdd, Int.reduceMul, Int.reduceSub, Int.reduceLT, Int.reduceLE, Int.reduceToNat, Int.reduceEq, Int.reduceNe, Int.reduceBEq, Int.reduceBNe, ne_eq, eq_self]) ?_
    simp only [hk, r1, r2, u_slot, hdi, Ad.ren, ↓D0, ↓D1, ↓D2, ↓D3, ↓D4, ↓D5, ↓D6, ↓D7, ↓D8, ↓D9, U0, U1, U2, U3, U4, U5, U6, U7, U8, U9, U10, ↓reduceIte, Nat.reduceAdd, Nat.reduceMul, Nat.reduceSub, Nat.reduceEqDiff, Nat.reduceBEq, Nat.reduceLeDiff, Nat.reduceLT, Int.reduceAdd, Int.reduceMul, Int.reduceSub, Int.reduceLT, Int.reduceLE, Int.reduceToNat, Int.reduceEq, Int.reduceNe, Int.reduceBEq, Int.reduceBNe, ne_eq, eq_self]
    refine callT_of (m_load _ _ z0 z1 hL hl hS.r3) ?_
    rintro v H' ⟨rfl, a2, cap2, g2, hL, hS⟩
    have hS := hS.p3
    have hk := hS.look
    have r1 := fun o => rd_of hk o
    by_cases hx : w.get t.sat = way t.d
    · have gx : (w.get (slot t.s.p t.s.c t.s.m t.at' t.i) == way t.d) = true := beq_iff_eq.2 hx
      have e : t.slots' (w.get t.sat) = { t with nx := 12 } := by unfold Ad.slots'; rw [if_pos hx]
      simp only [hk, r1, u_way, gx, hdi, Ad.ren, Ev.upd_upd, ↓D0, ↓D1, ↓D2, ↓D3, ↓D4, ↓D5, ↓D6, ↓D7, ↓D8, ↓D9, U0, U1, U2, U3, U4, U5, U6, U7, U8, U9, U10, ↓reduceIte, Nat.reduceAdd, Nat.reduceMul, Nat.reduceSub, Nat.reduceEqDiff, Nat.reduceBEq, Nat.reduceLeDiff, Nat.reduceLT, Int.reduceAdd, Int.reduceMul, Int.reduceSub, Int.reduceLT, Int.reduceLE, Int.reduceToNat, Int.reduceEq, Int.reduceNe, Int.reduceBEq, Int.reduceBNe, ne_eq, eq_self]
      rw [e]
      have := hS.set (.cells (Ad.ren { t with nx := 12 }) 101 (0, 0))
      unfold Ad.ren at this
      simp only [hdi] at this
      unfold raB Ad.ren
      simp only [hdi]
      exact ⟨a2, cap2, _, hL, this⟩
    · have gx : (w.get (slot t.s.p t.s.c t.s.m t.at' t.i) == way t.d) = false := beq_eq_false_iff_ne.2 hx
      have e : t.slots' (w.get t.sat) = t.slot := by unfold Ad.slots'; rw [if_neg hx]
      simp only [hk, r1, u_way, gx, hdi, Ad.ren, Ev.upd_upd, ↓D0, ↓D1, ↓D2, ↓D3, ↓D4, ↓D5, ↓D6, ↓D7, ↓D8, ↓D9, U0, U1, U2, U3, U4, U5, U6, U7, U8, U9, U10, ↓reduceIte, Nat.reduceAdd, Nat.reduceMul, Nat.reduceSub, Nat.reduceEqDiff, Nat.reduceBEq, Nat.reduceLeDiff, Nat.reduceLT, Int.reduceAdd, Int.reduceMul, Int.reduceSub, Int.reduceLT, Int.reduceLE, Int.reduceToNat, Int.reduceEq, Int.reduceNe, Int.reduceBEq, Int.reduceBNe, ne_eq, eq_self]
      refine callT_of (m_adslot (by omega) hdi hqA (by omega) hS) ?_
      rintro v H' ⟨rfl, hS⟩
      simp only [↓D0, ↓D1, ↓D2, ↓D3, ↓D4, ↓D5, ↓D6, ↓D7, ↓D8, ↓D9, U0, U1, U2, U3, U4, U5, U6, U7, U8, U9, U10, ↓reduceIte, Nat.reduceAdd, Nat.reduceMul, Nat.reduceSub, Nat.reduceEqDiff, Nat.reduceBEq, Nat.reduceLeDiff, Nat.reduceLT, Int.reduceAdd, Int.reduceMul, Int.reduceSub, Int.reduceLT, Int.reduceLE, Int.reduceToNat, Int.reduceEq, Int.reduceNe, Int.reduceBEq, Int.reduceBNe, ne_eq, eq_self]
      rw [e]
      exact ⟨a2, cap2, _, hL, hS⟩
  · rw [Ad.s12 hd hn]
    have hln : Ad.ln t.nx = 11 := by rw [hn]; rfl
    obtain ⟨hi, hdi, hpA, hpA3, hqA⟩ := ar.2.2.2.2.2.2.2.2.2.2.2.2.2.2.2.1 (.inr hn)
    obtain ⟨z0, z1⟩ := slot_in (i := t.at') (j := t.i) hw hm (by omega) (by omega) (by omega) (by omega)
    simp only [hk, r1, r2, u_page, hln, Ad.ren, hd, ↓D0, ↓D1, ↓D2, ↓D3, ↓D4, ↓D5, ↓D6, ↓D7, ↓D8, ↓D9, U0, U1, U2, U3, U4, U5, U6, U7, U8, U9, U10, ↓reduceIte, Nat.reduceAdd, Nat.reduceMul, Nat.reduceSub, Nat.reduceEqDiff, Nat.reduceBEq, Nat.reduceLeDiff, Nat.reduceLT, Int.reduceAdd, Int.reduceMul, Int.reduceSub, Int.reduceLT, Int.reduceLE, Int.reduceToNat, Int.reduceEq, Int.reduceNe, Int.reduceBEq, Int.reduceBNe, ne_eq, eq_self]
    refine draw_intro [(k, Ad.ren t, [])] (by simp only [hk, Ad.ren, ↓D0, ↓D1, ↓D2, ↓D3, ↓D4, ↓D5, ↓D6, ↓D7, ↓D8, ↓D9, U0, U1, U2, U3, U4, U5, U6, U7, U8, U9, U10, ↓reduceIte, Nat.reduceAdd, Nat.reduceMul, Nat.reduceSub, Nat.reduceEqDiff, Nat.reduceBEq, Nat.reduceLeDiff, Nat.reduceLT, Int.reduceAdd, Int.reduceMul, Int.reduceSub, Int.reduceLT, Int.reduceLE, Int.reduceToNat, Int.reduceEq, Int.reduceNe, Int.reduceBEq, Int.reduceBNe, ne_eq, eq_self]) ?_
    simp only [hk, r1, r2, u_slot, u_opn, hdi, hqA, Ad.ren, ↓D0, ↓D1, ↓D2, ↓D3, ↓D4, ↓D5, ↓D6, ↓D7, ↓D8, ↓D9, U0, U1, U2, U3, U4, U5, U6, U7, U8, U9, U10, ↓reduceIte, Nat.reduceAdd, Nat.reduceMul, Nat.reduceSub, Nat.reduceEqDiff, Nat.reduceBEq, Nat.reduceLeDiff, Nat.reduceLT, Int.reduceAdd, Int.reduceMul, Int.reduceSub, Int.reduceLT, Int.reduceLE, Int.reduceToNat, Int.reduceEq, Int.reduceNe, Int.reduceBEq, Int.reduceBNe, ne_eq, eq_self]
    refine callT_of (m_store _ _ _ z0 z1 hL hl hS.r3) ?_
    rintro v H' ⟨rfl, a2, cap2, g2, hL, hS⟩
    have hS := hS.p3
    have hk := hS.look
    have r1 := fun o => rd_of hk o
    simp only [hk, r1, Ad.ren, ↓D0, ↓D1, ↓D2, ↓D3, ↓D4, ↓D5, ↓D6, ↓D7, ↓D8, ↓D9, U0, U1, U2, U3, U4, U5, U6, U7, U8, U9, U10, ↓reduceIte, Nat.reduceAdd, Nat.reduceMul, Nat.reduceSub, Nat.reduceEqDiff, Nat.reduceBEq, Nat.reduceLeDiff, Nat.reduceLT, Int.reduceAdd, Int.reduceMul, Int.reduceSub, Int.reduceLT, Int.reduceLE, Int.reduceToNat, Int.reduceEq, Int.reduceNe, Int.reduceBEq, Int.reduceBNe, ne_eq, eq_self]
    refine callT_of (m_adslot (by omega) hdi hqA (by omega) hS) ?_
    rintro v H' ⟨rfl, hS⟩
    simp only [↓D0, ↓D1, ↓D2, ↓D3, ↓D4, ↓D5, ↓D6, ↓D7, ↓D8, ↓D9, U0, U1, U2, U3, U4, U5, U6, U7, U8, U9, U10, ↓reduceIte, Nat.reduceAdd, Nat.reduceMul, Nat.reduceSub, Nat.reduceEqDiff, Nat.reduceBEq, Nat.reduceLeDiff, Nat.reduceLT, Int.reduceAdd, Int.reduceMul, Int.reduceSub, Int.reduceLT, Int.reduceLE, Int.reduceToNat, Int.reduceEq, Int.reduceNe, Int.reduceBEq, Int.reduceBNe, ne_eq, eq_self]
    exact ⟨a2, cap2, _, hL, hS⟩
  · rw [Ad.s13 hd hn]
    have hln : Ad.ln t.nx = 12 := by rw [hn]; rfl
    obtain ⟨z0, z1⟩ := status_in (i := t.d) hw hm (by omega) (by omega)
    simp only [hk, r1, r2, u_page, hln, Ad.ren, hd, ↓D0, ↓D1, ↓D2, ↓D3, ↓D4, ↓D5, ↓D6, ↓D7, ↓D8, ↓D9, U0, U1, U2, U3, U4, U5, U6, U7, U8, U9, U10, ↓reduceIte, Nat.reduceAdd, Nat.reduceMul, Nat.reduceSub, Nat.reduceEqDiff, Nat.reduceBEq, Nat.reduceLeDiff, Nat.reduceLT, Int.reduceAdd, Int.reduceMul, Int.reduceSub, Int.reduceLT, Int.reduceLE, Int.reduceToNat, Int.reduceEq, Int.reduceNe, Int.reduceBEq, Int.reduceBNe, ne_eq, eq_self]
    refine draw_intro [(k, Ad.ren t, [])] (by simp only [hk, Ad.ren, ↓D0, ↓D1, ↓D2, ↓D3, ↓D4, ↓D5, ↓D6, ↓D7, ↓D8, ↓D9, U0, U1, U2, U3, U4, U5, U6, U7, U8, U9, U10, ↓reduceIte, Nat.reduceAdd, Nat.reduceMul, Nat.reduceSub, Nat.reduceEqDiff, Nat.reduceBEq, Nat.reduceLeDiff, Nat.reduceLT, Int.reduceAdd, Int.reduceMul, Int.reduceSub, Int.reduceLT, Int.reduceLE, Int.reduceToNat, Int.reduceEq, Int.reduceNe, Int.reduceBEq, Int.reduceBNe, ne_eq, eq_self]) ?_
    simp only [hk, r1, r2, u_status, u_putst, Ad.ren, ↓D0, ↓D1, ↓D2, ↓D3, ↓D4, ↓D5, ↓D6, ↓D7, ↓D8, ↓D9, U0, U1, U2, U3, U4, U5, U6, U7, U8, U9, U10, ↓reduceIte, Nat.reduceAdd, Nat.reduceMul, Nat.reduceSub, Nat.reduceEqDiff, Nat.reduceBEq, Nat.reduceLeDiff, Nat.reduceLT, Int.reduceAdd, Int.reduceMul, Int.reduceSub, Int.reduceLT, Int.reduceLE, Int.reduceToNat, Int.reduceEq, Int.reduceNe, Int.reduceBEq, Int.reduceBNe, ne_eq, eq_self]
    refine callT_of (m_store _ _ _ z0 z1 hL hl hS.r3) ?_
    rintro v H' ⟨rfl, a2, cap2, g2, hL, hS⟩
    have hS := hS.p3
    have hk := hS.look
    have r1 := fun o => rd_of hk o
    simp only [hk, r1, Ad.ren, ↓D0, ↓D1, ↓D2, ↓D3, ↓D4, ↓D5, ↓D6, ↓D7, ↓D8, ↓D9, U0, U1, U2, U3, U4, U5, U6, U7, U8, U9, U10, ↓reduceIte, Nat.reduceAdd, Nat.reduceMul, Nat.reduceSub, Nat.reduceEqDiff, Nat.reduceBEq, Nat.reduceLeDiff, Nat.reduceLT, Int.reduceAdd, Int.reduceMul, Int.reduceSub, Int.reduceLT, Int.reduceLE, Int.reduceToNat, Int.reduceEq, Int.reduceNe, Int.reduceBEq, Int.reduceBNe, ne_eq, eq_self]
    refine callT_of (m_adend 0 hS) ?_
    rintro v H' ⟨rfl, hS⟩
    simp only [↓D0, ↓D1, ↓D2, ↓D3, ↓D4, ↓D5, ↓D6, ↓D7, ↓D8, ↓D9, U0, U1, U2, U3, U4, U5, U6, U7, U8, U9, U10, ↓reduceIte, Nat.reduceAdd, Nat.reduceMul, Nat.reduceSub, Nat.reduceEqDiff, Nat.reduceBEq, Nat.reduceLeDiff, Nat.reduceLT, Int.reduceAdd, Int.reduceMul, Int.reduceSub, Int.reduceLT, Int.reduceLE, Int.reduceToNat, Int.reduceEq, Int.reduceNe, Int.reduceBEq, Int.reduceBNe, ne_eq, eq_self]
    exact ⟨a2, cap2, _, hL, hS⟩
end
end Go.Proofs.Ytbehnodllajnjaa
