/-
  Who gives a block back: a step of the document's machine. Conditions: none.
-/
import Derived.Test.YtbehnodllajnjaaGiveN
set_option linter.unusedVariables false
set_option linter.unusedSimpArgs false
set_option maxRecDepth 8000
namespace Go.Proofs.Ytbehnodllajnjaa
open Go Go.Ev Go.Pl Go.Ma

section
variable {W : World} {H : Hp} {k b s : Nat} {t : Gv} {w : Wd} {l : List Hp} {a : Option Addr} {cap : Nat} {g X Y : Hp} {c : Array Value}

theorem m_frswapL (hm : may t.s.p t.s.c t.s.m = true) (hc : 0 ≤ t.c ∧ t.c < t.s.c) (hp0 : 0 ≤ t.pg) (hp1 : t.pg < t.s.p) (hA : 1 ≤ t.pA ∧ t.pA ≤ 8) (hpA : t.pg + t.pA ≤ t.s.p) (hw : w.of t.s) (hL : LogOk a cap w g) (hl : w.st + 1 ≤ 1000000000)
    (hS : Sep (frB k (frC t false false 1 true t.pg 0 0 t.pA false t.wd pno pno) :: mB b s a cap w :: wR s w :: g :: l) H) :
    CallP Try.prog W 115 #[.pointer (some ⟨k, 0, none⟩), .pointer (some ⟨b, 0, none⟩)] H fun v H' => v = .tuple #[] ∧
      ∃ ku a2 cap2 g2, LogOk a2 cap2 (w.swap t.c t.pat t.wd (held t.c)) g2 ∧ Sep (frB k (frC t (decide (w.get t.pat = t.wd)) (!decide (w.get t.pat = t.wd)) 2 true t.pg 0 0 t.pA false t.wd (pat' ku) pno) :: unB ku (unL t.s t.c 0 t.pg t.pA false) :: mB b s a2 cap2 (w.swap t.c t.pat t.wd (held t.c)) :: wR s (w.swap t.c t.pat t.wd (held t.c)) :: g2 :: l) H' := by
  refine CallP.of mixed Try.func115 tr115 (by show 2 ≤ _; decide) fun W _ => ?_
  have hk := hS.look
  have r1 := fun o => rd_of hk o
  have r2 := fun o n => rdn_of hk o n
  obtain ⟨q0, q1⟩ := page_in hw hm hp0 hp1
  have he : (w.get (page t.s.p t.s.c t.s.m t.pg) == t.wd) = decide (w.get t.pat = t.wd) := by
    show (w.get t.pat == t.wd) = _
    by_cases h : w.get t.pat = t.wd <;> simp [h]
  simp only [hk, r1, r2, frC, Ev.upd_upd, ↓D0, ↓D1, ↓D2, ↓D3, ↓D4, ↓D5, ↓D6, ↓D7, ↓D8, ↓D9, U0, U1, U2, U3, U4, U5, U6, U7, U8, U9, U10, ↓reduceIte, Nat.reduceAdd, Nat.reduceMul, Nat.reduceSub, Nat.reduceEqDiff, Nat.reduceBEq, Nat.reduceLeDiff, Nat.reduceLT, Int.reduceAdd, Int.reduceMul, Int.reduceSub, Int.reduceLT, Int.reduceLE, Int.reduceToNat, Int.reduceEq, Int.reduceNe, Int.reduceBEq, Int.reduceBNe, ne_eq, eq_self]
  have hS := hS.set (.cells (frC t false false 2 true t.pg 0 0 t.pA false t.wd pno pno) 88 (0, 0))
  have hk := hS.look
  have r1 := fun o => rd_of hk o
  have r2 := fun o n => rdn_of hk o n
  refine draw_intro [(k, frC t false false 2 true t.pg 0 0 t.pA false t.wd pno pno, [])] (by simp only [hk, frC, ↓D0, ↓D1, ↓D2, ↓D3, ↓D4, ↓D5, ↓D6, ↓D7, ↓D8, ↓D9, U0, U1, U2, U3, U4, U5, U6, U7, U8, U9, U10, ↓reduceIte, Nat.reduceAdd, Nat.reduceMul, Nat.reduceSub, Nat.reduceEqDiff, Nat.reduceBEq, Nat.reduceLeDiff, Nat.reduceLT, Int.reduceAdd, Int.reduceMul, Int.reduceSub, Int.reduceLT, Int.reduceLE, Int.reduceToNat, Int.reduceEq, Int.reduceNe, Int.reduceBEq, Int.reduceBNe, ne_eq, eq_self]) ?_
  simp only [hk, r1, r2, u_page, u_held, frC, ↓D0, ↓D1, ↓D2, ↓D3, ↓D4, ↓D5, ↓D6, ↓D7, ↓D8, ↓D9, U0, U1, U2, U3, U4, U5, U6, U7, U8, U9, U10, ↓reduceIte, Nat.reduceAdd, Nat.reduceMul, Nat.reduceSub, Nat.reduceEqDiff, Nat.reduceBEq, Nat.reduceLeDiff, Nat.reduceLT, Int.reduceAdd, Int.reduceMul, Int.reduceSub, Int.reduceLT, Int.reduceLE, Int.reduceToNat, Int.reduceEq, Int.reduceNe, Int.reduceBEq, Int.reduceBNe, ne_eq, eq_self]
  refine callT_of (m_swap _ _ _ _ q0 q1 hL hl hS.r3) ?_
  rintro v H' ⟨rfl, a2, cap2, g2, hL, hS⟩
  have hS := hS.p3
  have hk := hS.look
  simp only [hk, he, frC, Ev.upd_upd, ↓D0, ↓D1, ↓D2, ↓D3, ↓D4, ↓D5, ↓D6, ↓D7, ↓D8, ↓D9, U0, U1, U2, U3, U4, U5, U6, U7, U8, U9, U10, ↓reduceIte, Nat.reduceAdd, Nat.reduceMul, Nat.reduceSub, Nat.reduceEqDiff, Nat.reduceBEq, Nat.reduceLeDiff, Nat.reduceLT, Int.reduceAdd, Int.reduceMul, Int.reduceSub, Int.reduceLT, Int.reduceLE, Int.reduceToNat, Int.reduceEq, Int.reduceNe, Int.reduceBEq, Int.reduceBNe, ne_eq, eq_self]
  have hS := hS.set (.cells (frC t (decide (w.get t.pat = t.wd)) false 2 true t.pg 0 0 t.pA false t.wd pno pno) 88 (0, 0))
  have hk := hS.look
  have r1 := fun o => rd_of hk o
  have r2 := fun o n => rdn_of hk o n
  refine draw_intro [(k, frC t (decide (w.get t.pat = t.wd)) false 2 true t.pg 0 0 t.pA false t.wd pno pno, [])] (by simp only [hk, frC, ↓D0, ↓D1, ↓D2, ↓D3, ↓D4, ↓D5, ↓D6, ↓D7, ↓D8, ↓D9, U0, U1, U2, U3, U4, U5, U6, U7, U8, U9, U10, ↓reduceIte, Nat.reduceAdd, Nat.reduceMul, Nat.reduceSub, Nat.reduceEqDiff, Nat.reduceBEq, Nat.reduceLeDiff, Nat.reduceLT, Int.reduceAdd, Int.reduceMul, Int.reduceSub, Int.reduceLT, Int.reduceLE, Int.reduceToNat, Int.reduceEq, Int.reduceNe, Int.reduceBEq, Int.reduceBNe, ne_eq, eq_self]) ?_
  simp only [hk, r1, r2, frC, Ev.upd_upd, ↓D0, ↓D1, ↓D2, ↓D3, ↓D4, ↓D5, ↓D6, ↓D7, ↓D8, ↓D9, U0, U1, U2, U3, U4, U5, U6, U7, U8, U9, U10, ↓reduceIte, Nat.reduceAdd, Nat.reduceMul, Nat.reduceSub, Nat.reduceEqDiff, Nat.reduceBEq, Nat.reduceLeDiff, Nat.reduceLT, Int.reduceAdd, Int.reduceMul, Int.reduceSub, Int.reduceLT, Int.reduceLE, Int.reduceToNat, Int.reduceEq, Int.reduceNe, Int.reduceBEq, Int.reduceBNe, ne_eq, eq_self]
  refine callT_of (m_unnewL hm hc ⟨hp0, hp1⟩ hA hpA hS) ?_
  rintro v H' ⟨ku, rfl, hS⟩
  have hS := hS.p1
  have hk := hS.look
  have r1 := fun o => rd_of hk o
  have r2 := fun o n => rdn_of hk o n
  simp only [hk, r1, r2, frC, Ev.upd_upd, ↓D0, ↓D1, ↓D2, ↓D3, ↓D4, ↓D5, ↓D6, ↓D7, ↓D8, ↓D9, U0, U1, U2, U3, U4, U5, U6, U7, U8, U9, U10, ↓reduceIte, Nat.reduceAdd, Nat.reduceMul, Nat.reduceSub, Nat.reduceEqDiff, Nat.reduceBEq, Nat.reduceLeDiff, Nat.reduceLT, Int.reduceAdd, Int.reduceMul, Int.reduceSub, Int.reduceLT, Int.reduceLE, Int.reduceToNat, Int.reduceEq, Int.reduceNe, Int.reduceBEq, Int.reduceBNe, ne_eq, eq_self]
  exact ⟨ku, a2, cap2, g2, hL, hS.set (.cells (frC t (decide (w.get t.pat = t.wd)) (!decide (w.get t.pat = t.wd)) 2 true t.pg 0 0 t.pA false t.wd (pat' ku) pno) 88 (0, 0))⟩
theorem m_frswapN (hm : may t.s.p t.s.c t.s.m = true) (hc : 0 ≤ t.c ∧ t.c < t.s.c) (hp0 : 0 ≤ t.pg) (hp1 : t.pg < t.s.p) (hs : 0 ≤ t.sl ∧ t.sl < slots t.pA) (hw : w.of t.s) (hL : LogOk a cap w g) (hl : w.st + 1 ≤ 1000000000)
    (hS : Sep (frB k (frC t false false 1 false t.pg t.sl t.pA 0 false t.wd pno pno) :: mB b s a cap w :: wR s w :: g :: l) H) :
    CallP Try.prog W 115 #[.pointer (some ⟨k, 0, none⟩), .pointer (some ⟨b, 0, none⟩)] H fun v H' => v = .tuple #[] ∧
      ∃ ku a2 cap2 g2, LogOk a2 cap2 (w.swap t.c t.sat (taken t.pA) (way t.c)) g2 ∧ Sep (frB k (frC t (decide (w.get t.sat = taken t.pA)) (!decide (w.get t.sat = taken t.pA)) 2 false t.pg t.sl t.pA 0 false t.wd (pat' ku) pno) :: unB ku (unS t.s t.c t.pg t.sl t.pA false) :: mB b s a2 cap2 (w.swap t.c t.sat (taken t.pA) (way t.c)) :: wR s (w.swap t.c t.sat (taken t.pA) (way t.c)) :: g2 :: l) H' := by
  refine CallP.of mixed Try.func115 tr115 (by show 2 ≤ _; decide) fun W _ => ?_
  have hk := hS.look
  have r1 := fun o => rd_of hk o
  have r2 := fun o n => rdn_of hk o n
  have sb := slots_bd t.pA
  obtain ⟨q0, q1⟩ := slot_in hw hm hp0 hp1 hs.1 (by omega : t.sl < 16)
  have he : (w.get (slot t.s.p t.s.c t.s.m t.pg t.sl) == taken t.pA) = decide (w.get t.sat = taken t.pA) := by
    show (w.get t.sat == taken t.pA) = _
    by_cases h : w.get t.sat = taken t.pA <;> simp [h]
  simp only [hk, r1, r2, frC, Ev.upd_upd, ↓D0, ↓D1, ↓D2, ↓D3, ↓D4, ↓D5, ↓D6, ↓D7, ↓D8, ↓D9, U0, U1, U2, U3, U4, U5, U6, U7, U8, U9, U10, ↓reduceIte, Nat.reduceAdd, Nat.reduceMul, Nat.reduceSub, Nat.reduceEqDiff, Nat.reduceBEq, Nat.reduceLeDiff, Nat.reduceLT, Int.reduceAdd, Int.reduceMul, Int.reduceSub, Int.reduceLT, Int.reduceLE, Int.reduceToNat, Int.reduceEq, Int.reduceNe, Int.reduceBEq, Int.reduceBNe, ne_eq, eq_self]
  have hS := hS.set (.cells (frC t false false 2 false t.pg t.sl t.pA 0 false t.wd pno pno) 88 (0, 0))
  have hk := hS.look
  have r1 := fun o => rd_of hk o
  have r2 := fun o n => rdn_of hk o n
  refine draw_intro [(k, frC t false false 2 false t.pg t.sl t.pA 0 false t.wd pno pno, [])] (by simp only [hk, frC, ↓D0, ↓D1, ↓D2, ↓D3, ↓D4, ↓D5, ↓D6, ↓D7, ↓D8, ↓D9, U0, U1, U2, U3, U4, U5, U6, U7, U8, U9, U10, ↓reduceIte, Nat.reduceAdd, Nat.reduceMul, Nat.reduceSub, Nat.reduceEqDiff, Nat.reduceBEq, Nat.reduceLeDiff, Nat.reduceLT, Int.reduceAdd, Int.reduceMul, Int.reduceSub, Int.reduceLT, Int.reduceLE, Int.reduceToNat, Int.reduceEq, Int.reduceNe, Int.reduceBEq, Int.reduceBNe, ne_eq, eq_self]) ?_
  simp only [hk, r1, r2, u_slot, u_taken, u_way, frC, ↓D0, ↓D1, ↓D2, ↓D3, ↓D4, ↓D5, ↓D6, ↓D7, ↓D8, ↓D9, U0, U1, U2, U3, U4, U5, U6, U7, U8, U9, U10, ↓reduceIte, Nat.reduceAdd, Nat.reduceMul, Nat.reduceSub, Nat.reduceEqDiff, Nat.reduceBEq, Nat.reduceLeDiff, Nat.reduceLT, Int.reduceAdd, Int.reduceMul, Int.reduceSub, Int.reduceLT, Int.reduceLE, Int.reduceToNat, Int.reduceEq, Int.reduceNe, Int.reduceBEq, Int.reduceBNe, ne_eq, eq_self]
  refine callT_of (m_swap _ _ _ _ q0 q1 hL hl hS.r3) ?_
  rintro v H' ⟨rfl, a2, cap2, g2, hL, hS⟩
  have hS := hS.p3
  have hk := hS.look
  have r1 := fun o => rd_of hk o
  simp only [hk, r1, he, frC, Ev.upd_upd, ↓D0, ↓D1, ↓D2, ↓D3, ↓D4, ↓D5, ↓D6, ↓D7, ↓D8, ↓D9, U0, U1, U2, U3, U4, U5, U6, U7, U8, U9, U10, ↓reduceIte, Nat.reduceAdd, Nat.reduceMul, Nat.reduceSub, Nat.reduceEqDiff, Nat.reduceBEq, Nat.reduceLeDiff, Nat.reduceLT, Int.reduceAdd, Int.reduceMul, Int.reduceSub, Int.reduceLT, Int.reduceLE, Int.reduceToNat, Int.reduceEq, Int.reduceNe, Int.reduceBEq, Int.reduceBNe, ne_eq, eq_self]
  have hS := hS.set (.cells (frC t (decide (w.get t.sat = taken t.pA)) false 2 false t.pg t.sl t.pA 0 false t.wd pno pno) 88 (0, 0))
  have hk := hS.look
  have r1 := fun o => rd_of hk o
  have r2 := fun o n => rdn_of hk o n
  refine draw_intro [(k, frC t (decide (w.get t.sat = taken t.pA)) false 2 false t.pg t.sl t.pA 0 false t.wd pno pno, [])] (by simp only [hk, frC, ↓D0, ↓D1, ↓D2, ↓D3, ↓D4, ↓D5, ↓D6, ↓D7, ↓D8, ↓D9, U0, U1, U2, U3, U4, U5, U6, U7, U8, U9, U10, ↓reduceIte, Nat.reduceAdd, Nat.reduceMul, Nat.reduceSub, Nat.reduceEqDiff, Nat.reduceBEq, Nat.reduceLeDiff, Nat.reduceLT, Int.reduceAdd, Int.reduceMul, Int.reduceSub, Int.reduceLT, Int.reduceLE, Int.reduceToNat, Int.reduceEq, Int.reduceNe, Int.reduceBEq, Int.reduceBNe, ne_eq, eq_self]) ?_
  simp only [hk, r1, r2, frC, Ev.upd_upd, ↓D0, ↓D1, ↓D2, ↓D3, ↓D4, ↓D5, ↓D6, ↓D7, ↓D8, ↓D9, U0, U1, U2, U3, U4, U5, U6, U7, U8, U9, U10, ↓reduceIte, Nat.reduceAdd, Nat.reduceMul, Nat.reduceSub, Nat.reduceEqDiff, Nat.reduceBEq, Nat.reduceLeDiff, Nat.reduceLT, Int.reduceAdd, Int.reduceMul, Int.reduceSub, Int.reduceLT, Int.reduceLE, Int.reduceToNat, Int.reduceEq, Int.reduceNe, Int.reduceBEq, Int.reduceBNe, ne_eq, eq_self]
  refine callT_of (m_unnewS hm hc ⟨hp0, hp1⟩ hs hS) ?_
  rintro v H' ⟨ku, rfl, hS⟩
  have hS := hS.p1
  have hk := hS.look
  have r1 := fun o => rd_of hk o
  have r2 := fun o n => rdn_of hk o n
  simp only [hk, r1, r2, frC, Ev.upd_upd, ↓D0, ↓D1, ↓D2, ↓D3, ↓D4, ↓D5, ↓D6, ↓D7, ↓D8, ↓D9, U0, U1, U2, U3, U4, U5, U6, U7, U8, U9, U10, ↓reduceIte, Nat.reduceAdd, Nat.reduceMul, Nat.reduceSub, Nat.reduceEqDiff, Nat.reduceBEq, Nat.reduceLeDiff, Nat.reduceLT, Int.reduceAdd, Int.reduceMul, Int.reduceSub, Int.reduceLT, Int.reduceLE, Int.reduceToNat, Int.reduceEq, Int.reduceNe, Int.reduceBEq, Int.reduceBNe, ne_eq, eq_self]
  exact ⟨ku, a2, cap2, g2, hL, hS.set (.cells (frC t (decide (w.get t.sat = taken t.pA)) (!decide (w.get t.sat = taken t.pA)) 2 false t.pg t.sl t.pA 0 false t.wd (pat' ku) pno) 88 (0, 0))⟩
theorem m_frswapO (hm : may t.s.p t.s.c t.s.m = true) (hc : 0 ≤ t.c ∧ t.c < t.s.c) (hp0 : 0 ≤ t.pg) (hp1 : t.pg < t.s.p) (hs : 0 ≤ t.sl ∧ t.sl < slots t.pA) (hw : w.of t.s) (hL : LogOk a cap w g) (hl : w.st + 1 ≤ 1000000000)
    (hS : Sep (frB k (frC t false false 1 false t.pg t.sl t.pA 0 true t.wd pno pno) :: mB b s a cap w :: wR s w :: g :: l) H) :
    CallP Try.prog W 115 #[.pointer (some ⟨k, 0, none⟩), .pointer (some ⟨b, 0, none⟩)] H fun v H' => v = .tuple #[] ∧
      ∃ ku kp a2 cap2 g2, LogOk a2 cap2 (w.swap t.c t.sat (taken t.pA) (way t.c)) g2 ∧ Sep (frB k (frC t (decide (w.get t.sat = taken t.pA)) (!decide (w.get t.sat = taken t.pA)) 2 false t.pg t.sl t.pA 0 true t.wd (pat' ku) (pat' kp)) :: unB ku (unS t.s t.c t.pg t.sl t.pA false) :: ruB kp t.pnew :: mB b s a2 cap2 (w.swap t.c t.sat (taken t.pA) (way t.c)) :: wR s (w.swap t.c t.sat (taken t.pA) (way t.c)) :: g2 :: l) H' := by
  refine CallP.of mixed Try.func115 tr115 (by show 2 ≤ _; decide) fun W _ => ?_
  have hk := hS.look
  have r1 := fun o => rd_of hk o
  have r2 := fun o n => rdn_of hk o n
  have sb := slots_bd t.pA
  obtain ⟨q0, q1⟩ := slot_in hw hm hp0 hp1 hs.1 (by omega : t.sl < 16)
  have he : (w.get (slot t.s.p t.s.c t.s.m t.pg t.sl) == taken t.pA) = decide (w.get t.sat = taken t.pA) := by
    show (w.get t.sat == taken t.pA) = _
    by_cases h : w.get t.sat = taken t.pA <;> simp [h]
  simp only [hk, r1, r2, frC, Ev.upd_upd, ↓D0, ↓D1, ↓D2, ↓D3, ↓D4, ↓D5, ↓D6, ↓D7, ↓D8, ↓D9, U0, U1, U2, U3, U4, U5, U6, U7, U8, U9, U10, ↓reduceIte, Nat.reduceAdd, Nat.reduceMul, Nat.reduceSub, Nat.reduceEqDiff, Nat.reduceBEq, Nat.reduceLeDiff, Nat.reduceLT, Int.reduceAdd, Int.reduceMul, Int.reduceSub, Int.reduceLT, Int.reduceLE, Int.reduceToNat, Int.reduceEq, Int.reduceNe, Int.reduceBEq, Int.reduceBNe, ne_eq, eq_self]
  have hS := hS.set (.cells (frC t false false 2 false t.pg t.sl t.pA 0 true t.wd pno pno) 88 (0, 0))
  have hk := hS.look
  have r1 := fun o => rd_of hk o
  have r2 := fun o n => rdn_of hk o n
  refine draw_intro [(k, frC t false false 2 false t.pg t.sl t.pA 0 true t.wd pno pno, [])] (by simp only [hk, frC, ↓D0, ↓D1, ↓D2, ↓D3, ↓D4, ↓D5, ↓D6, ↓D7, ↓D8, ↓D9, U0, U1, U2, U3, U4, U5, U6, U7, U8, U9, U10, ↓reduceIte, Nat.reduceAdd, Nat.reduceMul, Nat.reduceSub, Nat.reduceEqDiff, Nat.reduceBEq, Nat.reduceLeDiff, Nat.reduceLT, Int.reduceAdd, Int.reduceMul, Int.reduceSub, Int.reduceLT, Int.reduceLE, Int.reduceToNat, Int.reduceEq, Int.reduceNe, Int.reduceBEq, Int.reduceBNe, ne_eq, eq_self]) ?_
  simp only [hk, r1, r2, u_slot, u_taken, u_way, frC, ↓D0, ↓D1, ↓D2, ↓D3, ↓D4, ↓D5, ↓D6, ↓D7, ↓D8, ↓D9, U0, U1, U2, U3, U4, U5, U6, U7, U8, U9, U10, ↓reduceIte, Nat.reduceAdd, Nat.reduceMul, Nat.reduceSub, Nat.reduceEqDiff, Nat.reduceBEq, Nat.reduceLeDiff, Nat.reduceLT, Int.reduceAdd, Int.reduceMul, Int.reduceSub, Int.reduceLT, Int.reduceLE, Int.reduceToNat, Int.reduceEq, Int.reduceNe, Int.reduceBEq, Int.reduceBNe, ne_eq, eq_self]
  refine callT_of (m_swap _ _ _ _ q0 q1 hL hl hS.r3) ?_
  rintro v H' ⟨rfl, a2, cap2, g2, hL, hS⟩
  have hS := hS.p3
  have hk := hS.look
  have r1 := fun o => rd_of hk o
  simp only [hk, r1, he, frC, Ev.upd_upd, ↓D0, ↓D1, ↓D2, ↓D3, ↓D4, ↓D5, ↓D6, ↓D7, ↓D8, ↓D9, U0, U1, U2, U3, U4, U5, U6, U7, U8, U9, U10, ↓reduceIte, Nat.reduceAdd, Nat.reduceMul, Nat.reduceSub, Nat.reduceEqDiff, Nat.reduceBEq, Nat.reduceLeDiff, Nat.reduceLT, Int.reduceAdd, Int.reduceMul, Int.reduceSub, Int.reduceLT, Int.reduceLE, Int.reduceToNat, Int.reduceEq, Int.reduceNe, Int.reduceBEq, Int.reduceBNe, ne_eq, eq_self]
  have hS := hS.set (.cells (frC t (decide (w.get t.sat = taken t.pA)) false 2 false t.pg t.sl t.pA 0 true t.wd pno pno) 88 (0, 0))
  have hk := hS.look
  have r1 := fun o => rd_of hk o
  have r2 := fun o n => rdn_of hk o n
  refine draw_intro [(k, frC t (decide (w.get t.sat = taken t.pA)) false 2 false t.pg t.sl t.pA 0 true t.wd pno pno, [])] (by simp only [hk, frC, ↓D0, ↓D1, ↓D2, ↓D3, ↓D4, ↓D5, ↓D6, ↓D7, ↓D8, ↓D9, U0, U1, U2, U3, U4, U5, U6, U7, U8, U9, U10, ↓reduceIte, Nat.reduceAdd, Nat.reduceMul, Nat.reduceSub, Nat.reduceEqDiff, Nat.reduceBEq, Nat.reduceLeDiff, Nat.reduceLT, Int.reduceAdd, Int.reduceMul, Int.reduceSub, Int.reduceLT, Int.reduceLE, Int.reduceToNat, Int.reduceEq, Int.reduceNe, Int.reduceBEq, Int.reduceBNe, ne_eq, eq_self]) ?_
  simp only [hk, r1, r2, frC, Ev.upd_upd, ↓D0, ↓D1, ↓D2, ↓D3, ↓D4, ↓D5, ↓D6, ↓D7, ↓D8, ↓D9, U0, U1, U2, U3, U4, U5, U6, U7, U8, U9, U10, ↓reduceIte, Nat.reduceAdd, Nat.reduceMul, Nat.reduceSub, Nat.reduceEqDiff, Nat.reduceBEq, Nat.reduceLeDiff, Nat.reduceLT, Int.reduceAdd, Int.reduceMul, Int.reduceSub, Int.reduceLT, Int.reduceLE, Int.reduceToNat, Int.reduceEq, Int.reduceNe, Int.reduceBEq, Int.reduceBNe, ne_eq, eq_self]
  refine callT_of (m_punew (sh := t.s) hS) ?_
  rintro v H' ⟨kp, rfl, hS⟩
  have hS := hS.p1
  have hk := hS.look
  have r1 := fun o => rd_of hk o
  have r2 := fun o n => rdn_of hk o n
  simp only [hk, r1, r2, frC, Ev.upd_upd, ↓D0, ↓D1, ↓D2, ↓D3, ↓D4, ↓D5, ↓D6, ↓D7, ↓D8, ↓D9, U0, U1, U2, U3, U4, U5, U6, U7, U8, U9, U10, ↓reduceIte, Nat.reduceAdd, Nat.reduceMul, Nat.reduceSub, Nat.reduceEqDiff, Nat.reduceBEq, Nat.reduceLeDiff, Nat.reduceLT, Int.reduceAdd, Int.reduceMul, Int.reduceSub, Int.reduceLT, Int.reduceLE, Int.reduceToNat, Int.reduceEq, Int.reduceNe, Int.reduceBEq, Int.reduceBNe, ne_eq, eq_self]
  have hS := hS.set (.cells (frC t (decide (w.get t.sat = taken t.pA)) false 2 false t.pg t.sl t.pA 0 true t.wd pno (pat' kp)) 88 (0, 0))
  have hk := hS.look
  have r1 := fun o => rd_of hk o
  have r2 := fun o n => rdn_of hk o n
  refine draw_intro [(k, frC t (decide (w.get t.sat = taken t.pA)) false 2 false t.pg t.sl t.pA 0 true t.wd pno (pat' kp), [])] (by simp only [hk, frC, pat', ↓D0, ↓D1, ↓D2, ↓D3, ↓D4, ↓D5, ↓D6, ↓D7, ↓D8, ↓D9, U0, U1, U2, U3, U4, U5, U6, U7, U8, U9, U10, ↓reduceIte, Nat.reduceAdd, Nat.reduceMul, Nat.reduceSub, Nat.reduceEqDiff, Nat.reduceBEq, Nat.reduceLeDiff, Nat.reduceLT, Int.reduceAdd, Int.reduceMul, Int.reduceSub, Int.reduceLT, Int.reduceLE, Int.reduceToNat, Int.reduceEq, Int.reduceNe, Int.reduceBEq, Int.reduceBNe, ne_eq, eq_self]) ?_
  simp only [hk, r1, r2, frC, pat', Ev.upd_upd, ↓D0, ↓D1, ↓D2, ↓D3, ↓D4, ↓D5, ↓D6, ↓D7, ↓D8, ↓D9, U0, U1, U2, U3, U4, U5, U6, U7, U8, U9, U10, ↓reduceIte, Nat.reduceAdd, Nat.reduceMul, Nat.reduceSub, Nat.reduceEqDiff, Nat.reduceBEq, Nat.reduceLeDiff, Nat.reduceLT, Int.reduceAdd, Int.reduceMul, Int.reduceSub, Int.reduceLT, Int.reduceLE, Int.reduceToNat, Int.reduceEq, Int.reduceNe, Int.reduceBEq, Int.reduceBNe, ne_eq, eq_self]
  refine callT_of (m_unnewS hm hc ⟨hp0, hp1⟩ hs hS) ?_
  rintro v H' ⟨ku, rfl, hS⟩
  have hS := hS.p1
  have hk := hS.look
  have r1 := fun o => rd_of hk o
  have r2 := fun o n => rdn_of hk o n
  simp only [hk, r1, r2, frC, pat', Ev.upd_upd, ↓D0, ↓D1, ↓D2, ↓D3, ↓D4, ↓D5, ↓D6, ↓D7, ↓D8, ↓D9, U0, U1, U2, U3, U4, U5, U6, U7, U8, U9, U10, ↓reduceIte, Nat.reduceAdd, Nat.reduceMul, Nat.reduceSub, Nat.reduceEqDiff, Nat.reduceBEq, Nat.reduceLeDiff, Nat.reduceLT, Int.reduceAdd, Int.reduceMul, Int.reduceSub, Int.reduceLT, Int.reduceLE, Int.reduceToNat, Int.reduceEq, Int.reduceNe, Int.reduceBEq, Int.reduceBNe, ne_eq, eq_self]
  exact ⟨ku, kp, a2, cap2, g2, hL, (hS.set (.cells (frC t (decide (w.get t.sat = taken t.pA)) (!decide (w.get t.sat = taken t.pA)) 2 false t.pg t.sl t.pA 0 true t.wd (pat' ku) (pat' kp)) 88 (0, 0)))⟩
theorem m_frstep (ht : t.wf) (hd : t.dn = false) (hF : FR t c X Y) (hw : w.of t.s) (hL : LogOk a cap w g) (hl : w.st + 1 ≤ 1000000000) (hS : Sep (frB k c :: X :: Y :: mB b s a cap w :: wR s w :: g :: l) H) :
    CallP Try.prog W 49 #[.pointer (some ⟨k, 0, none⟩), .pointer (some ⟨b, 0, none⟩)] H fun v H' => v = .tuple #[] ∧
      ∃ c2 X2 Y2 a2 cap2 g2, FR (t.step w).1 c2 X2 Y2 ∧ c2[5]? = some (.bool (t.step w).1.gv) ∧ c2[6]? = some (.bool (t.step w).1.dn) ∧ LogOk a2 cap2 (t.step w).2 g2 ∧
        Sep (frB k c2 :: X2 :: Y2 :: mB b s a2 cap2 (t.step w).2 :: wR s (t.step w).2 :: g2 :: l) H' := by
  refine CallP.of mixed Try.func49 tr49 (by show 2 ≤ _; decide) fun W _ => ?_
  obtain ⟨hm, c0, c1, p0, p1, hth, hsp, n0, n4⟩ := ht.of hd
  have hb := (may_iff _ _ _).1 hm
  rcases hF with hF | ⟨hn, rfl, rfl, rfl⟩ | ⟨hn, hk3, rfl, rfl, rfl⟩ | ⟨hn, hk2, rfl, rfl, rfl⟩ | ⟨hn, ku, rfl, rfl, rfl⟩ | ⟨hn, ku, rfl, hF⟩ | ⟨hn, ku, kp, p, hp, rfl, rfl, rfl⟩
  · rw [hd] at hF; cases hF
  · have hk := hS.look
    have r1 := fun o => rd_of hk o
    rw [Gv.step_0 hd hn]
    simp only [hk, r1, frC, ↓D0, ↓D1, ↓D2, ↓D3, ↓D4, ↓D5, ↓D6, ↓D7, ↓D8, ↓D9, U0, U1, U2, U3, U4, U5, U6, U7, U8, U9, U10, ↓reduceIte, Nat.reduceAdd, Nat.reduceMul, Nat.reduceSub, Nat.reduceEqDiff, Nat.reduceBEq, Nat.reduceLeDiff, Nat.reduceLT, Int.reduceAdd, Int.reduceMul, Int.reduceSub, Int.reduceLT, Int.reduceLE, Int.reduceToNat, Int.reduceEq, Int.reduceNe, Int.reduceBEq, Int.reduceBNe, ne_eq, eq_self]
    have hS' : Sep (frB k (frC t false false 0 false 0 0 0 0 false 0 pno pno) :: mB b s a cap w :: wR s w :: g :: l) H := hS.p1.tail.p1.tail
    refine callT_of (m_frread hm hth hsp p0 p1 hw hL hl hS') ?_
    rintro v H' ⟨rfl, a2, cap2, g2, hL, hS⟩
    simp only [↓D0, ↓D1, ↓D2, ↓D3, ↓D4, ↓D5, ↓D6, ↓D7, ↓D8, ↓D9, U0, U1, U2, U3, U4, U5, U6, U7, U8, U9, U10, ↓reduceIte, Nat.reduceAdd, Nat.reduceMul, Nat.reduceSub, Nat.reduceEqDiff, Nat.reduceBEq, Nat.reduceLeDiff, Nat.reduceLT, Int.reduceAdd, Int.reduceMul, Int.reduceSub, Int.reduceLT, Int.reduceLE, Int.reduceToNat, Int.reduceEq, Int.reduceNe, Int.reduceBEq, Int.reduceBNe, ne_eq, eq_self]
    have hgv := (ht.n01 (.inl hn)).2.1
    refine ⟨frR t w, emp, emp, a2, cap2, g2, ?_, ?_, ?_, hL, hS.nothing.nothing.p2⟩
    · show FR (t.look w) (frR t w) emp emp
      unfold Gv.look frR
      split
      · rename_i h1
        unfold Gv.isL at h1
        simp only [Bool.and_eq_true, decide_eq_true_eq] at h1
        exact .inr (.inr (.inl ⟨rfl, h1.2.1, rfl, rfl, rfl⟩))
      · split
        · rename_i h1
          unfold Gv.isS at h1
          simp only [Bool.and_eq_true, decide_eq_true_eq] at h1
          exact .inr (.inr (.inr (.inl ⟨rfl, h1.2.1, rfl, rfl, rfl⟩)))
        · exact .inl rfl
    · show (frR t w)[5]? = some (Value.bool (t.look w).gv)
      unfold Gv.look frR
      split
      · show _ = some (Value.bool t.gv); rw [hgv]; rfl
      · split
        · show _ = some (Value.bool t.gv); rw [hgv]; rfl
        · show _ = some (Value.bool t.gv); rw [hgv]; rfl
    · show (frR t w)[6]? = some (Value.bool (t.look w).dn)
      unfold Gv.look frR
      split
      · show _ = some (Value.bool t.dn); rw [hd]; rfl
      · split
        · show _ = some (Value.bool t.dn); rw [hd]; rfl
        · rfl
  · have hk := hS.look
    have r1 := fun o => rd_of hk o
    obtain ⟨-, hbl, -⟩ := ht.bl hd (by omega)
    have hbl : 1 ≤ t.pA ∧ t.pA ≤ 8 ∧ t.pg + t.pA ≤ t.s.p := by rcases hbl with h | h <;> omega
    have hi0 := (ht.n01 (.inr hn)).2.2
    rw [Gv.step_1L hd hn hk3]
    simp only [hk, r1, frC, ↓D0, ↓D1, ↓D2, ↓D3, ↓D4, ↓D5, ↓D6, ↓D7, ↓D8, ↓D9, U0, U1, U2, U3, U4, U5, U6, U7, U8, U9, U10, ↓reduceIte, Nat.reduceAdd, Nat.reduceMul, Nat.reduceSub, Nat.reduceEqDiff, Nat.reduceBEq, Nat.reduceLeDiff, Nat.reduceLT, Int.reduceAdd, Int.reduceMul, Int.reduceSub, Int.reduceLT, Int.reduceLE, Int.reduceToNat, Int.reduceEq, Int.reduceNe, Int.reduceBEq, Int.reduceBNe, ne_eq, eq_self]
    refine callT_of (m_frswapL hm ⟨c0, c1⟩ p0 p1 ⟨hbl.1, hbl.2.1⟩ hbl.2.2 hw hL hl hS.p1.tail.p1.tail) ?_
    rintro v H' ⟨rfl, ku, a2, cap2, g2, hL, hS⟩
    simp only [↓D0, ↓D1, ↓D2, ↓D3, ↓D4, ↓D5, ↓D6, ↓D7, ↓D8, ↓D9, U0, U1, U2, U3, U4, U5, U6, U7, U8, U9, U10, ↓reduceIte, Nat.reduceAdd, Nat.reduceMul, Nat.reduceSub, Nat.reduceEqDiff, Nat.reduceBEq, Nat.reduceLeDiff, Nat.reduceLT, Int.reduceAdd, Int.reduceMul, Int.reduceSub, Int.reduceLT, Int.reduceLE, Int.reduceToNat, Int.reduceEq, Int.reduceNe, Int.reduceBEq, Int.reduceBNe, ne_eq, eq_self]
    refine ⟨_, unB ku (unL t.s t.c 0 t.pg t.pA false), emp, a2, cap2, g2, ?_, rfl, rfl, hL, hS.nothing.p2.p2⟩
    cases hz : decide (w.get t.pat = t.wd)
    · exact .inl (by show (!decide (w.get t.pat = t.wd)) = true; rw [hz]; rfl)
    · exact .inr (.inr (.inr (.inr (.inl ⟨rfl, ku, rfl, by show _ = unB ku (unL t.s t.c t.i t.pg t.pA false); rw [hi0], rfl⟩))))
  · have hk := hS.look
    have r1 := fun o => rd_of hk o
    obtain ⟨-, hbl, -⟩ := ht.bl hd (by omega)
    have hbl : 0 ≤ t.sl ∧ t.sl < slots t.pA := by rcases hbl with h | h <;> omega
    rw [Gv.step_1S hd hn hk2]
    by_cases hown : t.pB = t.c
    · have gb : (t.pB == t.c) = true := beq_iff_eq.2 hown
      rw [gb] at hS hk r1
      simp only [hk, r1, frC, ↓D0, ↓D1, ↓D2, ↓D3, ↓D4, ↓D5, ↓D6, ↓D7, ↓D8, ↓D9, U0, U1, U2, U3, U4, U5, U6, U7, U8, U9, U10, ↓reduceIte, Nat.reduceAdd, Nat.reduceMul, Nat.reduceSub, Nat.reduceEqDiff, Nat.reduceBEq, Nat.reduceLeDiff, Nat.reduceLT, Int.reduceAdd, Int.reduceMul, Int.reduceSub, Int.reduceLT, Int.reduceLE, Int.reduceToNat, Int.reduceEq, Int.reduceNe, Int.reduceBEq, Int.reduceBNe, ne_eq, eq_self]
      refine callT_of (m_frswapO hm ⟨c0, c1⟩ p0 p1 hbl hw hL hl hS.p1.tail.p1.tail) ?_
      rintro v H' ⟨rfl, ku, kp, a2, cap2, g2, hL, hS⟩
      simp only [↓D0, ↓D1, ↓D2, ↓D3, ↓D4, ↓D5, ↓D6, ↓D7, ↓D8, ↓D9, U0, U1, U2, U3, U4, U5, U6, U7, U8, U9, U10, ↓reduceIte, Nat.reduceAdd, Nat.reduceMul, Nat.reduceSub, Nat.reduceEqDiff, Nat.reduceBEq, Nat.reduceLeDiff, Nat.reduceLT, Int.reduceAdd, Int.reduceMul, Int.reduceSub, Int.reduceLT, Int.reduceLE, Int.reduceToNat, Int.reduceEq, Int.reduceNe, Int.reduceBEq, Int.reduceBNe, ne_eq, eq_self]
      have e : t.claimS w = { t with gv := decide (w.get t.sat = taken t.pA), put := some t.pnew, nx := if t.pnew.dn then 3 else 2, dn := !decide (w.get t.sat = taken t.pA) } := if_pos hown
      refine ⟨_, _, _, a2, cap2, g2, ?_, ?_, ?_, hL, hS⟩
      · rw [e]
        cases hz : decide (w.get t.sat = taken t.pA)
        · exact .inl rfl
        · cases hpd : t.pnew.dn
          · exact .inr (.inr (.inr (.inr (.inr (.inr ⟨rfl, ku, kp, t.pnew, rfl, rfl, rfl, rfl⟩)))))
          · exact .inr (.inr (.inr (.inr (.inr (.inl ⟨rfl, ku, rfl, .inr ⟨kp, t.pnew, rfl, rfl, hpd⟩⟩)))))
      · rw [e]; rfl
      · rw [e]; rfl
    · have gb : (t.pB == t.c) = false := beq_eq_false_iff_ne.2 hown
      rw [gb] at hS hk r1
      simp only [hk, r1, frC, ↓D0, ↓D1, ↓D2, ↓D3, ↓D4, ↓D5, ↓D6, ↓D7, ↓D8, ↓D9, U0, U1, U2, U3, U4, U5, U6, U7, U8, U9, U10, ↓reduceIte, Nat.reduceAdd, Nat.reduceMul, Nat.reduceSub, Nat.reduceEqDiff, Nat.reduceBEq, Nat.reduceLeDiff, Nat.reduceLT, Int.reduceAdd, Int.reduceMul, Int.reduceSub, Int.reduceLT, Int.reduceLE, Int.reduceToNat, Int.reduceEq, Int.reduceNe, Int.reduceBEq, Int.reduceBNe, ne_eq, eq_self]
      refine callT_of (m_frswapN hm ⟨c0, c1⟩ p0 p1 hbl hw hL hl hS.p1.tail.p1.tail) ?_
      rintro v H' ⟨rfl, ku, a2, cap2, g2, hL, hS⟩
      simp only [↓D0, ↓D1, ↓D2, ↓D3, ↓D4, ↓D5, ↓D6, ↓D7, ↓D8, ↓D9, U0, U1, U2, U3, U4, U5, U6, U7, U8, U9, U10, ↓reduceIte, Nat.reduceAdd, Nat.reduceMul, Nat.reduceSub, Nat.reduceEqDiff, Nat.reduceBEq, Nat.reduceLeDiff, Nat.reduceLT, Int.reduceAdd, Int.reduceMul, Int.reduceSub, Int.reduceLT, Int.reduceLE, Int.reduceToNat, Int.reduceEq, Int.reduceNe, Int.reduceBEq, Int.reduceBNe, ne_eq, eq_self]
      have e : t.claimS w = { t with gv := decide (w.get t.sat = taken t.pA), nx := 3, dn := !decide (w.get t.sat = taken t.pA) } := if_neg hown
      refine ⟨_, unB ku (unS t.s t.c t.pg t.sl t.pA false), emp, a2, cap2, g2, ?_, ?_, ?_, hL, hS.nothing.p2.p2⟩
      · rw [e]
        cases hz : decide (w.get t.sat = taken t.pA)
        · exact .inl rfl
        · exact .inr (.inr (.inr (.inr (.inr (.inl ⟨rfl, ku, rfl, .inl ⟨rfl, rfl⟩⟩)))))
      · rw [e]; rfl
      · rw [e]; rfl
  · have hk := hS.look
    have r1 := fun o => rd_of hk o
    obtain ⟨-, hbl, -⟩ := ht.bl hd (by omega)
    have h4 := ht.n4 hd hn
    have hbl : 1 ≤ t.pA ∧ t.pA ≤ 8 ∧ t.pg + t.pA ≤ t.s.p := by rcases hbl with h | h <;> omega
    have hgv := ht.n23 hd (.inr (.inr hn))
    by_cases hi : t.i = t.pA - 1
    · rw [Gv.step_4l hd hn hi]
      simp only [hk, r1, frC, pat', pno, ↓D0, ↓D1, ↓D2, ↓D3, ↓D4, ↓D5, ↓D6, ↓D7, ↓D8, ↓D9, U0, U1, U2, U3, U4, U5, U6, U7, U8, U9, U10, ↓reduceIte, Nat.reduceAdd, Nat.reduceMul, Nat.reduceSub, Nat.reduceEqDiff, Nat.reduceBEq, Nat.reduceLeDiff, Nat.reduceLT, Int.reduceAdd, Int.reduceMul, Int.reduceSub, Int.reduceLT, Int.reduceLE, Int.reduceToNat, Int.reduceEq, Int.reduceNe, Int.reduceBEq, Int.reduceBNe, ne_eq, eq_self]
      refine callT_of (m_unstepL hm ⟨p0, p1⟩ ⟨h4.2.1, hi⟩ hbl.2.1 hw hL hl hS.p2.p1.p5.p5.p5.p5) ?_
      rintro v H' ⟨rfl, a2, cap2, g2, hL, hS⟩
      have hS := hS.p3.p3.p3.p5.p4.p5
      have hk := hS.look
      have r1 := fun o => rd_of hk o
      have hu1 := hS.lk 1 rfl
      have ru := fun o => rd_of hu1 o
      have nku := hS.neq 0 1 (by decide) rfl rfl
      have nuk := hS.qen 0 1 (by decide) rfl rfl
      simp only [hk, r1, hu1, ru, nku, nuk, frC, pat', pno, unL, ↓D0, ↓D1, ↓D2, ↓D3, ↓D4, ↓D5, ↓D6, ↓D7, ↓D8, ↓D9, U0, U1, U2, U3, U4, U5, U6, U7, U8, U9, U10, ↓reduceIte, Nat.reduceAdd, Nat.reduceMul, Nat.reduceSub, Nat.reduceEqDiff, Nat.reduceBEq, Nat.reduceLeDiff, Nat.reduceLT, Int.reduceAdd, Int.reduceMul, Int.reduceSub, Int.reduceLT, Int.reduceLE, Int.reduceToNat, Int.reduceEq, Int.reduceNe, Int.reduceBEq, Int.reduceBNe, ne_eq, eq_self]
      exact ⟨_, _, _, a2, cap2, g2, .inl rfl, by show _ = some (Value.bool t.gv); rw [hgv]; rfl, rfl, hL, hS.set (.cells (frC t true true 2 true t.pg 0 0 t.pA false t.wd (pat' ku) pno) 88 (0, 0))⟩
    · rw [Gv.step_4m hd hn hi]
      simp only [hk, r1, frC, pat', pno, ↓D0, ↓D1, ↓D2, ↓D3, ↓D4, ↓D5, ↓D6, ↓D7, ↓D8, ↓D9, U0, U1, U2, U3, U4, U5, U6, U7, U8, U9, U10, ↓reduceIte, Nat.reduceAdd, Nat.reduceMul, Nat.reduceSub, Nat.reduceEqDiff, Nat.reduceBEq, Nat.reduceLeDiff, Nat.reduceLT, Int.reduceAdd, Int.reduceMul, Int.reduceSub, Int.reduceLT, Int.reduceLE, Int.reduceToNat, Int.reduceEq, Int.reduceNe, Int.reduceBEq, Int.reduceBNe, ne_eq, eq_self]
      refine callT_of (m_unstepM hm p0 hbl.2.2 ⟨h4.2.1, by omega⟩ hbl.2.1 hw hL hl hS.p2.p1.p5.p5.p5.p5) ?_
      rintro v H' ⟨rfl, a2, cap2, g2, hL, hS⟩
      have hS := hS.p3.p3.p3.p5.p4.p5
      have hk := hS.look
      have r1 := fun o => rd_of hk o
      have hu1 := hS.lk 1 rfl
      have ru := fun o => rd_of hu1 o
      have nku := hS.neq 0 1 (by decide) rfl rfl
      have nuk := hS.qen 0 1 (by decide) rfl rfl
      simp only [hk, r1, hu1, ru, nku, nuk, frC, pat', pno, unL, ↓D0, ↓D1, ↓D2, ↓D3, ↓D4, ↓D5, ↓D6, ↓D7, ↓D8, ↓D9, U0, U1, U2, U3, U4, U5, U6, U7, U8, U9, U10, ↓reduceIte, Nat.reduceAdd, Nat.reduceMul, Nat.reduceSub, Nat.reduceEqDiff, Nat.reduceBEq, Nat.reduceLeDiff, Nat.reduceLT, Int.reduceAdd, Int.reduceMul, Int.reduceSub, Int.reduceLT, Int.reduceLE, Int.reduceToNat, Int.reduceEq, Int.reduceNe, Int.reduceBEq, Int.reduceBNe, ne_eq, eq_self]
      exact ⟨_, _, _, a2, cap2, g2, .inr (.inr (.inr (.inr (.inl ⟨hn, ku, rfl, rfl, rfl⟩)))), by show _ = some (Value.bool t.gv); rw [hgv]; rfl, by show _ = some (Value.bool t.dn); rw [hd]; rfl, hL, hS.set (.cells (frC t true false 2 true t.pg 0 0 t.pA false t.wd (pat' ku) pno) 88 (0, 0))⟩
  · have hk := hS.look
    have r1 := fun o => rd_of hk o
    obtain ⟨-, hbl, -⟩ := ht.bl hd (by omega)
    have hk2 := ht.n3 hd hn
    have sb := slots_bd t.pA
    have hbl : 0 ≤ t.sl ∧ t.sl < slots t.pA := by rcases hbl with h | h <;> omega
    have hgv := ht.n23 hd (.inr (.inl hn))
    rw [Gv.step_3 hd hn]
    rcases hF with ⟨rfl, rfl⟩ | ⟨kp, p, rfl, rfl, hpd⟩
    · simp only [hk, r1, frC, pat', pno, ↓D0, ↓D1, ↓D2, ↓D3, ↓D4, ↓D5, ↓D6, ↓D7, ↓D8, ↓D9, U0, U1, U2, U3, U4, U5, U6, U7, U8, U9, U10, ↓reduceIte, Nat.reduceAdd, Nat.reduceMul, Nat.reduceSub, Nat.reduceEqDiff, Nat.reduceBEq, Nat.reduceLeDiff, Nat.reduceLT, Int.reduceAdd, Int.reduceMul, Int.reduceSub, Int.reduceLT, Int.reduceLE, Int.reduceToNat, Int.reduceEq, Int.reduceNe, Int.reduceBEq, Int.reduceBNe, ne_eq, eq_self]
      refine callT_of (m_unstepS hm ⟨p0, p1⟩ ⟨hbl.1, by omega⟩ hw hL hl hS.p2.p1.p5.p5.p5.p5) ?_
      rintro v H' ⟨rfl, a2, cap2, g2, hL, hS⟩
      have hS := hS.p3.p3.p3.p5.p4.p5
      have hk := hS.look
      have r1 := fun o => rd_of hk o
      have hu1 := hS.lk 1 rfl
      have ru := fun o => rd_of hu1 o
      have nku := hS.neq 0 1 (by decide) rfl rfl
      have nuk := hS.qen 0 1 (by decide) rfl rfl
      simp only [hk, r1, hu1, ru, nku, nuk, frC, pat', pno, unS, ↓D0, ↓D1, ↓D2, ↓D3, ↓D4, ↓D5, ↓D6, ↓D7, ↓D8, ↓D9, U0, U1, U2, U3, U4, U5, U6, U7, U8, U9, U10, ↓reduceIte, Nat.reduceAdd, Nat.reduceMul, Nat.reduceSub, Nat.reduceEqDiff, Nat.reduceBEq, Nat.reduceLeDiff, Nat.reduceLT, Int.reduceAdd, Int.reduceMul, Int.reduceSub, Int.reduceLT, Int.reduceLE, Int.reduceToNat, Int.reduceEq, Int.reduceNe, Int.reduceBEq, Int.reduceBNe, ne_eq, eq_self]
      exact ⟨_, _, _, a2, cap2, g2, .inl rfl, by show _ = some (Value.bool t.gv); rw [hgv]; rfl, rfl, hL, hS.set (.cells (frC t true true 2 false t.pg t.sl t.pA 0 false t.wd (pat' ku) pno) 88 (0, 0))⟩
    · have hp1' := hS.lk 2 rfl
      have rp := fun o => rd_of hp1' o
      have nkp := hS.neq 0 2 (by decide) rfl rfl
      have npk := hS.qen 0 2 (by decide) rfl rfl
      simp only [hk, r1, hp1', rp, nkp, npk, frC, pat', pno, Pu.ren, hpd, ↓D0, ↓D1, ↓D2, ↓D3, ↓D4, ↓D5, ↓D6, ↓D7, ↓D8, ↓D9, U0, U1, U2, U3, U4, U5, U6, U7, U8, U9, U10, ↓reduceIte, Nat.reduceAdd, Nat.reduceMul, Nat.reduceSub, Nat.reduceEqDiff, Nat.reduceBEq, Nat.reduceLeDiff, Nat.reduceLT, Int.reduceAdd, Int.reduceMul, Int.reduceSub, Int.reduceLT, Int.reduceLE, Int.reduceToNat, Int.reduceEq, Int.reduceNe, Int.reduceBEq, Int.reduceBNe, ne_eq, eq_self]
      refine callT_of (m_unstepS hm ⟨p0, p1⟩ ⟨hbl.1, by omega⟩ hw hL hl hS.p2.p1.p5.p5.p5.p5) ?_
      rintro v H' ⟨rfl, a2, cap2, g2, hL, hS⟩
      have hS := hS.p3.p3.p3.p5.p4.p5
      have hk := hS.look
      have r1 := fun o => rd_of hk o
      have hu1 := hS.lk 1 rfl
      have ru := fun o => rd_of hu1 o
      have nku := hS.neq 0 1 (by decide) rfl rfl
      have nuk := hS.qen 0 1 (by decide) rfl rfl
      simp only [hk, r1, hu1, ru, nku, nuk, frC, pat', pno, unS, ↓D0, ↓D1, ↓D2, ↓D3, ↓D4, ↓D5, ↓D6, ↓D7, ↓D8, ↓D9, U0, U1, U2, U3, U4, U5, U6, U7, U8, U9, U10, ↓reduceIte, Nat.reduceAdd, Nat.reduceMul, Nat.reduceSub, Nat.reduceEqDiff, Nat.reduceBEq, Nat.reduceLeDiff, Nat.reduceLT, Int.reduceAdd, Int.reduceMul, Int.reduceSub, Int.reduceLT, Int.reduceLE, Int.reduceToNat, Int.reduceEq, Int.reduceNe, Int.reduceBEq, Int.reduceBNe, ne_eq, eq_self]
      exact ⟨_, _, _, a2, cap2, g2, .inl rfl, by show _ = some (Value.bool t.gv); rw [hgv]; rfl, rfl, hL, hS.set (.cells (frC t true true 2 false t.pg t.sl t.pA 0 true t.wd (pat' ku) (pat' kp)) 88 (0, 0))⟩
  · have hk := hS.look
    have r1 := fun o => rd_of hk o
    have hgv := ht.n23 hd (.inl hn)
    obtain ⟨hk2, p', hp', hpw, hpd, hpp, hps, hpc⟩ := ht.n2 hd hn
    have hpe : p' = p := by rw [hp] at hp'; exact (Option.some.inj hp').symm
    subst hpe
    have hp1' := hS.lk 2 rfl
    have rp := fun o => rd_of hp1' o
    have nkp := hS.neq 0 2 (by decide) rfl rfl
    have npk := hS.qen 0 2 (by decide) rfl rfl
    rw [Gv.step_2 hd hn hp]
    simp only [hk, r1, hp1', rp, nkp, npk, frC, pat', pno, Pu.ren, hpd, ↓D0, ↓D1, ↓D2, ↓D3, ↓D4, ↓D5, ↓D6, ↓D7, ↓D8, ↓D9, U0, U1, U2, U3, U4, U5, U6, U7, U8, U9, U10, ↓reduceIte, Nat.reduceAdd, Nat.reduceMul, Nat.reduceSub, Nat.reduceEqDiff, Nat.reduceBEq, Nat.reduceLeDiff, Nat.reduceLT, Int.reduceAdd, Int.reduceMul, Int.reduceSub, Int.reduceLT, Int.reduceLE, Int.reduceToNat, Int.reduceEq, Int.reduceNe, Int.reduceBEq, Int.reduceBNe, ne_eq, eq_self]
    refine callT_of (m_pustep hpw (fun _ => by rw [hps]; exact hw) hL hl hS.p1.p1.p5.p5.p5.p5) ?_
    rintro v H' ⟨rfl, a2, cap2, g2, hL, hS⟩
    have hS := hS.p3.p3.p3.p3.p5.p5
    have hk := hS.look
    have r1 := fun o => rd_of hk o
    have hp1' := hS.lk 2 rfl
    have rp := fun o => rd_of hp1' o
    obtain ⟨q, hq⟩ : ∃ q, q = (p'.step w).1 := ⟨_, rfl⟩
    rw [← hq] at hS hp1' rp ⊢
    cases hqp : q.put
    · have hqb : Pu.ren q = #[.int .i64 q.s.p, .int .i64 q.s.c, .int .i64 q.s.m, .int .i64 q.c, .int .i64 q.i, .int .i64 q.ep, .int .i64 q.es, .int .i64 q.ek, .bool false, .bool q.dn, .bool q.hit] := by unfold Pu.ren; rw [hqp]
      rw [hqb] at hp1' rp
      simp only [hk, r1, hp1', rp, nkp, npk, frC, pat', pno, ↓D0, ↓D1, ↓D2, ↓D3, ↓D4, ↓D5, ↓D6, ↓D7, ↓D8, ↓D9, U0, U1, U2, U3, U4, U5, U6, U7, U8, U9, U10, ↓reduceIte, Nat.reduceAdd, Nat.reduceMul, Nat.reduceSub, Nat.reduceEqDiff, Nat.reduceBEq, Nat.reduceLeDiff, Nat.reduceLT, Int.reduceAdd, Int.reduceMul, Int.reduceSub, Int.reduceLT, Int.reduceLE, Int.reduceToNat, Int.reduceEq, Int.reduceNe, Int.reduceBEq, Int.reduceBNe, ne_eq, eq_self]
      have hSS := hS.set (.cells (frC t true false 2 false t.pg t.sl t.pA 0 true t.wd (pat' ku) (pat' kp)) 88 (0, 0))
      cases hqd : q.dn
      · have e : t.kept q = { t with put := some q } := by unfold Gv.kept; rw [hqp, hqd]; rfl
        rw [e]
        exact ⟨_, _, _, a2, cap2, g2, .inr (.inr (.inr (.inr (.inr (.inr ⟨hn, ku, kp, q, rfl, rfl, rfl, rfl⟩))))), by show _ = some (Value.bool t.gv); rw [hgv]; rfl, by show _ = some (Value.bool t.dn); rw [hd]; rfl, hL, hSS⟩
      · have e : t.kept q = { t with put := some q, nx := 3 } := by unfold Gv.kept; rw [hqp, hqd]; rfl
        rw [e]
        exact ⟨_, _, _, a2, cap2, g2, .inr (.inr (.inr (.inr (.inr (.inl ⟨rfl, ku, rfl, .inr ⟨kp, q, rfl, rfl, hqd⟩⟩))))), by show _ = some (Value.bool t.gv); rw [hgv]; rfl, by show _ = some (Value.bool t.dn); rw [hd]; rfl, hL, hSS⟩
    · have hqb : Pu.ren q = #[.int .i64 q.s.p, .int .i64 q.s.c, .int .i64 q.s.m, .int .i64 q.c, .int .i64 q.i, .int .i64 q.ep, .int .i64 q.es, .int .i64 q.ek, .bool true, .bool q.dn, .bool q.hit] := by unfold Pu.ren; rw [hqp]
      rw [hqb] at hp1' rp
      simp only [hk, r1, hp1', rp, nkp, npk, frC, pat', pno, ↓D0, ↓D1, ↓D2, ↓D3, ↓D4, ↓D5, ↓D6, ↓D7, ↓D8, ↓D9, U0, U1, U2, U3, U4, U5, U6, U7, U8, U9, U10, ↓reduceIte, Nat.reduceAdd, Nat.reduceMul, Nat.reduceSub, Nat.reduceEqDiff, Nat.reduceBEq, Nat.reduceLeDiff, Nat.reduceLT, Int.reduceAdd, Int.reduceMul, Int.reduceSub, Int.reduceLT, Int.reduceLE, Int.reduceToNat, Int.reduceEq, Int.reduceNe, Int.reduceBEq, Int.reduceBNe, ne_eq, eq_self]
      have e : t.kept q = { t with put := some q, dn := true } := by unfold Gv.kept; rw [hqp]; rfl
      rw [e]
      exact ⟨_, _, _, a2, cap2, g2, .inl rfl, by show _ = some (Value.bool t.gv); rw [hgv]; rfl, rfl, hL, hS.set (.cells (frC t true true 2 false t.pg t.sl t.pA 0 true t.wd (pat' ku) (pat' kp)) 88 (0, 0))⟩
end
end Go.Proofs.Ytbehnodllajnjaa
