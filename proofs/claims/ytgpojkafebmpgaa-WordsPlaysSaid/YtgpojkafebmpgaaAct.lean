/-
  allotmentlaw2.act: one access, by both; out of place it panics. Conditions: none.
-/
import Derived.Test.YtgpojkafebmpgaaGuardB
import Derived.Test.YtgpojkafebmpgaaLawK
set_option linter.unusedVariables false
set_option linter.unusedSimpArgs false
set_option maxRecDepth 8000
namespace Go.Proofs.Ytgpojkafebmpgaa
open Go Go.Ev Go.Pl Go.Ma

/-- One access. -/
def actW (w : Wd) (dd cl at' wa x : Int) : Wd := if dd ≤ 1 then w.load cl at' else if dd = 2 then w.store cl at' x else if dd ≤ 4 then w.swap cl at' wa x else w.add cl at' x
section
variable {W : World} {H g : Hp} {l : List Hp} {b s b' s' cp : Nat} {w : Wd} {d : Option Addr} {dd cl at' wa x : Int}
theorem x_act (ha : ¬ (0 ≤ at' ∧ at' < w.n)) (hS : Sep (wB b s w :: l) H) :
    CallX W 19 #[.pointer (some ⟨b, 0, none⟩), .pointer (some ⟨b', 0, none⟩), .agg #[.int .i64 dd, .int .i64 cl, .int .i64 at', .int .u64 wa, .int .u64 x], .bool false] H (fun H' => Sep (wB b s w :: l) H') := by
  intro u hu
  have hf : ∀ j, (H j).isSome = true → (j = u.heap.size) = False := fun j hj => eq_false fun e => by
    obtain ⟨o, ho⟩ := Option.isSome_iff_exists.1 hj
    have := hu.lt ho; omega
  have hS2 := (hS.new hf (.cells #[.int .i64 dd, .int .i64 cl, .int .i64 at', .int .u64 wa, .int .u64 x] 31 (0, 0))).p1
  have hu2 := hu.alloc (.cells #[.int .i64 dd, .int .i64 cl, .int .i64 at', .int .u64 wa, .int .u64 x] 31 (0, 0))
  go_enter Try.func19, Try.ntmps19
  go_wp2_with (first | (go_at_call 57; refine (x_load (m_out (a := at') ha hS2) _ hu2).mono ?_; rintro e u ⟨H', t, pv, rfl, hs, hS⟩) | (go_at_call 62; refine (x_store (m_out (a := at') ha hS2) _ hu2).mono ?_; rintro e u ⟨H', t, pv, rfl, hs, hS⟩) | (go_at_call 55; refine (x_swap (m_out (a := at') ha hS2) _ hu2).mono ?_; rintro e u ⟨H', t, pv, rfl, hs, hS⟩) | (go_at_call 56; refine (x_add (m_out (a := at') ha hS2) _ hu2).mono ?_; rintro e u ⟨H', t, pv, rfl, hs, hS⟩))
  all_goals
    simp only [bodyPost]
    exact ⟨trivial, H', t, pv, rfl, hs, hS.p1.tail⟩
theorem c_act (h0 : 0 ≤ at') (h1 : at' < w.n) (hL : LogOk d cp w g) (hl : w.st + 1 ≤ 1000000000) (hS : Sep (wB b s w :: wR s w :: mB b' s' d cp w :: wR s' w :: g :: l) H) :
    CallP Try.prog W 19 #[.pointer (some ⟨b, 0, none⟩), .pointer (some ⟨b', 0, none⟩), .agg #[.int .i64 dd, .int .i64 cl, .int .i64 at', .int .u64 wa, .int .u64 x], .bool true] H fun v H' => v = .bool true ∧
      ∃ d2 c2 g2, LogOk d2 c2 (actW w dd cl at' wa x) g2 ∧ Sep (wB b s (actW w dd cl at' wa x) :: wR s (actW w dd cl at' wa x) :: mB b' s' d2 c2 (actW w dd cl at' wa x) :: wR s' (actW w dd cl at' wa x) :: g2 :: l) H' := by
  refine CallP.of mixed Try.func19 tr19 (by show 4 ≤ _; decide) fun W _ => ?_
  simp only [↓D0, ↓D1, ↓D2, ↓D3, ↓D4, ↓D5, ↓D6, ↓D7, ↓D8, ↓D9, U0, U1, U2, U3, U4, U5, U6, U7, U8, U9, U10, ↓reduceIte, Nat.reduceAdd, Nat.reduceMul, Nat.reduceSub, Nat.reduceEqDiff, Nat.reduceBEq, Nat.reduceLeDiff, Nat.reduceLT, Int.reduceAdd, Int.reduceMul, Int.reduceSub, Int.reduceLT, Int.reduceLE, Int.reduceToNat, Int.reduceEq, Int.reduceNe, Int.reduceBEq, Int.reduceBNe, ne_eq, eq_self]
  refine newB_intro fun z hz f1 f2 => ?_
  have hS := hS.new f1 (.cells #[.int .i64 dd, .int .i64 cl, .int .i64 at', .int .u64 wa, .int .u64 x] 31 (0, 0))
  have hz1 := hS.look
  have rz := fun o => rd_of hz1 o
  have ww : (w.get at' == w.get at') = true := by simp
  by_cases e1 : dd ≤ 1
  · have d1 : decide (dd ≤ 1) = true := decide_eq_true e1
    have hw : actW w dd cl at' wa x = w.load cl at' := if_pos e1
    rw [hw]
    simp only [hz1, rz, d1, ↓D0, ↓D1, ↓D2, ↓D3, ↓D4, ↓D5, ↓D6, ↓D7, ↓D8, ↓D9, U0, U1, U2, U3, U4, U5, U6, U7, U8, U9, U10, ↓reduceIte, Nat.reduceAdd, Nat.reduceMul, Nat.reduceSub, Nat.reduceEqDiff, Nat.reduceBEq, Nat.reduceLeDiff, Nat.reduceLT, Int.reduceAdd, Int.reduceMul, Int.reduceSub, Int.reduceLT, Int.reduceLE, Int.reduceToNat, Int.reduceEq, Int.reduceNe, Int.reduceBEq, Int.reduceBNe, ne_eq, eq_self]
    refine callT_of (c_load cl at' h0 h1 hS.p2.p2) ?_
    rintro v H' ⟨rfl, hS⟩
    have hz1 := hS.lk 2 rfl
    have rz := fun o => rd_of hz1 o
    simp only [hz1, rz, d1, ↓D0, ↓D1, ↓D2, ↓D3, ↓D4, ↓D5, ↓D6, ↓D7, ↓D8, ↓D9, U0, U1, U2, U3, U4, U5, U6, U7, U8, U9, U10, ↓reduceIte, Nat.reduceAdd, Nat.reduceMul, Nat.reduceSub, Nat.reduceEqDiff, Nat.reduceBEq, Nat.reduceLeDiff, Nat.reduceLT, Int.reduceAdd, Int.reduceMul, Int.reduceSub, Int.reduceLT, Int.reduceLE, Int.reduceToNat, Int.reduceEq, Int.reduceNe, Int.reduceBEq, Int.reduceBNe, ne_eq, eq_self]
    refine callT_of (m_load cl at' h0 h1 hL hl hS.p5.p5.p5) ?_
    rintro v H' ⟨rfl, d2, c2, g2, hL2, hS⟩
    simp only [ww, ↓D0, ↓D1, ↓D2, ↓D3, ↓D4, ↓D5, ↓D6, ↓D7, ↓D8, ↓D9, U0, U1, U2, U3, U4, U5, U6, U7, U8, U9, U10, ↓reduceIte, Nat.reduceAdd, Nat.reduceMul, Nat.reduceSub, Nat.reduceEqDiff, Nat.reduceBEq, Nat.reduceLeDiff, Nat.reduceLT, Int.reduceAdd, Int.reduceMul, Int.reduceSub, Int.reduceLT, Int.reduceLE, Int.reduceToNat, Int.reduceEq, Int.reduceNe, Int.reduceBEq, Int.reduceBNe, ne_eq, eq_self]
    exact ⟨d2, c2, g2, hL2, hS.p5.tail.p4.p4⟩
  have d1 : decide (dd ≤ 1) = false := decide_eq_false e1
  by_cases e2 : dd = 2
  · have d2' : (dd == 2) = true := beq_iff_eq.2 e2
    have hw : actW w dd cl at' wa x = w.store cl at' x := (if_neg e1).trans (if_pos e2)
    rw [hw]
    simp only [hz1, rz, d1, d2', ↓D0, ↓D1, ↓D2, ↓D3, ↓D4, ↓D5, ↓D6, ↓D7, ↓D8, ↓D9, U0, U1, U2, U3, U4, U5, U6, U7, U8, U9, U10, ↓reduceIte, Nat.reduceAdd, Nat.reduceMul, Nat.reduceSub, Nat.reduceEqDiff, Nat.reduceBEq, Nat.reduceLeDiff, Nat.reduceLT, Int.reduceAdd, Int.reduceMul, Int.reduceSub, Int.reduceLT, Int.reduceLE, Int.reduceToNat, Int.reduceEq, Int.reduceNe, Int.reduceBEq, Int.reduceBNe, ne_eq, eq_self]
    refine callT_of (c_store cl at' x h0 h1 hS.p2.p2) ?_
    rintro v H' ⟨rfl, hS⟩
    have hz1 := hS.lk 2 rfl
    have rz := fun o => rd_of hz1 o
    simp only [hz1, rz, d1, d2', ↓D0, ↓D1, ↓D2, ↓D3, ↓D4, ↓D5, ↓D6, ↓D7, ↓D8, ↓D9, U0, U1, U2, U3, U4, U5, U6, U7, U8, U9, U10, ↓reduceIte, Nat.reduceAdd, Nat.reduceMul, Nat.reduceSub, Nat.reduceEqDiff, Nat.reduceBEq, Nat.reduceLeDiff, Nat.reduceLT, Int.reduceAdd, Int.reduceMul, Int.reduceSub, Int.reduceLT, Int.reduceLE, Int.reduceToNat, Int.reduceEq, Int.reduceNe, Int.reduceBEq, Int.reduceBNe, ne_eq, eq_self]
    refine callT_of (m_store cl at' x h0 h1 hL hl hS.p5.p5.p5) ?_
    rintro v H' ⟨rfl, d2, c2, g2, hL2, hS⟩
    simp only [ ↓D0, ↓D1, ↓D2, ↓D3, ↓D4, ↓D5, ↓D6, ↓D7, ↓D8, ↓D9, U0, U1, U2, U3, U4, U5, U6, U7, U8, U9, U10, ↓reduceIte, Nat.reduceAdd, Nat.reduceMul, Nat.reduceSub, Nat.reduceEqDiff, Nat.reduceBEq, Nat.reduceLeDiff, Nat.reduceLT, Int.reduceAdd, Int.reduceMul, Int.reduceSub, Int.reduceLT, Int.reduceLE, Int.reduceToNat, Int.reduceEq, Int.reduceNe, Int.reduceBEq, Int.reduceBNe, ne_eq, eq_self]
    exact ⟨d2, c2, g2, hL2, hS.p5.tail.p4.p4⟩
  have d2' : (dd == 2) = false := beq_eq_false_iff_ne.2 e2
  by_cases e3 : dd ≤ 4
  · have d3 : decide (dd ≤ 4) = true := decide_eq_true e3
    have wq : ((w.get at' == wa) == (w.get at' == wa)) = true := by simp
    have hw : actW w dd cl at' wa x = w.swap cl at' wa x := (if_neg e1).trans ((if_neg e2).trans (if_pos e3))
    rw [hw]
    simp only [hz1, rz, d1, d2', d3, ↓D0, ↓D1, ↓D2, ↓D3, ↓D4, ↓D5, ↓D6, ↓D7, ↓D8, ↓D9, U0, U1, U2, U3, U4, U5, U6, U7, U8, U9, U10, ↓reduceIte, Nat.reduceAdd, Nat.reduceMul, Nat.reduceSub, Nat.reduceEqDiff, Nat.reduceBEq, Nat.reduceLeDiff, Nat.reduceLT, Int.reduceAdd, Int.reduceMul, Int.reduceSub, Int.reduceLT, Int.reduceLE, Int.reduceToNat, Int.reduceEq, Int.reduceNe, Int.reduceBEq, Int.reduceBNe, ne_eq, eq_self]
    refine callT_of (c_swap cl at' wa x h0 h1 hS.p2.p2) ?_
    rintro v H' ⟨rfl, hS⟩
    have hz1 := hS.lk 2 rfl
    have rz := fun o => rd_of hz1 o
    simp only [hz1, rz, d1, d2', d3, ↓D0, ↓D1, ↓D2, ↓D3, ↓D4, ↓D5, ↓D6, ↓D7, ↓D8, ↓D9, U0, U1, U2, U3, U4, U5, U6, U7, U8, U9, U10, ↓reduceIte, Nat.reduceAdd, Nat.reduceMul, Nat.reduceSub, Nat.reduceEqDiff, Nat.reduceBEq, Nat.reduceLeDiff, Nat.reduceLT, Int.reduceAdd, Int.reduceMul, Int.reduceSub, Int.reduceLT, Int.reduceLE, Int.reduceToNat, Int.reduceEq, Int.reduceNe, Int.reduceBEq, Int.reduceBNe, ne_eq, eq_self]
    refine callT_of (m_swap cl at' wa x h0 h1 hL hl hS.p5.p5.p5) ?_
    rintro v H' ⟨rfl, d2, c2, g2, hL2, hS⟩
    simp only [wq, ↓D0, ↓D1, ↓D2, ↓D3, ↓D4, ↓D5, ↓D6, ↓D7, ↓D8, ↓D9, U0, U1, U2, U3, U4, U5, U6, U7, U8, U9, U10, ↓reduceIte, Nat.reduceAdd, Nat.reduceMul, Nat.reduceSub, Nat.reduceEqDiff, Nat.reduceBEq, Nat.reduceLeDiff, Nat.reduceLT, Int.reduceAdd, Int.reduceMul, Int.reduceSub, Int.reduceLT, Int.reduceLE, Int.reduceToNat, Int.reduceEq, Int.reduceNe, Int.reduceBEq, Int.reduceBNe, ne_eq, eq_self]
    exact ⟨d2, c2, g2, hL2, hS.p5.tail.p4.p4⟩
  have d3 : decide (dd ≤ 4) = false := decide_eq_false e3
  have hw : actW w dd cl at' wa x = w.add cl at' x := (if_neg e1).trans ((if_neg e2).trans (if_neg e3))
  rw [hw]
  simp only [hz1, rz, d1, d2', d3, ↓D0, ↓D1, ↓D2, ↓D3, ↓D4, ↓D5, ↓D6, ↓D7, ↓D8, ↓D9, U0, U1, U2, U3, U4, U5, U6, U7, U8, U9, U10, ↓reduceIte, Nat.reduceAdd, Nat.reduceMul, Nat.reduceSub, Nat.reduceEqDiff, Nat.reduceBEq, Nat.reduceLeDiff, Nat.reduceLT, Int.reduceAdd, Int.reduceMul, Int.reduceSub, Int.reduceLT, Int.reduceLE, Int.reduceToNat, Int.reduceEq, Int.reduceNe, Int.reduceBEq, Int.reduceBNe, ne_eq, eq_self]
  refine callT_of (c_add cl at' x h0 h1 hS.p2.p2) ?_
  rintro v H' ⟨rfl, hS⟩
  have hz1 := hS.lk 2 rfl
  have rz := fun o => rd_of hz1 o
  simp only [hz1, rz, d1, d2', d3, ↓D0, ↓D1, ↓D2, ↓D3, ↓D4, ↓D5, ↓D6, ↓D7, ↓D8, ↓D9, U0, U1, U2, U3, U4, U5, U6, U7, U8, U9, U10, ↓reduceIte, Nat.reduceAdd, Nat.reduceMul, Nat.reduceSub, Nat.reduceEqDiff, Nat.reduceBEq, Nat.reduceLeDiff, Nat.reduceLT, Int.reduceAdd, Int.reduceMul, Int.reduceSub, Int.reduceLT, Int.reduceLE, Int.reduceToNat, Int.reduceEq, Int.reduceNe, Int.reduceBEq, Int.reduceBNe, ne_eq, eq_self]
  refine callT_of (m_add cl at' x h0 h1 hL hl hS.p5.p5.p5) ?_
  rintro v H' ⟨rfl, d2, c2, g2, hL2, hS⟩
  simp only [ww, ↓D0, ↓D1, ↓D2, ↓D3, ↓D4, ↓D5, ↓D6, ↓D7, ↓D8, ↓D9, U0, U1, U2, U3, U4, U5, U6, U7, U8, U9, U10, ↓reduceIte, Nat.reduceAdd, Nat.reduceMul, Nat.reduceSub, Nat.reduceEqDiff, Nat.reduceBEq, Nat.reduceLeDiff, Nat.reduceLT, Int.reduceAdd, Int.reduceMul, Int.reduceSub, Int.reduceLT, Int.reduceLE, Int.reduceToNat, Int.reduceEq, Int.reduceNe, Int.reduceBEq, Int.reduceBNe, ne_eq, eq_self]
  exact ⟨d2, c2, g2, hL2, hS.p5.tail.p4.p4⟩
def mbox (q b : Nat) : Hp := sg q (.cells #[.pointer (some ⟨b, 0, none⟩)] 27 (0, 0))
def dbox (q : Nat) (dd cl at' wa x : Int) : Hp := sg q (.cells #[.int .i64 dd, .int .i64 cl, .int .i64 at', .int .u64 wa, .int .u64 x] 31 (0, 0))
def bbox (q : Nat) (t : Bool) : Hp := sg q (.cells #[.bool t] 4 (0, 0))
theorem e_wp1 (caps : Array Value) (w : World) : (callFunc 18 caps).run Try.prog w = .ok (.enter 18 caps) w := enter_run _ Try.func18 (by kernel_rfl) rfl caps w
variable {p q r y z : Nat}
theorem x_wp1 (ha : ¬ (0 ≤ at' ∧ at' < w.n)) (hS : Sep (wbox p b :: mbox q b' :: dbox r dd cl at' wa x :: bbox y false :: bbox z true :: wB b s w :: l) H) :
    CallX W 18 #[.pointer (some ⟨p, 0, none⟩), .pointer (some ⟨q, 0, none⟩), .pointer (some ⟨r, 0, none⟩), .pointer (some ⟨y, 0, none⟩), .pointer (some ⟨z, 0, none⟩)] H (fun H' => Sep (wbox p b :: mbox q b' :: dbox r dd cl at' wa x :: bbox y false :: bbox z true :: wB b s w :: l) H') := by
  intro u hu
  have h1 := hu.cell (show rd H p 0 = some (.pointer (some ⟨b, 0, none⟩)) by rw [rd_of (hS.lk 0 rfl)]; rfl)
  have h2 := hu.cell (show rd H q 0 = some (.pointer (some ⟨b', 0, none⟩)) by rw [rd_of (hS.lk 1 rfl)]; rfl)
  have h30 := hu.cell (show rd H r 0 = some (.int .i64 dd) by rw [rd_of (hS.lk 2 rfl)]; rfl)
  have h31 := hu.cell (show rd H r 1 = some (.int .i64 cl) by rw [rd_of (hS.lk 2 rfl)]; rfl)
  have h32 := hu.cell (show rd H r 2 = some (.int .i64 at') by rw [rd_of (hS.lk 2 rfl)]; rfl)
  have h33 := hu.cell (show rd H r 3 = some (.int .u64 wa) by rw [rd_of (hS.lk 2 rfl)]; rfl)
  have h34 := hu.cell (show rd H r 4 = some (.int .u64 x) by rw [rd_of (hS.lk 2 rfl)]; rfl)
  have h4 := hu.cell (show rd H y 0 = some (.bool false) by rw [rd_of (hS.lk 3 rfl)]; rfl)
  go_enter Try.func18, Try.ntmps18
  go_wp2_with (go_at_call 19; refine (x_act (b' := b') (dd := dd) (cl := cl) (at' := at') (wa := wa) (x := x) ha hS.p5 _ hu).mono ?_; rintro e u ⟨H', t, pv, rfl, hs, hS⟩)
  simp only [bodyPost]
  exact ⟨trivial, H', t, pv, rfl, hs, hS.r5⟩
theorem c_wp1 (h0 : 0 ≤ at') (h1 : at' < w.n) (hL : LogOk d cp w g) (hl : w.st + 1 ≤ 1000000000)
    (hS : Sep (wbox p b :: mbox q b' :: dbox r dd cl at' wa x :: bbox y true :: bbox z true :: wB b s w :: wR s w :: mB b' s' d cp w :: wR s' w :: g :: l) H) :
    CallP Try.prog W 18 #[.pointer (some ⟨p, 0, none⟩), .pointer (some ⟨q, 0, none⟩), .pointer (some ⟨r, 0, none⟩), .pointer (some ⟨y, 0, none⟩), .pointer (some ⟨z, 0, none⟩)] H fun v H' => v = .tuple #[] ∧
      ∃ d2 c2 g2, LogOk d2 c2 (actW w dd cl at' wa x) g2 ∧ Sep (wbox p b :: mbox q b' :: dbox r dd cl at' wa x :: bbox y true :: bbox z true :: wB b s (actW w dd cl at' wa x) :: wR s (actW w dd cl at' wa x) :: mB b' s' d2 c2 (actW w dd cl at' wa x) :: wR s' (actW w dd cl at' wa x) :: g2 :: l) H' := by
  refine CallP.of mixed Try.func18 tr18 (by show 5 ≤ _; decide) fun W _ => ?_
  have r1 := fun o => rd_of (hS.lk 0 rfl) o
  have r2 := fun o => rd_of (hS.lk 1 rfl) o
  have r3 := fun o n => rdn_of (hS.lk 2 rfl) o n
  have r4 := fun o => rd_of (hS.lk 3 rfl) o
  simp only [r1, r2, r3, r4, ↓D0, ↓D1, ↓D2, ↓D3, ↓D4, ↓D5, ↓D6, ↓D7, ↓D8, ↓D9, U0, U1, U2, U3, U4, U5, U6, U7, U8, U9, U10, ↓reduceIte, Nat.reduceAdd, Nat.reduceMul, Nat.reduceSub, Nat.reduceEqDiff, Nat.reduceBEq, Nat.reduceLeDiff, Nat.reduceLT, Int.reduceAdd, Int.reduceMul, Int.reduceSub, Int.reduceLT, Int.reduceLE, Int.reduceToNat, Int.reduceEq, Int.reduceNe, Int.reduceBEq, Int.reduceBNe, ne_eq, eq_self]
  refine callT_of (c_act h0 h1 hL hl hS.p9.p9.p9.p9.p9) ?_
  rintro v H' ⟨rfl, d2, c2, g2, hL2, hS⟩
  have hz1 := hS.lk 9 rfl
  have hS := hS.p9
  have hz1 := hS.look
  simp only [hz1, ↓D0, ↓D1, ↓D2, ↓D3, ↓D4, ↓D5, ↓D6, ↓D7, ↓D8, ↓D9, U0, U1, U2, U3, U4, U5, U6, U7, U8, U9, U10, ↓reduceIte, Nat.reduceAdd, Nat.reduceMul, Nat.reduceSub, Nat.reduceEqDiff, Nat.reduceBEq, Nat.reduceLeDiff, Nat.reduceLT, Int.reduceAdd, Int.reduceMul, Int.reduceSub, Int.reduceLT, Int.reduceLE, Int.reduceToNat, Int.reduceEq, Int.reduceNe, Int.reduceBEq, Int.reduceBNe, ne_eq, eq_self]
  exact ⟨d2, c2, g2, hL2, (hS.set _).p9.p9.p9.p9⟩
end
end Go.Proofs.Ytgpojkafebmpgaa
