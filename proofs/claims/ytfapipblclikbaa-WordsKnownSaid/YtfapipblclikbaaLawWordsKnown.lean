/-
  WordsKnown, walked: chapter 2's example; what is out of place panics, and is recovered. Conditions: none.
-/
import Derived.Test.YtfapipblclikbaaGuard
import Derived.Test.YtfapipblclikbaaFrame
set_option linter.unusedVariables false
set_option linter.unusedSimpArgs false
set_option maxRecDepth 8000
namespace Go.Proofs.Ytfapipblclikbaa
open Go Go.Ev Go.Pl Go.Ma

section
variable {W : World} {H : Hp} {l : List Hp} {x b s : Nat} {w : Wd}
def kbox (x b : Nat) : Hp := sg x (.cells #[.pointer (some ⟨b, 0, none⟩)] 24 (0, 0))

theorem x_out {a : Int} (ha : ¬ (0 ≤ a ∧ a < w.n)) (hS : Sep (wB b s w :: l) H) : CallX W 109 #[.pointer (some ⟨b, 0, none⟩), .int .i64 a] H (fun H' => Sep (wB b s w :: l) H') := by
  refine x_must ?_
  intro w hw
  refine (c_in a hS _ hw).mono ?_
  rintro e u ⟨v, H', rfl, hs, rfl, hS⟩
  refine ⟨_, H', rfl, hs, ?_, hS⟩
  rw [← Bool.decide_and, decide_eq_false ha]
theorem x_known1 (hn : w.n = 2) (hS : Sep (kbox x b :: wB b s w :: l) H) : CallX W 44 #[.pointer (some ⟨x, 0, none⟩)] H (fun H' => Sep (kbox x b :: wB b s w :: l) H') := by
  intro u hu
  have hr : rd H x 0 = some (.pointer (some ⟨b, 0, none⟩)) := by rw [rd_of hS.look]; rfl
  have hc := hu.cell hr
  go_enter Try.func44, Try.ntmps44
  go_wp2_with (go_at_call 31; refine (x_load (x_out (a := 2) (by omega) hS.p1) _ hu).mono ?_; rintro e u ⟨H', t, pv, rfl, hs, hS⟩)
  simp only [bodyPost]
  exact ⟨trivial, H', t, pv, rfl, hs, hS.p1⟩
theorem x_known2 (hS : Sep (kbox x b :: wB b s w :: l) H) : CallX W 45 #[.pointer (some ⟨x, 0, none⟩)] H (fun H' => Sep (kbox x b :: wB b s w :: l) H') := by
  intro u hu
  have hr : rd H x 0 = some (.pointer (some ⟨b, 0, none⟩)) := by rw [rd_of hS.look]; rfl
  have hc := hu.cell hr
  go_enter Try.func45, Try.ntmps45
  go_wp2_with (go_at_call 38; refine (x_store (x_out (a := -1) (by omega) hS.p1) _ hu).mono ?_; rintro e u ⟨H', t, pv, rfl, hs, hS⟩)
  simp only [bodyPost]
  exact ⟨trivial, H', t, pv, rfl, hs, hS.p1⟩
theorem c_known3 (hn : w.n = 2) (hS : Sep (kbox x b :: wB b s w :: wR s w :: l) H) : CallP Try.prog W 46 #[.pointer (some ⟨x, 0, none⟩)] H fun v H' => v = .tuple #[] ∧ Sep (kbox x b :: wB b s (w.store 3 0 9) :: wR s (w.store 3 0 9) :: l) H' := by
  refine CallP.of mixed Try.func46 tr46 (by show 1 ≤ _; decide) fun W _ => ?_
  have hr : rd H x 0 = some (.pointer (some ⟨b, 0, none⟩)) := by rw [rd_of hS.look]; rfl
  simp only [hr, ↓D0, ↓D1, ↓D2, ↓D3, ↓D4, ↓D5, ↓D6, ↓D7, ↓D8, ↓D9, U0, U1, U2, U3, U4, U5, U6, U7, U8, U9, U10, ↓reduceIte, Nat.reduceAdd, Nat.reduceMul, Nat.reduceSub, Nat.reduceEqDiff, Nat.reduceBEq, Nat.reduceLeDiff, Nat.reduceLT, Int.reduceAdd, Int.reduceMul, Int.reduceSub, Int.reduceLT, Int.reduceLE, Int.reduceToNat, Int.reduceEq, Int.reduceNe, Int.reduceBEq, Int.reduceBNe, ne_eq, eq_self]
  refine callT_of (c_store 3 0 9 (by omega) (by omega) hS.p2.p2) ?_
  rintro v H' ⟨rfl, hS⟩
  simp only [↓D0, ↓D1, ↓D2, ↓D3, ↓D4, ↓D5, ↓D6, ↓D7, ↓D8, ↓D9, U0, U1, U2, U3, U4, U5, U6, U7, U8, U9, U10, ↓reduceIte, Nat.reduceAdd, Nat.reduceMul, Nat.reduceSub, Nat.reduceEqDiff, Nat.reduceBEq, Nat.reduceLeDiff, Nat.reduceLT, Int.reduceAdd, Int.reduceMul, Int.reduceSub, Int.reduceLT, Int.reduceLE, Int.reduceToNat, Int.reduceEq, Int.reduceNe, Int.reduceBEq, Int.reduceBNe, ne_eq, eq_self]
  exact hS.p2
theorem CallX.mono {f : FuncId} {args : Array Value} {K K' : Hp → Prop} (h : CallX W f args H K) (hk : ∀ H', K H' → K' H') : CallX W f args H K' := by
  intro w hw
  refine (h w hw).mono ?_
  rintro e u ⟨H', t, pv, rfl, hs, hK⟩
  exact ⟨H', t, pv, rfl, hs, hk _ hK⟩
theorem e_k1 (caps : Array Value) (w : World) : (callFunc 44 caps).run Try.prog w = .ok (.enter 44 caps) w := enter_run _ Try.func44 (by kernel_rfl) rfl caps w
theorem e_k2 (caps : Array Value) (w : World) : (callFunc 45 caps).run Try.prog w = .ok (.enter 45 caps) w := enter_run _ Try.func45 (by kernel_rfl) rfl caps w
theorem e_k3 (caps : Array Value) (w : World) : (callFunc 46 caps).run Try.prog w = .ok (.enter 46 caps) w := enter_run _ Try.func46 (by kernel_rfl) rfl caps w
theorem c_wordsknown (hS : Sep l H) : CallP Try.prog W 6 #[] H fun v H' => v = .bool true ∧ Sep l H' := by
  refine CallP.of mixed Try.func6 tr6 (by show 0 ≤ _; decide) fun W _ => ?_
  simp only [↓D0, ↓D1, ↓D2, ↓D3, ↓D4, ↓D5, ↓D6, ↓D7, ↓D8, ↓D9, U0, U1, U2, U3, U4, U5, U6, U7, U8, U9, U10, ↓reduceIte, Nat.reduceAdd, Nat.reduceMul, Nat.reduceSub, Nat.reduceEqDiff, Nat.reduceBEq, Nat.reduceLeDiff, Nat.reduceLT, Int.reduceAdd, Int.reduceMul, Int.reduceSub, Int.reduceLT, Int.reduceLE, Int.reduceToNat, Int.reduceEq, Int.reduceNe, Int.reduceBEq, Int.reduceBNe, ne_eq, eq_self]
  refine callT_of (c_awake2 hS) ?_
  rintro v H' ⟨rfl, hS⟩
  simp only [↓D0, ↓D1, ↓D2, ↓D3, ↓D4, ↓D5, ↓D6, ↓D7, ↓D8, ↓D9, U0, U1, U2, U3, U4, U5, U6, U7, U8, U9, U10, ↓reduceIte, Nat.reduceAdd, Nat.reduceMul, Nat.reduceSub, Nat.reduceEqDiff, Nat.reduceBEq, Nat.reduceLeDiff, Nat.reduceLT, Int.reduceAdd, Int.reduceMul, Int.reduceSub, Int.reduceLT, Int.reduceLE, Int.reduceToNat, Int.reduceEq, Int.reduceNe, Int.reduceBEq, Int.reduceBNe, ne_eq, eq_self]
  refine callT_of (c_wnew 2 (by decide) hS) ?_
  rintro v H' ⟨b, s, rfl, hS⟩
  simp only [↓D0, ↓D1, ↓D2, ↓D3, ↓D4, ↓D5, ↓D6, ↓D7, ↓D8, ↓D9, U0, U1, U2, U3, U4, U5, U6, U7, U8, U9, U10, ↓reduceIte, Nat.reduceAdd, Nat.reduceMul, Nat.reduceSub, Nat.reduceEqDiff, Nat.reduceBEq, Nat.reduceLeDiff, Nat.reduceLT, Int.reduceAdd, Int.reduceMul, Int.reduceSub, Int.reduceLT, Int.reduceLE, Int.reduceToNat, Int.reduceEq, Int.reduceNe, Int.reduceBEq, Int.reduceBNe, ne_eq, eq_self]
  refine newB_intro fun x hx f1 f2 => ?_
  simp only [↓D0, ↓D1, ↓D2, ↓D3, ↓D4, ↓D5, ↓D6, ↓D7, ↓D8, ↓D9, U0, U1, U2, U3, U4, U5, U6, U7, U8, U9, U10, ↓reduceIte, Nat.reduceAdd, Nat.reduceMul, Nat.reduceSub, Nat.reduceEqDiff, Nat.reduceBEq, Nat.reduceLeDiff, Nat.reduceLT, Int.reduceAdd, Int.reduceMul, Int.reduceSub, Int.reduceLT, Int.reduceLE, Int.reduceToNat, Int.reduceEq, Int.reduceNe, Int.reduceBEq, Int.reduceBNe, ne_eq, eq_self]
  have hS := (hS.new f1 (.cells #[.pointer (some ⟨b, 0, none⟩)] 24 (0, 0)))
  refine callT_of (c_guard_pan (l' := kbox x b :: wB b s (Wd.zero 2) :: wR s (Wd.zero 2) :: l) (e_k1 _) hS fun y H1 hS => (x_known1 (w := Wd.zero 2) rfl hS.p1.p2.p1).mono fun H' hS => hS.p2) ?_
  rintro v H' ⟨rfl, hS⟩
  simp only [↓D0, ↓D1, ↓D2, ↓D3, ↓D4, ↓D5, ↓D6, ↓D7, ↓D8, ↓D9, U0, U1, U2, U3, U4, U5, U6, U7, U8, U9, U10, ↓reduceIte, Nat.reduceAdd, Nat.reduceMul, Nat.reduceSub, Nat.reduceEqDiff, Nat.reduceBEq, Nat.reduceLeDiff, Nat.reduceLT, Int.reduceAdd, Int.reduceMul, Int.reduceSub, Int.reduceLT, Int.reduceLE, Int.reduceToNat, Int.reduceEq, Int.reduceNe, Int.reduceBEq, Int.reduceBNe, ne_eq, eq_self]
  refine callT_of (c_guard_pan (l' := kbox x b :: wB b s (Wd.zero 2) :: wR s (Wd.zero 2) :: l) (e_k2 _) hS fun y H1 hS => (x_known2 (w := Wd.zero 2) hS.p1.p2.p1).mono fun H' hS => hS.p2) ?_
  rintro v H' ⟨rfl, hS⟩
  simp only [↓D0, ↓D1, ↓D2, ↓D3, ↓D4, ↓D5, ↓D6, ↓D7, ↓D8, ↓D9, U0, U1, U2, U3, U4, U5, U6, U7, U8, U9, U10, ↓reduceIte, Nat.reduceAdd, Nat.reduceMul, Nat.reduceSub, Nat.reduceEqDiff, Nat.reduceBEq, Nat.reduceLeDiff, Nat.reduceLT, Int.reduceAdd, Int.reduceMul, Int.reduceSub, Int.reduceLT, Int.reduceLE, Int.reduceToNat, Int.reduceEq, Int.reduceNe, Int.reduceBEq, Int.reduceBNe, ne_eq, eq_self]
  refine callT_of (c_guard_ret (l' := kbox x b :: wB b s ((Wd.zero 2).store 3 0 9) :: wR s ((Wd.zero 2).store 3 0 9) :: l) (e_k3 _) hS fun y H1 hS => (c_known3 (w := Wd.zero 2) rfl (hS.p3.p3.p3)).mono fun v H' ⟨h, hS⟩ => ⟨h, hS.p3⟩) ?_
  rintro v H' ⟨rfl, hS⟩
  simp only [↓D0, ↓D1, ↓D2, ↓D3, ↓D4, ↓D5, ↓D6, ↓D7, ↓D8, ↓D9, U0, U1, U2, U3, U4, U5, U6, U7, U8, U9, U10, ↓reduceIte, Nat.reduceAdd, Nat.reduceMul, Nat.reduceSub, Nat.reduceEqDiff, Nat.reduceBEq, Nat.reduceLeDiff, Nat.reduceLT, Int.reduceAdd, Int.reduceMul, Int.reduceSub, Int.reduceLT, Int.reduceLE, Int.reduceToNat, Int.reduceEq, Int.reduceNe, Int.reduceBEq, Int.reduceBNe, ne_eq, eq_self]
  refine callT_of (c_guard_nil hS) ?_
  rintro v H' ⟨rfl, hS⟩
  have hx1 := hS.look
  have rx := fun o => rd_of hx1 o
  have w0 : (2 : Nat) = ((Wd.zero 2).store 3 0 9).n := rfl
  have ha : ((Wd.zero 2).store 3 0 9).st = 1 := by decide
  have hlast : wlast ((Wd.zero 2).store 3 0 9) = #[.int .i64 3, .int .i64 1, .int .i64 0, .int .u64 0, .int .u64 9, .bool true] := by rfl
  have hl0 : ((Wd.zero 2).store 3 0 9).get 0 = 9 := by decide
  simp only [hx1, rx, ↓D0, ↓D1, ↓D2, ↓D3, ↓D4, ↓D5, ↓D6, ↓D7, ↓D8, ↓D9, U0, U1, U2, U3, U4, U5, U6, U7, U8, U9, U10, ↓reduceIte, Nat.reduceAdd, Nat.reduceMul, Nat.reduceSub, Nat.reduceEqDiff, Nat.reduceBEq, Nat.reduceLeDiff, Nat.reduceLT, Int.reduceAdd, Int.reduceMul, Int.reduceSub, Int.reduceLT, Int.reduceLE, Int.reduceToNat, Int.reduceEq, Int.reduceNe, Int.reduceBEq, Int.reduceBNe, ne_eq, eq_self]
  refine callT_of (c_last hS.p1) ?_
  rintro v H' ⟨rfl, hS⟩
  rw [hlast]
  have hx1 := hS.lk 1 rfl
  have rx := fun o => rd_of hx1 o
  simp only [↓D0, ↓D1, ↓D2, ↓D3, ↓D4, ↓D5, ↓D6, ↓D7, ↓D8, ↓D9, U0, U1, U2, U3, U4, U5, U6, U7, U8, U9, U10, ↓reduceIte, Nat.reduceAdd, Nat.reduceMul, Nat.reduceSub, Nat.reduceEqDiff, Nat.reduceBEq, Nat.reduceLeDiff, Nat.reduceLT, Int.reduceAdd, Int.reduceMul, Int.reduceSub, Int.reduceLT, Int.reduceLE, Int.reduceToNat, Int.reduceEq, Int.reduceNe, Int.reduceBEq, Int.reduceBNe, ne_eq, eq_self]
  refine newB_intro fun y hy f3 f4 => ?_
  have nxy : (x = y) = False := f3 x (by rw [hx1]; rfl)
  have nyx : (y = x) = False := f4 x (by rw [hx1]; rfl)
  have hS := hS.new f3 (.cells #[.int .i64 0, .int .i64 0, .int .i64 0, .int .u64 0, .int .u64 0, .bool false] 41 (0, 0))
  have hS := hS.set (.cells #[.int .i64 3, .int .i64 1, .int .i64 0, .int .u64 0, .int .u64 9, .bool true] 41 (0, 0))
  rw [Ev.upd_upd] at hS
  have hy1 := hS.look
  have hx1 := hS.lk 2 rfl
  have ry := fun o => rd_of hy1 o
  have rx := fun o => rd_of hx1 o
  simp only [hx1, rx, hy1, ry, nxy, nyx, Ev.upd_upd, ↓D0, ↓D1, ↓D2, ↓D3, ↓D4, ↓D5, ↓D6, ↓D7, ↓D8, ↓D9, U0, U1, U2, U3, U4, U5, U6, U7, U8, U9, U10, ↓reduceIte, Nat.reduceAdd, Nat.reduceMul, Nat.reduceSub, Nat.reduceEqDiff, Nat.reduceBEq, Nat.reduceLeDiff, Nat.reduceLT, Int.reduceAdd, Int.reduceMul, Int.reduceSub, Int.reduceLT, Int.reduceLE, Int.reduceToNat, Int.reduceEq, Int.reduceNe, Int.reduceBEq, Int.reduceBNe, ne_eq, eq_self]
  refine callT_of (c_steps hS.p1) ?_
  rintro v H' ⟨rfl, hS⟩
  have hy1 := hS.lk 1 rfl
  have hx1 := hS.lk 2 rfl
  have ry := fun o => rd_of hy1 o
  have rx := fun o => rd_of hx1 o
  simp only [ha, hx1, rx, hy1, ry, nxy, nyx, Ev.upd_upd, ↓D0, ↓D1, ↓D2, ↓D3, ↓D4, ↓D5, ↓D6, ↓D7, ↓D8, ↓D9, U0, U1, U2, U3, U4, U5, U6, U7, U8, U9, U10, ↓reduceIte, Nat.reduceAdd, Nat.reduceMul, Nat.reduceSub, Nat.reduceEqDiff, Nat.reduceBEq, Nat.reduceLeDiff, Nat.reduceLT, Int.reduceAdd, Int.reduceMul, Int.reduceSub, Int.reduceLT, Int.reduceLE, Int.reduceToNat, Int.reduceEq, Int.reduceNe, Int.reduceBEq, Int.reduceBNe, ne_eq, eq_self]
  refine callT_of (c_look 0 (by decide) (by decide) hS.p3.p1) ?_
  rintro v H' ⟨rfl, hS⟩
  have hy1 := hS.lk 2 rfl
  have hx1 := hS.lk 3 rfl
  have ry := fun o => rd_of hy1 o
  have rx := fun o => rd_of hx1 o
  simp only [hl0, hx1, rx, hy1, ry, nxy, nyx, Ev.upd_upd, ↓D0, ↓D1, ↓D2, ↓D3, ↓D4, ↓D5, ↓D6, ↓D7, ↓D8, ↓D9, U0, U1, U2, U3, U4, U5, U6, U7, U8, U9, U10, ↓reduceIte, Nat.reduceAdd, Nat.reduceMul, Nat.reduceSub, Nat.reduceEqDiff, Nat.reduceBEq, Nat.reduceLeDiff, Nat.reduceLT, Int.reduceAdd, Int.reduceMul, Int.reduceSub, Int.reduceLT, Int.reduceLE, Int.reduceToNat, Int.reduceEq, Int.reduceNe, Int.reduceBEq, Int.reduceBNe, ne_eq, eq_self]
  refine callT_of (c_look_no 7 (by decide) hS) ?_
  rintro v H' ⟨rfl, hS⟩
  have hy1 := hS.lk 2 rfl
  have hx1 := hS.lk 3 rfl
  have ry := fun o => rd_of hy1 o
  have rx := fun o => rd_of hx1 o
  simp only [hx1, rx, hy1, ry, nxy, nyx, Ev.upd_upd, ↓D0, ↓D1, ↓D2, ↓D3, ↓D4, ↓D5, ↓D6, ↓D7, ↓D8, ↓D9, U0, U1, U2, U3, U4, U5, U6, U7, U8, U9, U10, ↓reduceIte, Nat.reduceAdd, Nat.reduceMul, Nat.reduceSub, Nat.reduceEqDiff, Nat.reduceBEq, Nat.reduceLeDiff, Nat.reduceLT, Int.reduceAdd, Int.reduceMul, Int.reduceSub, Int.reduceLT, Int.reduceLE, Int.reduceToNat, Int.reduceEq, Int.reduceNe, Int.reduceBEq, Int.reduceBNe, ne_eq, eq_self]
  refine callT_of (c_put_no 2 1 (by decide) hS) ?_
  rintro v H' ⟨rfl, hS⟩
  simp only [↓D0, ↓D1, ↓D2, ↓D3, ↓D4, ↓D5, ↓D6, ↓D7, ↓D8, ↓D9, U0, U1, U2, U3, U4, U5, U6, U7, U8, U9, U10, ↓reduceIte, Nat.reduceAdd, Nat.reduceMul, Nat.reduceSub, Nat.reduceEqDiff, Nat.reduceBEq, Nat.reduceLeDiff, Nat.reduceLT, Int.reduceAdd, Int.reduceMul, Int.reduceSub, Int.reduceLT, Int.reduceLE, Int.reduceToNat, Int.reduceEq, Int.reduceNe, Int.reduceBEq, Int.reduceBNe, ne_eq, eq_self]
  refine callT_of (c_wnew_no (-1) (by decide) hS) ?_
  rintro v H' ⟨b2, s2, rfl, hS⟩
  simp only [↓D0, ↓D1, ↓D2, ↓D3, ↓D4, ↓D5, ↓D6, ↓D7, ↓D8, ↓D9, U0, U1, U2, U3, U4, U5, U6, U7, U8, U9, U10, ↓reduceIte, Nat.reduceAdd, Nat.reduceMul, Nat.reduceSub, Nat.reduceEqDiff, Nat.reduceBEq, Nat.reduceLeDiff, Nat.reduceLT, Int.reduceAdd, Int.reduceMul, Int.reduceSub, Int.reduceLT, Int.reduceLE, Int.reduceToNat, Int.reduceEq, Int.reduceNe, Int.reduceBEq, Int.reduceBNe, ne_eq, eq_self]
  refine callT_of (c_len hS) ?_
  rintro v H' ⟨rfl, hS⟩
  simp only [↓D0, ↓D1, ↓D2, ↓D3, ↓D4, ↓D5, ↓D6, ↓D7, ↓D8, ↓D9, U0, U1, U2, U3, U4, U5, U6, U7, U8, U9, U10, ↓reduceIte, Nat.reduceAdd, Nat.reduceMul, Nat.reduceSub, Nat.reduceEqDiff, Nat.reduceBEq, Nat.reduceLeDiff, Nat.reduceLT, Int.reduceAdd, Int.reduceMul, Int.reduceSub, Int.reduceLT, Int.reduceLE, Int.reduceToNat, Int.reduceEq, Int.reduceNe, Int.reduceBEq, Int.reduceBNe, ne_eq, eq_self]
  exact ⟨by rfl, hS.tail.tail.tail.tail.tail.tail⟩
end
theorem l_wordsknown {W : World} : CallP Try.prog W 6 #[] (memOf W) fun v H' => v = .bool true ∧ Sub (memOf W) H' :=
  (c_wordsknown (Sep.one _)).mono fun v H' ⟨h1, h2⟩ => ⟨h1, h2.head⟩
end Go.Proofs.Ytfapipblclikbaa
