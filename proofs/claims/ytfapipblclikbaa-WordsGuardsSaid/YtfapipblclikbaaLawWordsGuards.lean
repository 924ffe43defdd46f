/-
  WordsGuards, walked: whatever panics in what is guarded is recovered, how deep; what was done ahead of it stays done. Conditions: none.
-/
import Derived.Test.YtfapipblclikbaaGuardB
import Derived.Test.YtfapipblclikbaaFrame
set_option linter.unusedVariables false
set_option linter.unusedSimpArgs false
set_option maxRecDepth 8000
namespace Go.Proofs.Ytfapipblclikbaa
open Go Go.Ev Go.Pl Go.Ma

section
variable {W : World} {H : Hp} {l : List Hp} {x y z b s : Nat} {w : Wd}
def ibox (x : Nat) (a : Int) : Hp := sg x (.cells #[.int .i64 a] 3 (0, 0))
def nbox (x : Nat) : Hp := sg x (.cells #[.pointer none] 24 (0, 0))
def sbox (x : Nat) (t : ByteArray) : Hp := sg x (.cells #[.string t] 9 (0, 0))
theorem e_g1 (caps : Array Value) (w : World) : (callFunc 35 caps).run Try.prog w = .ok (.enter 35 caps) w := enter_run _ Try.func35 (by kernel_rfl) rfl caps w
theorem e_g11 (caps : Array Value) (w : World) : (callFunc 37 caps).run Try.prog w = .ok (.enter 37 caps) w := enter_run _ Try.func37 (by kernel_rfl) rfl caps w
theorem e_g2 (caps : Array Value) (w : World) : (callFunc 39 caps).run Try.prog w = .ok (.enter 39 caps) w := enter_run _ Try.func39 (by kernel_rfl) rfl caps w
theorem e_g3 (caps : Array Value) (w : World) : (callFunc 40 caps).run Try.prog w = .ok (.enter 40 caps) w := enter_run _ Try.func40 (by kernel_rfl) rfl caps w
theorem x_g2 (hS : Sep (nbox x :: l) H) : CallX W 39 #[.pointer (some ⟨x, 0, none⟩)] H (fun H' => Sep (nbox x :: l) H') := by
  intro u hu
  have hr : rd H x 0 = some (.pointer none) := by rw [rd_of hS.look]; rfl
  have hc := hu.cell hr
  go_enter Try.func39, Try.ntmps39
  go_wp2_with (go_at_call 31; refine (x_load (m_nil 0 hS) _ hu).mono ?_; rintro e u ⟨H', t, pv, rfl, hs, hS⟩)
  simp only [bodyPost]
  exact ⟨trivial, H', t, pv, rfl, hs, hS⟩
set_option maxHeartbeats 1000000 in
theorem x_g3 {t : ByteArray} (hS : Sep (sbox x t :: l) H) : CallX W 40 #[.pointer (some ⟨x, 0, none⟩)] H (fun H' => Sep (sbox x t :: l) H') := by
  intro u hu
  have hr : rd H x 0 = some (.string t) := by rw [rd_of hS.look]; rfl
  have hc := hu.cell hr
  go_enter Try.func40, Try.ntmps40
  refine wp_region_any (by kernel_rfl) ?_
  refine wpAny_ready (rs := [0, 1]) (by kernel_rfl) (by simp) ?_
  refine AllReady.cons rfl (fun K hK => ?_) (AllReady.cons rfl (fun K hK => ?_) AllReady.nil)
  · go_simp
    go_wp2_with (go_at_call 29; refine (c_wnew 0 (by decide) hS _ (hu.drew _)).mono ?_; rintro e u ⟨v, H', rfl, hs, ⟨b, s, rfl, hS⟩⟩; have hc := hs.cell (show rd H' x 0 = some (.string t) by rw [rd_of (hS.lk 2 rfl)]; rfl))
    refine wpAny_ready (rs := [1]) (by kernel_rfl) (by simp) ?_
    refine AllReady.cons rfl (fun K hK => ?_) AllReady.nil
    go_simp
    refine hK _ _ ?_
    clear hK K
    refine wpAny_ready (rs := [2]) (by kernel_rfl) (by simp) ?_
    refine AllReady.cons rfl (fun K hK => ?_) AllReady.nil
    go_simp
    refine hK _ _ ?_
    clear hK K
    refine wpAny_ready (rs := [3]) (by kernel_rfl) (by simp) ?_
    refine AllReady.cons rfl (fun K hK => ?_) AllReady.nil
    go_simp
    go_at_call 31
    refine (x_load (m_out (a := (t.size : Int)) (by show ¬ (0 ≤ (t.size : Int) ∧ (t.size : Int) < 0); omega) hS) _ hs).mono ?_
    rintro e u ⟨H3, t3, pv, rfl, hs, hS⟩
    simp only [bodyPost]
    exact ⟨trivial, ⟨_, _, rfl⟩, H3, hs, hS.tail.tail⟩
  · go_simp
    refine hK _ _ ?_
    clear hK K
    refine wpAny_ready (rs := [0, 2]) (by kernel_rfl) (by simp) ?_
    refine AllReady.cons rfl (fun K hK => ?_) (AllReady.cons rfl (fun K hK => ?_) AllReady.nil)
    · go_simp
      go_wp2_with (go_at_call 29; refine (c_wnew 0 (by decide) hS _ (hu.drew _)).mono ?_; rintro e u ⟨v, H', rfl, hs, ⟨b, s, rfl, hS⟩⟩; have hc := hs.cell (show rd H' x 0 = some (.string t) by rw [rd_of (hS.lk 2 rfl)]; rfl))
      refine wpAny_ready (rs := [2]) (by kernel_rfl) (by simp) ?_
      refine AllReady.cons rfl (fun K hK => ?_) AllReady.nil
      go_simp
      refine hK _ _ ?_
      clear hK K
      refine wpAny_ready (rs := [3]) (by kernel_rfl) (by simp) ?_
      refine AllReady.cons rfl (fun K hK => ?_) AllReady.nil
      go_simp
      go_at_call 31
      refine (x_load (m_out (a := (t.size : Int)) (by show ¬ (0 ≤ (t.size : Int) ∧ (t.size : Int) < 0); omega) hS) _ hs).mono ?_
      rintro e u ⟨H3, t3, pv, rfl, hs, hS⟩
      simp only [bodyPost]
      exact ⟨trivial, ⟨_, _, rfl⟩, H3, hs, hS.tail.tail⟩
    · go_simp
      refine hK _ _ ?_
      clear hK K
      refine wpAny_ready (rs := [0]) (by kernel_rfl) (by simp) ?_
      refine AllReady.cons rfl (fun K hK => ?_) AllReady.nil
      go_simp
      go_wp2_with (go_at_call 29; refine (c_wnew 0 (by decide) hS _ (hu.drew _)).mono ?_; rintro e u ⟨v, H', rfl, hs, ⟨b, s, rfl, hS⟩⟩; have hc := hs.cell (show rd H' x 0 = some (.string t) by rw [rd_of (hS.lk 2 rfl)]; rfl))
      refine wpAny_ready (rs := [3]) (by kernel_rfl) (by simp) ?_
      refine AllReady.cons rfl (fun K hK => ?_) AllReady.nil
      go_simp
      go_at_call 31
      refine (x_load (m_out (a := (t.size : Int)) (by show ¬ (0 ≤ (t.size : Int) ∧ (t.size : Int) < 0); omega) hS) _ hs).mono ?_
      rintro e u ⟨H3, t3, pv, rfl, hs, hS⟩
      simp only [bodyPost]
      exact ⟨trivial, ⟨_, _, rfl⟩, H3, hs, hS.tail.tail⟩
theorem x_g11 {a : Int} (hn : w.n = 4) (ha : ¬ (0 ≤ a ∧ a < 4)) (hS : Sep (wbox x b :: ibox y a :: wB b s w :: wR s w :: l) H) :
    CallX W 37 #[.pointer (some ⟨x, 0, none⟩), .pointer (some ⟨y, 0, none⟩)] H (fun H' => Sep (wbox x b :: ibox y a :: wB b s (w.store 1 2 7) :: wR s (w.store 1 2 7) :: l) H') := by
  intro u hu
  have hr : rd H x 0 = some (.pointer (some ⟨b, 0, none⟩)) := by rw [rd_of hS.look]; rfl
  have hc := hu.cell hr
  have hn2 : (w.store 1 2 7).n = 4 := hn
  go_enter Try.func37, Try.ntmps37
  go_wp2_with (first | (go_at_call 38; refine (c_store 1 2 7 (by omega) (by omega) hS.p3.p3 _ hu).mono ?_; rintro e u ⟨v, H', rfl, hs, ⟨rfl, hS⟩⟩; have hc1 := hs.cell (show rd H' x 0 = some (.pointer (some ⟨b, 0, none⟩)) by rw [rd_of (hS.lk 2 rfl)]; rfl); have hc2 := hs.cell (show rd H' y 0 = some (.int .i64 a) by rw [rd_of (hS.lk 3 rfl)]; rfl)) | (go_at_call 31; refine (x_load (m_out (a := a) (by omega) hS) _ hs).mono ?_; rintro e u ⟨H', t, pv, rfl, hs, hS⟩))
  simp only [bodyPost]
  exact ⟨trivial, H', t, pv, rfl, hs, hS.p3.p3⟩
theorem c_g11 {a : Int} (hn : w.n = 4) (ha : 0 ≤ a ∧ a < 4) (hS : Sep (wbox x b :: ibox y a :: wB b s w :: wR s w :: l) H) :
    CallP Try.prog W 37 #[.pointer (some ⟨x, 0, none⟩), .pointer (some ⟨y, 0, none⟩)] H fun v H' => v = .tuple #[] ∧ Sep (wbox x b :: ibox y a :: wB b s ((w.store 1 2 7).load 1 a) :: wR s ((w.store 1 2 7).load 1 a) :: l) H' := by
  refine CallP.of mixed Try.func37 tr37 (by show 2 ≤ _; decide) fun W _ => ?_
  have hx1 := hS.look
  have rx := fun o => rd_of hx1 o
  have hn2 : (w.store 1 2 7).n = 4 := hn
  simp only [hx1, rx, ↓D0, ↓D1, ↓D2, ↓D3, ↓D4, ↓D5, ↓D6, ↓D7, ↓D8, ↓D9, U0, U1, U2, U3, U4, U5, U6, U7, U8, U9, U10, ↓reduceIte, Nat.reduceAdd, Nat.reduceMul, Nat.reduceSub, Nat.reduceEqDiff, Nat.reduceBEq, Nat.reduceLeDiff, Nat.reduceLT, Int.reduceAdd, Int.reduceMul, Int.reduceSub, Int.reduceLT, Int.reduceLE, Int.reduceToNat, Int.reduceEq, Int.reduceNe, Int.reduceBEq, Int.reduceBNe, ne_eq, eq_self]
  refine callT_of (c_store 1 2 7 (by omega) (by omega) hS.p3.p3) ?_
  rintro v H' ⟨rfl, hS⟩
  have hx1 := hS.lk 2 rfl
  have rx := fun o => rd_of hx1 o
  have hy1 := hS.lk 3 rfl
  have ry := fun o => rd_of hy1 o
  simp only [hx1, rx, hy1, ry, ↓D0, ↓D1, ↓D2, ↓D3, ↓D4, ↓D5, ↓D6, ↓D7, ↓D8, ↓D9, U0, U1, U2, U3, U4, U5, U6, U7, U8, U9, U10, ↓reduceIte, Nat.reduceAdd, Nat.reduceMul, Nat.reduceSub, Nat.reduceEqDiff, Nat.reduceBEq, Nat.reduceLeDiff, Nat.reduceLT, Int.reduceAdd, Int.reduceMul, Int.reduceSub, Int.reduceLT, Int.reduceLE, Int.reduceToNat, Int.reduceEq, Int.reduceNe, Int.reduceBEq, Int.reduceBNe, ne_eq, eq_self]
  refine callT_of (c_load 1 a ha.1 (by rw [hn2]; omega) hS) ?_
  rintro v H' ⟨rfl, hS⟩
  simp only [↓D0, ↓D1, ↓D2, ↓D3, ↓D4, ↓D5, ↓D6, ↓D7, ↓D8, ↓D9, U0, U1, U2, U3, U4, U5, U6, U7, U8, U9, U10, ↓reduceIte, Nat.reduceAdd, Nat.reduceMul, Nat.reduceSub, Nat.reduceEqDiff, Nat.reduceBEq, Nat.reduceLeDiff, Nat.reduceLT, Int.reduceAdd, Int.reduceMul, Int.reduceSub, Int.reduceLT, Int.reduceLE, Int.reduceToNat, Int.reduceEq, Int.reduceNe, Int.reduceBEq, Int.reduceBNe, ne_eq, eq_self]
  exact hS.p3.p3
/-- So often one more in word 1. -/
def gAdd : Nat → Wd → Wd
  | 0, w => w
  | k + 1, w => (gAdd k w).add 0 1 1
theorem gAdd_n (k : Nat) (w : Wd) : (gAdd k w).n = w.n := by
  induction k with
  | zero => rfl
  | succ k ih => exact ih
theorem gAdd_ws (k : Nat) (w : Wd) (j : Nat) (hj : j ≠ 1) : (gAdd k w).ws j = w.ws j := by
  induction k with
  | zero => rfl
  | succ k ih =>
    show (if j = (1 : Int).toNat then _ else (gAdd k w).ws j) = _
    rw [if_neg (by simpa using hj), ih]
theorem gAdd_one (k : Nat) (hk : k ≤ 20) : (gAdd k (Wd.zero 4)).ws 1 = k := by
  induction k with
  | zero => rfl
  | succ k ih =>
    show wu ((gAdd k (Wd.zero 4)).ws 1 + 1) = _
    rw [ih (by omega), wu_eq (by omega) (by omega)]
    omega
/-- What is there behind it all. -/
def gEnd (k : Nat) (a : Int) : Wd := if 0 ≤ a ∧ a < 4 then ((gAdd k (Wd.zero 4)).store 1 2 7).load 1 a else ((gAdd k (Wd.zero 4)).store 1 2 7).store 1 3 9
def gI (p x y b s k : Nat) (a : Int) (l : List Hp) (F' : Fr) (H' : Hp) : Prop :=
  ∃ i : Nat, i ≤ k ∧ gt F' 3 = .int .i64 (i : Int) ∧ gt F' 0 = .pointer (some ⟨p, 0, none⟩) ∧ gt F' 1 = .pointer (some ⟨x, 0, none⟩) ∧ gt F' 2 = .pointer (some ⟨y, 0, none⟩) ∧
    Sep (ibox p k :: wbox x b :: ibox y a :: wB b s (gAdd i (Wd.zero 4)) :: wR s (gAdd i (Wd.zero 4)) :: l) H'
theorem c_g1 {p k : Nat} {a : Int} (hk : k ≤ 20) (hS : Sep (ibox p k :: wbox x b :: ibox y a :: wB b s (Wd.zero 4) :: wR s (Wd.zero 4) :: l) H) :
    CallP Try.prog W 35 #[.pointer (some ⟨p, 0, none⟩), .pointer (some ⟨x, 0, none⟩), .pointer (some ⟨y, 0, none⟩)] H fun v H' => v = .tuple #[] ∧ Sep (ibox p k :: wbox x b :: ibox y a :: wB b s (gEnd k a) :: wR s (gEnd k a) :: l) H' := by
  refine CallP.of mixed Try.func35 tr35 (by show 3 ≤ _; decide) fun W _ => ?_
  simp only [↓D0, ↓D1, ↓D2, ↓D3, ↓D4, ↓D5, ↓D6, ↓D7, ↓D8, ↓D9, U0, U1, U2, U3, U4, U5, U6, U7, U8, U9, U10, ↓reduceIte, Nat.reduceAdd, Nat.reduceMul, Nat.reduceSub, Nat.reduceEqDiff, Nat.reduceBEq, Nat.reduceLeDiff, Nat.reduceLT, Int.reduceAdd, Int.reduceMul, Int.reduceSub, Int.reduceLT, Int.reduceLE, Int.reduceToNat, Int.reduceEq, Int.reduceNe, Int.reduceBEq, Int.reduceBNe, ne_eq, eq_self]
  refine loop_intro (gI p x y b s k a l) (fun F' _ => (k - iv (gt F' 3)).toNat) ⟨0, Nat.zero_le _, rfl, rfl, rfl, rfl, hS⟩ ?_
  rintro F' H' ⟨i, hi, g3, g0, g1, g2, hS⟩
  have hp1 := hS.look
  have rp := fun o => rd_of hp1 o
  have hx1 := hS.lk 1 rfl
  have rx := fun o => rd_of hx1 o
  by_cases hlt : i < k
  · have d1 : decide ((i : Int) < (k : Int)) = true := decide_eq_true (by omega)
    have w1 : w64 ((i : Int) + 1) = ((i + 1 : Nat) : Int) := by rw [w64_eq (by omega) (by omega)]; omega
    have hn := gAdd_n i (Wd.zero 4)
    simp only [g0, g1, g2, g3, hp1, rp, hx1, rx, d1, ↓D0, ↓D1, ↓D2, ↓D3, ↓D4, ↓D5, ↓D6, ↓D7, ↓D8, ↓D9, U0, U1, U2, U3, U4, U5, U6, U7, U8, U9, U10, ↓reduceIte, Nat.reduceAdd, Nat.reduceMul, Nat.reduceSub, Nat.reduceEqDiff, Nat.reduceBEq, Nat.reduceLeDiff, Nat.reduceLT, Int.reduceAdd, Int.reduceMul, Int.reduceSub, Int.reduceLT, Int.reduceLE, Int.reduceToNat, Int.reduceEq, Int.reduceNe, Int.reduceBEq, Int.reduceBNe, ne_eq, eq_self]
    refine callT_of (c_add 0 1 1 (by decide) (by rw [hn]; decide) hS.p4.p4) ?_
    rintro v H' ⟨rfl, hS⟩
    simp only [g0, g1, g2, g3, wrap_w64, w1, ↓D0, ↓D1, ↓D2, ↓D3, ↓D4, ↓D5, ↓D6, ↓D7, ↓D8, ↓D9, U0, U1, U2, U3, U4, U5, U6, U7, U8, U9, U10, ↓reduceIte, Nat.reduceAdd, Nat.reduceMul, Nat.reduceSub, Nat.reduceEqDiff, Nat.reduceBEq, Nat.reduceLeDiff, Nat.reduceLT, Int.reduceAdd, Int.reduceMul, Int.reduceSub, Int.reduceLT, Int.reduceLE, Int.reduceToNat, Int.reduceEq, Int.reduceNe, Int.reduceBEq, Int.reduceBNe, ne_eq, eq_self]
    exact ⟨⟨i + 1, by omega, rfl, by simp [gt, g0], by simp [gt, g1], by simp [gt, g2], hS.p4.p4.p4⟩, by simp [gt, iv, g3]; omega⟩
  have hik : i = k := by omega
  cases hik
  have d1 : decide ((k : Int) < (k : Int)) = false := decide_eq_false (by omega)
  have hn := gAdd_n k (Wd.zero 4)
  simp only [g0, g1, g2, g3, hp1, rp, hx1, rx, d1, ↓D0, ↓D1, ↓D2, ↓D3, ↓D4, ↓D5, ↓D6, ↓D7, ↓D8, ↓D9, U0, U1, U2, U3, U4, U5, U6, U7, U8, U9, U10, ↓reduceIte, Nat.reduceAdd, Nat.reduceMul, Nat.reduceSub, Nat.reduceEqDiff, Nat.reduceBEq, Nat.reduceLeDiff, Nat.reduceLT, Int.reduceAdd, Int.reduceMul, Int.reduceSub, Int.reduceLT, Int.reduceLE, Int.reduceToNat, Int.reduceEq, Int.reduceNe, Int.reduceBEq, Int.reduceBNe, ne_eq, eq_self]
  by_cases ha : 0 ≤ a ∧ a < 4
  · have he : gEnd k a = ((gAdd k (Wd.zero 4)).store 1 2 7).load 1 a := if_pos ha
    rw [he]
    refine callT_of (c_guard_ret (l' := ibox p k :: wbox x b :: ibox y a :: wB b s (((gAdd k (Wd.zero 4)).store 1 2 7).load 1 a) :: wR s (((gAdd k (Wd.zero 4)).store 1 2 7).load 1 a) :: l) (e_g11 _) hS fun z H1 hS => (c_g11 hn ha (hS.p5.p5.p5.p5)).mono fun v H' ⟨h, hS⟩ => ⟨h, hS.p5.p5⟩) ?_
    rintro v H' ⟨rfl, hS⟩
    simp only [↓D0, ↓D1, ↓D2, ↓D3, ↓D4, ↓D5, ↓D6, ↓D7, ↓D8, ↓D9, U0, U1, U2, U3, U4, U5, U6, U7, U8, U9, U10, ↓reduceIte, Nat.reduceAdd, Nat.reduceMul, Nat.reduceSub, Nat.reduceEqDiff, Nat.reduceBEq, Nat.reduceLeDiff, Nat.reduceLT, Int.reduceAdd, Int.reduceMul, Int.reduceSub, Int.reduceLT, Int.reduceLE, Int.reduceToNat, Int.reduceEq, Int.reduceNe, Int.reduceBEq, Int.reduceBNe, ne_eq, eq_self]
    exact hS
  · have he : gEnd k a = ((gAdd k (Wd.zero 4)).store 1 2 7).store 1 3 9 := if_neg ha
    rw [he]
    refine callT_of (c_guard_pan (l' := ibox p k :: wbox x b :: ibox y a :: wB b s ((gAdd k (Wd.zero 4)).store 1 2 7) :: wR s ((gAdd k (Wd.zero 4)).store 1 2 7) :: l) (e_g11 _) hS fun z H1 hS => (x_g11 hn ha (hS.p5.p5.p5.p5)).mono fun H' hS => hS.p5.p5) ?_
    rintro v H' ⟨rfl, hS⟩
    have hx1 := hS.lk 1 rfl
    have rx := fun o => rd_of hx1 o
    have hn2 : ((gAdd k (Wd.zero 4)).store 1 2 7).n = 4 := hn
    simp only [g0, g1, g2, g3, hx1, rx, ↓D0, ↓D1, ↓D2, ↓D3, ↓D4, ↓D5, ↓D6, ↓D7, ↓D8, ↓D9, U0, U1, U2, U3, U4, U5, U6, U7, U8, U9, U10, ↓reduceIte, Nat.reduceAdd, Nat.reduceMul, Nat.reduceSub, Nat.reduceEqDiff, Nat.reduceBEq, Nat.reduceLeDiff, Nat.reduceLT, Int.reduceAdd, Int.reduceMul, Int.reduceSub, Int.reduceLT, Int.reduceLE, Int.reduceToNat, Int.reduceEq, Int.reduceNe, Int.reduceBEq, Int.reduceBNe, ne_eq, eq_self]
    refine callT_of (c_store 1 3 9 (by omega) (by omega) hS.p4.p4) ?_
    rintro v H' ⟨rfl, hS⟩
    simp only [↓D0, ↓D1, ↓D2, ↓D3, ↓D4, ↓D5, ↓D6, ↓D7, ↓D8, ↓D9, U0, U1, U2, U3, U4, U5, U6, U7, U8, U9, U10, ↓reduceIte, Nat.reduceAdd, Nat.reduceMul, Nat.reduceSub, Nat.reduceEqDiff, Nat.reduceBEq, Nat.reduceLeDiff, Nat.reduceLT, Int.reduceAdd, Int.reduceMul, Int.reduceSub, Int.reduceLT, Int.reduceLE, Int.reduceToNat, Int.reduceEq, Int.reduceNe, Int.reduceBEq, Int.reduceBNe, ne_eq, eq_self]
    exact hS.p4.p4.p4
theorem gEnd_n (k : Nat) (a : Int) : (gEnd k a).n = 4 := by
  unfold gEnd
  split <;> exact gAdd_n k _
theorem gEnd_1 (k : Nat) (hk : k ≤ 20) (a : Int) : (gEnd k a).ws 1 = k := by
  unfold gEnd
  split <;> exact gAdd_one k hk
theorem gEnd_2 (k : Nat) (a : Int) : (gEnd k a).ws 2 = 7 := by
  unfold gEnd
  split <;> rfl
theorem gEnd_3 (k : Nat) (a : Int) : (gEnd k a).ws 3 = if 0 ≤ a ∧ a < 4 then 0 else 9 := by
  unfold gEnd
  split
  · exact gAdd_ws k _ 3 (by decide)
  · rfl
theorem c_wordsguards {n a : Int} {t : ByteArray} (hn : 0 ≤ n ∧ n ≤ 255) (hS : Sep l H) :
    CallP Try.prog W 4 #[.int .u8 n, .int .i64 a, .string t] H fun v H' => v = .bool true ∧ Sep l H' := by
  refine CallP.of mixed Try.func4 tr4 (by show 3 ≤ _; decide) fun W _ => ?_
  simp only [↓D0, ↓D1, ↓D2, ↓D3, ↓D4, ↓D5, ↓D6, ↓D7, ↓D8, ↓D9, U0, U1, U2, U3, U4, U5, U6, U7, U8, U9, U10, ↓reduceIte, Nat.reduceAdd, Nat.reduceMul, Nat.reduceSub, Nat.reduceEqDiff, Nat.reduceBEq, Nat.reduceLeDiff, Nat.reduceLT, Int.reduceAdd, Int.reduceMul, Int.reduceSub, Int.reduceLT, Int.reduceLE, Int.reduceToNat, Int.reduceEq, Int.reduceNe, Int.reduceBEq, Int.reduceBNe, ne_eq, eq_self]
  refine newB_intro fun y hy f1 f2 => ?_
  have hS := hS.new f1 (.cells #[.int .i64 a] 3 (0, 0))
  simp only [↓D0, ↓D1, ↓D2, ↓D3, ↓D4, ↓D5, ↓D6, ↓D7, ↓D8, ↓D9, U0, U1, U2, U3, U4, U5, U6, U7, U8, U9, U10, ↓reduceIte, Nat.reduceAdd, Nat.reduceMul, Nat.reduceSub, Nat.reduceEqDiff, Nat.reduceBEq, Nat.reduceLeDiff, Nat.reduceLT, Int.reduceAdd, Int.reduceMul, Int.reduceSub, Int.reduceLT, Int.reduceLE, Int.reduceToNat, Int.reduceEq, Int.reduceNe, Int.reduceBEq, Int.reduceBNe, ne_eq, eq_self]
  refine newB_intro fun z hz f3 f4 => ?_
  have hS := hS.new f3 (.cells #[.string t] 9 (0, 0))
  simp only [↓D0, ↓D1, ↓D2, ↓D3, ↓D4, ↓D5, ↓D6, ↓D7, ↓D8, ↓D9, U0, U1, U2, U3, U4, U5, U6, U7, U8, U9, U10, ↓reduceIte, Nat.reduceAdd, Nat.reduceMul, Nat.reduceSub, Nat.reduceEqDiff, Nat.reduceBEq, Nat.reduceLeDiff, Nat.reduceLT, Int.reduceAdd, Int.reduceMul, Int.reduceSub, Int.reduceLT, Int.reduceLE, Int.reduceToNat, Int.reduceEq, Int.reduceNe, Int.reduceBEq, Int.reduceBNe, ne_eq, eq_self]
  refine callT_of (c_awake2 hS) ?_
  rintro v H' ⟨rfl, hS⟩
  simp only [↓D0, ↓D1, ↓D2, ↓D3, ↓D4, ↓D5, ↓D6, ↓D7, ↓D8, ↓D9, U0, U1, U2, U3, U4, U5, U6, U7, U8, U9, U10, ↓reduceIte, Nat.reduceAdd, Nat.reduceMul, Nat.reduceSub, Nat.reduceEqDiff, Nat.reduceBEq, Nat.reduceLeDiff, Nat.reduceLT, Int.reduceAdd, Int.reduceMul, Int.reduceSub, Int.reduceLT, Int.reduceLE, Int.reduceToNat, Int.reduceEq, Int.reduceNe, Int.reduceBEq, Int.reduceBNe, ne_eq, eq_self]
  refine callT_of (c_wnew 4 (by decide) hS) ?_
  rintro v H' ⟨b, s, rfl, hS⟩
  simp only [↓D0, ↓D1, ↓D2, ↓D3, ↓D4, ↓D5, ↓D6, ↓D7, ↓D8, ↓D9, U0, U1, U2, U3, U4, U5, U6, U7, U8, U9, U10, ↓reduceIte, Nat.reduceAdd, Nat.reduceMul, Nat.reduceSub, Nat.reduceEqDiff, Nat.reduceBEq, Nat.reduceLeDiff, Nat.reduceLT, Int.reduceAdd, Int.reduceMul, Int.reduceSub, Int.reduceLT, Int.reduceLE, Int.reduceToNat, Int.reduceEq, Int.reduceNe, Int.reduceBEq, Int.reduceBNe, ne_eq, eq_self]
  have hy0 := hS.lk 3 rfl
  have ry0 := fun o => rd_of hy0 o
  refine newB_intro fun x hx f5 f6 => ?_
  have nyx : (y = x) = False := f5 y (by rw [hy0]; rfl)
  have hS := hS.new f5 (.cells #[.pointer (some ⟨b, 0, none⟩)] 24 (0, 0))
  have hx1 := hS.look
  have rx := fun o => rd_of hx1 o
  have wn : w64 n = n := w64_eq (by omega) (by omega)
  obtain ⟨k, hkn⟩ : ∃ k : Nat, n.tmod 20 = (k : Int) := ⟨(n.tmod 20).toNat, by have := Int.tmod_nonneg 20 (by omega : 0 ≤ n); omega⟩
  have hk : k ≤ 20 := by have := Int.tmod_lt_of_pos n (by omega : (0 : Int) < 20); omega
  have wk : w64 (k : Int) = k := w64_eq (by omega) (by omega)
  have hy1 := hS.lk 4 rfl
  simp only [hx1, rx, wrap_w64, wn, hkn, wk, ↓D0, ↓D1, ↓D2, ↓D3, ↓D4, ↓D5, ↓D6, ↓D7, ↓D8, ↓D9, U0, U1, U2, U3, U4, U5, U6, U7, U8, U9, U10, ↓reduceIte, Nat.reduceAdd, Nat.reduceMul, Nat.reduceSub, Nat.reduceEqDiff, Nat.reduceBEq, Nat.reduceLeDiff, Nat.reduceLT, Int.reduceAdd, Int.reduceMul, Int.reduceSub, Int.reduceLT, Int.reduceLE, Int.reduceToNat, Int.reduceEq, Int.reduceNe, Int.reduceBEq, Int.reduceBNe, ne_eq, eq_self]
  refine newB_intro fun p hp f7 f8 => ?_
  have nxp : (x = p) = False := f7 x (by rw [hS.look]; rfl)
  have npx : (p = x) = False := f8 x (by rw [hS.look]; rfl)
  have nyp : (y = p) = False := f7 y (by rw [hy1]; rfl)
  have hS := (hS.new f7 (.cells #[.int .i64 (k : Int)] 3 (0, 0))).p5.p2.p2
  simp only [ry0, nyx, nyp, ↓D0, ↓D1, ↓D2, ↓D3, ↓D4, ↓D5, ↓D6, ↓D7, ↓D8, ↓D9, U0, U1, U2, U3, U4, U5, U6, U7, U8, U9, U10, ↓reduceIte, Nat.reduceAdd, Nat.reduceMul, Nat.reduceSub, Nat.reduceEqDiff, Nat.reduceBEq, Nat.reduceLeDiff, Nat.reduceLT, Int.reduceAdd, Int.reduceMul, Int.reduceSub, Int.reduceLT, Int.reduceLE, Int.reduceToNat, Int.reduceEq, Int.reduceNe, Int.reduceBEq, Int.reduceBNe, ne_eq, eq_self]
  have hc : (decide (0 ≤ a) = true ∧ decide (a < 4) = true ∧ 0 ≤ a ∧ a < 4) ∨ (decide (0 ≤ a) = true ∧ decide (a < 4) = false ∧ ¬ (0 ≤ a ∧ a < 4)) ∨ (decide (0 ≤ a) = false ∧ ¬ (0 ≤ a ∧ a < 4)) := by
    by_cases h1 : 0 ≤ a
    · by_cases h2 : a < 4
      · exact .inl ⟨decide_eq_true h1, decide_eq_true h2, h1, h2⟩
      · exact .inr (.inl ⟨decide_eq_true h1, decide_eq_false h2, fun h => h2 h.2⟩)
    · exact .inr (.inr ⟨decide_eq_false h1, fun h => h1 h.1⟩)
  rcases hc with ⟨d1, d2, hin⟩ | ⟨d1, d2, hin⟩ | ⟨d1, hin⟩
  · simp only [ry0, nyx, nyp, d1, d2, ↓D0, ↓D1, ↓D2, ↓D3, ↓D4, ↓D5, ↓D6, ↓D7, ↓D8, ↓D9, U0, U1, U2, U3, U4, U5, U6, U7, U8, U9, U10, ↓reduceIte, Nat.reduceAdd, Nat.reduceMul, Nat.reduceSub, Nat.reduceEqDiff, Nat.reduceBEq, Nat.reduceLeDiff, Nat.reduceLT, Int.reduceAdd, Int.reduceMul, Int.reduceSub, Int.reduceLT, Int.reduceLE, Int.reduceToNat, Int.reduceEq, Int.reduceNe, Int.reduceBEq, Int.reduceBNe, ne_eq, eq_self]
    refine callT_of (c_guard_ret (l' := ibox p k :: wbox x b :: ibox y a :: wB b s (gEnd k a) :: wR s (gEnd k a) :: sbox z t :: l) (e_g1 _) hS fun g H1 hS => (c_g1 hk (hS.p5.p5.p5.p5.p5)).mono fun v H' ⟨h, hS⟩ => ⟨h, hS.p5⟩) ?_
    rintro v H' ⟨rfl, hS⟩
    simp only [↓D0, ↓D1, ↓D2, ↓D3, ↓D4, ↓D5, ↓D6, ↓D7, ↓D8, ↓D9, U0, U1, U2, U3, U4, U5, U6, U7, U8, U9, U10, ↓reduceIte, Nat.reduceAdd, Nat.reduceMul, Nat.reduceSub, Nat.reduceEqDiff, Nat.reduceBEq, Nat.reduceLeDiff, Nat.reduceLT, Int.reduceAdd, Int.reduceMul, Int.reduceSub, Int.reduceLT, Int.reduceLE, Int.reduceToNat, Int.reduceEq, Int.reduceNe, Int.reduceBEq, Int.reduceBNe, ne_eq, eq_self]
    refine newB_intro fun q hq f9 f0 => ?_
    have hS := hS.new f9 (.cells #[.pointer none] 24 (0, 0))
    simp only [↓D0, ↓D1, ↓D2, ↓D3, ↓D4, ↓D5, ↓D6, ↓D7, ↓D8, ↓D9, U0, U1, U2, U3, U4, U5, U6, U7, U8, U9, U10, ↓reduceIte, Nat.reduceAdd, Nat.reduceMul, Nat.reduceSub, Nat.reduceEqDiff, Nat.reduceBEq, Nat.reduceLeDiff, Nat.reduceLT, Int.reduceAdd, Int.reduceMul, Int.reduceSub, Int.reduceLT, Int.reduceLE, Int.reduceToNat, Int.reduceEq, Int.reduceNe, Int.reduceBEq, Int.reduceBNe, ne_eq, eq_self]
    refine callT_of (c_guard_pan (l' := nbox q :: ibox p k :: wbox x b :: ibox y a :: wB b s (gEnd k a) :: wR s (gEnd k a) :: sbox z t :: l) (e_g2 _) hS fun g H1 hS => (x_g2 hS.p1).mono fun H' hS => hS.p1) ?_
    rintro v H' ⟨rfl, hS⟩
    simp only [↓D0, ↓D1, ↓D2, ↓D3, ↓D4, ↓D5, ↓D6, ↓D7, ↓D8, ↓D9, U0, U1, U2, U3, U4, U5, U6, U7, U8, U9, U10, ↓reduceIte, Nat.reduceAdd, Nat.reduceMul, Nat.reduceSub, Nat.reduceEqDiff, Nat.reduceBEq, Nat.reduceLeDiff, Nat.reduceLT, Int.reduceAdd, Int.reduceMul, Int.reduceSub, Int.reduceLT, Int.reduceLE, Int.reduceToNat, Int.reduceEq, Int.reduceNe, Int.reduceBEq, Int.reduceBNe, ne_eq, eq_self]
    have hS := hS.tail.p5
    refine callT_of (c_guard_pan (l' := sbox z t :: ibox p k :: wbox x b :: ibox y a :: wB b s (gEnd k a) :: wR s (gEnd k a) :: l) (e_g3 _) hS fun g H1 hS => (x_g3 hS.p1).mono fun H' hS => hS.p1) ?_
    rintro v H' ⟨rfl, hS⟩
    have e1 : (gEnd k a).get 1 = k := gEnd_1 k hk a
    have e2 : (gEnd k a).get 2 = 7 := gEnd_2 k a
    have e3 : (gEnd k a).get 3 = 0 := (gEnd_3 k a).trans (if_pos hin)
    have en := gEnd_n k a
    have wuk : wu (k : Int) = k := wu_eq (by omega) (by omega)
    have hp1 := hS.lk 1 rfl
    have rp := fun o => rd_of hp1 o
    have hx1 := hS.lk 2 rfl
    have rx := fun o => rd_of hx1 o
    simp only [hp1, rp, hx1, rx, wrap_wu, wuk, ↓D0, ↓D1, ↓D2, ↓D3, ↓D4, ↓D5, ↓D6, ↓D7, ↓D8, ↓D9, U0, U1, U2, U3, U4, U5, U6, U7, U8, U9, U10, ↓reduceIte, Nat.reduceAdd, Nat.reduceMul, Nat.reduceSub, Nat.reduceEqDiff, Nat.reduceBEq, Nat.reduceLeDiff, Nat.reduceLT, Int.reduceAdd, Int.reduceMul, Int.reduceSub, Int.reduceLT, Int.reduceLE, Int.reduceToNat, Int.reduceEq, Int.reduceNe, Int.reduceBEq, Int.reduceBNe, ne_eq, eq_self]
    refine draw_intro [(x, #[.pointer (some ⟨b, 0, none⟩)], []), (p, #[.int .i64 (k : Int)], [])] (by simp only [hp1, hx1, ↓D0, ↓D1, ↓D2, ↓D3, ↓D4, ↓D5, ↓D6, ↓D7, ↓D8, ↓D9, U0, U1, U2, U3, U4, U5, U6, U7, U8, U9, U10, ↓reduceIte, Nat.reduceAdd, Nat.reduceMul, Nat.reduceSub, Nat.reduceEqDiff, Nat.reduceBEq, Nat.reduceLeDiff, Nat.reduceLT, Int.reduceAdd, Int.reduceMul, Int.reduceSub, Int.reduceLT, Int.reduceLE, Int.reduceToNat, Int.reduceEq, Int.reduceNe, Int.reduceBEq, Int.reduceBNe, ne_eq, eq_self]) ?_
    simp only [hp1, rp, hx1, rx, wrap_wu, wuk, nxp, npx, ↓D0, ↓D1, ↓D2, ↓D3, ↓D4, ↓D5, ↓D6, ↓D7, ↓D8, ↓D9, U0, U1, U2, U3, U4, U5, U6, U7, U8, U9, U10, ↓reduceIte, Nat.reduceAdd, Nat.reduceMul, Nat.reduceSub, Nat.reduceEqDiff, Nat.reduceBEq, Nat.reduceLeDiff, Nat.reduceLT, Int.reduceAdd, Int.reduceMul, Int.reduceSub, Int.reduceLT, Int.reduceLE, Int.reduceToNat, Int.reduceEq, Int.reduceNe, Int.reduceBEq, Int.reduceBNe, ne_eq, eq_self]
    refine callT_of (c_look 1 (by decide) (by rw [en]; decide) hS.p5.p5) ?_
    rintro v H' ⟨rfl, hS⟩
    have hp1 := hS.lk 3 rfl
    have rp := fun o => rd_of hp1 o
    have hx1 := hS.lk 4 rfl
    have rx := fun o => rd_of hx1 o
    have c1 : ((k : Int) == (k : Int)) = true := by simp
    simp only [hp1, rp, hx1, rx, wrap_wu, wuk, nxp, npx, e1, c1, ↓D0, ↓D1, ↓D2, ↓D3, ↓D4, ↓D5, ↓D6, ↓D7, ↓D8, ↓D9, U0, U1, U2, U3, U4, U5, U6, U7, U8, U9, U10, ↓reduceIte, Nat.reduceAdd, Nat.reduceMul, Nat.reduceSub, Nat.reduceEqDiff, Nat.reduceBEq, Nat.reduceLeDiff, Nat.reduceLT, Int.reduceAdd, Int.reduceMul, Int.reduceSub, Int.reduceLT, Int.reduceLE, Int.reduceToNat, Int.reduceEq, Int.reduceNe, Int.reduceBEq, Int.reduceBNe, ne_eq, eq_self]
    refine callT_of (c_look 2 (by decide) (by rw [en]; decide) hS) ?_
    rintro v H' ⟨rfl, hS⟩
    have hp1 := hS.lk 3 rfl
    have rp := fun o => rd_of hp1 o
    have hx1 := hS.lk 4 rfl
    have rx := fun o => rd_of hx1 o
    simp only [hp1, rp, hx1, rx, wrap_wu, wuk, nxp, npx, e2, ↓D0, ↓D1, ↓D2, ↓D3, ↓D4, ↓D5, ↓D6, ↓D7, ↓D8, ↓D9, U0, U1, U2, U3, U4, U5, U6, U7, U8, U9, U10, ↓reduceIte, Nat.reduceAdd, Nat.reduceMul, Nat.reduceSub, Nat.reduceEqDiff, Nat.reduceBEq, Nat.reduceLeDiff, Nat.reduceLT, Int.reduceAdd, Int.reduceMul, Int.reduceSub, Int.reduceLT, Int.reduceLE, Int.reduceToNat, Int.reduceEq, Int.reduceNe, Int.reduceBEq, Int.reduceBNe, ne_eq, eq_self]
    refine callT_of (c_look 3 (by decide) (by rw [en]; decide) hS) ?_
    rintro v H' ⟨rfl, hS⟩
    have hp1 := hS.lk 3 rfl
    have rp := fun o => rd_of hp1 o
    have hx1 := hS.lk 4 rfl
    have rx := fun o => rd_of hx1 o
    simp only [hp1, rp, hx1, rx, wrap_wu, wuk, nxp, npx, e3, ↓D0, ↓D1, ↓D2, ↓D3, ↓D4, ↓D5, ↓D6, ↓D7, ↓D8, ↓D9, U0, U1, U2, U3, U4, U5, U6, U7, U8, U9, U10, ↓reduceIte, Nat.reduceAdd, Nat.reduceMul, Nat.reduceSub, Nat.reduceEqDiff, Nat.reduceBEq, Nat.reduceLeDiff, Nat.reduceLT, Int.reduceAdd, Int.reduceMul, Int.reduceSub, Int.reduceLT, Int.reduceLE, Int.reduceToNat, Int.reduceEq, Int.reduceNe, Int.reduceBEq, Int.reduceBNe, ne_eq, eq_self]
    exact hS.tail.tail.tail.tail.tail.tail
  · simp only [ry0, nyx, nyp, d1, d2, ↓D0, ↓D1, ↓D2, ↓D3, ↓D4, ↓D5, ↓D6, ↓D7, ↓D8, ↓D9, U0, U1, U2, U3, U4, U5, U6, U7, U8, U9, U10, ↓reduceIte, Nat.reduceAdd, Nat.reduceMul, Nat.reduceSub, Nat.reduceEqDiff, Nat.reduceBEq, Nat.reduceLeDiff, Nat.reduceLT, Int.reduceAdd, Int.reduceMul, Int.reduceSub, Int.reduceLT, Int.reduceLE, Int.reduceToNat, Int.reduceEq, Int.reduceNe, Int.reduceBEq, Int.reduceBNe, ne_eq, eq_self]
    refine callT_of (c_guard_ret (l' := ibox p k :: wbox x b :: ibox y a :: wB b s (gEnd k a) :: wR s (gEnd k a) :: sbox z t :: l) (e_g1 _) hS fun g H1 hS => (c_g1 hk (hS.p5.p5.p5.p5.p5)).mono fun v H' ⟨h, hS⟩ => ⟨h, hS.p5⟩) ?_
    rintro v H' ⟨rfl, hS⟩
    simp only [↓D0, ↓D1, ↓D2, ↓D3, ↓D4, ↓D5, ↓D6, ↓D7, ↓D8, ↓D9, U0, U1, U2, U3, U4, U5, U6, U7, U8, U9, U10, ↓reduceIte, Nat.reduceAdd, Nat.reduceMul, Nat.reduceSub, Nat.reduceEqDiff, Nat.reduceBEq, Nat.reduceLeDiff, Nat.reduceLT, Int.reduceAdd, Int.reduceMul, Int.reduceSub, Int.reduceLT, Int.reduceLE, Int.reduceToNat, Int.reduceEq, Int.reduceNe, Int.reduceBEq, Int.reduceBNe, ne_eq, eq_self]
    refine newB_intro fun q hq f9 f0 => ?_
    have hS := hS.new f9 (.cells #[.pointer none] 24 (0, 0))
    simp only [↓D0, ↓D1, ↓D2, ↓D3, ↓D4, ↓D5, ↓D6, ↓D7, ↓D8, ↓D9, U0, U1, U2, U3, U4, U5, U6, U7, U8, U9, U10, ↓reduceIte, Nat.reduceAdd, Nat.reduceMul, Nat.reduceSub, Nat.reduceEqDiff, Nat.reduceBEq, Nat.reduceLeDiff, Nat.reduceLT, Int.reduceAdd, Int.reduceMul, Int.reduceSub, Int.reduceLT, Int.reduceLE, Int.reduceToNat, Int.reduceEq, Int.reduceNe, Int.reduceBEq, Int.reduceBNe, ne_eq, eq_self]
    refine callT_of (c_guard_pan (l' := nbox q :: ibox p k :: wbox x b :: ibox y a :: wB b s (gEnd k a) :: wR s (gEnd k a) :: sbox z t :: l) (e_g2 _) hS fun g H1 hS => (x_g2 hS.p1).mono fun H' hS => hS.p1) ?_
    rintro v H' ⟨rfl, hS⟩
    simp only [↓D0, ↓D1, ↓D2, ↓D3, ↓D4, ↓D5, ↓D6, ↓D7, ↓D8, ↓D9, U0, U1, U2, U3, U4, U5, U6, U7, U8, U9, U10, ↓reduceIte, Nat.reduceAdd, Nat.reduceMul, Nat.reduceSub, Nat.reduceEqDiff, Nat.reduceBEq, Nat.reduceLeDiff, Nat.reduceLT, Int.reduceAdd, Int.reduceMul, Int.reduceSub, Int.reduceLT, Int.reduceLE, Int.reduceToNat, Int.reduceEq, Int.reduceNe, Int.reduceBEq, Int.reduceBNe, ne_eq, eq_self]
    have hS := hS.tail.p5
    refine callT_of (c_guard_pan (l' := sbox z t :: ibox p k :: wbox x b :: ibox y a :: wB b s (gEnd k a) :: wR s (gEnd k a) :: l) (e_g3 _) hS fun g H1 hS => (x_g3 hS.p1).mono fun H' hS => hS.p1) ?_
    rintro v H' ⟨rfl, hS⟩
    have e1 : (gEnd k a).get 1 = k := gEnd_1 k hk a
    have e2 : (gEnd k a).get 2 = 7 := gEnd_2 k a
    have e3 : (gEnd k a).get 3 = 9 := (gEnd_3 k a).trans (if_neg hin)
    have en := gEnd_n k a
    have wuk : wu (k : Int) = k := wu_eq (by omega) (by omega)
    have hp1 := hS.lk 1 rfl
    have rp := fun o => rd_of hp1 o
    have hx1 := hS.lk 2 rfl
    have rx := fun o => rd_of hx1 o
    simp only [hp1, rp, hx1, rx, wrap_wu, wuk, ↓D0, ↓D1, ↓D2, ↓D3, ↓D4, ↓D5, ↓D6, ↓D7, ↓D8, ↓D9, U0, U1, U2, U3, U4, U5, U6, U7, U8, U9, U10, ↓reduceIte, Nat.reduceAdd, Nat.reduceMul, Nat.reduceSub, Nat.reduceEqDiff, Nat.reduceBEq, Nat.reduceLeDiff, Nat.reduceLT, Int.reduceAdd, Int.reduceMul, Int.reduceSub, Int.reduceLT, Int.reduceLE, Int.reduceToNat, Int.reduceEq, Int.reduceNe, Int.reduceBEq, Int.reduceBNe, ne_eq, eq_self]
    refine draw_intro [(x, #[.pointer (some ⟨b, 0, none⟩)], []), (p, #[.int .i64 (k : Int)], [])] (by simp only [hp1, hx1, ↓D0, ↓D1, ↓D2, ↓D3, ↓D4, ↓D5, ↓D6, ↓D7, ↓D8, ↓D9, U0, U1, U2, U3, U4, U5, U6, U7, U8, U9, U10, ↓reduceIte, Nat.reduceAdd, Nat.reduceMul, Nat.reduceSub, Nat.reduceEqDiff, Nat.reduceBEq, Nat.reduceLeDiff, Nat.reduceLT, Int.reduceAdd, Int.reduceMul, Int.reduceSub, Int.reduceLT, Int.reduceLE, Int.reduceToNat, Int.reduceEq, Int.reduceNe, Int.reduceBEq, Int.reduceBNe, ne_eq, eq_self]) ?_
    simp only [hp1, rp, hx1, rx, wrap_wu, wuk, nxp, npx, ↓D0, ↓D1, ↓D2, ↓D3, ↓D4, ↓D5, ↓D6, ↓D7, ↓D8, ↓D9, U0, U1, U2, U3, U4, U5, U6, U7, U8, U9, U10, ↓reduceIte, Nat.reduceAdd, Nat.reduceMul, Nat.reduceSub, Nat.reduceEqDiff, Nat.reduceBEq, Nat.reduceLeDiff, Nat.reduceLT, Int.reduceAdd, Int.reduceMul, Int.reduceSub, Int.reduceLT, Int.reduceLE, Int.reduceToNat, Int.reduceEq, Int.reduceNe, Int.reduceBEq, Int.reduceBNe, ne_eq, eq_self]
    refine callT_of (c_look 1 (by decide) (by rw [en]; decide) hS.p5.p5) ?_
    rintro v H' ⟨rfl, hS⟩
    have hp1 := hS.lk 3 rfl
    have rp := fun o => rd_of hp1 o
    have hx1 := hS.lk 4 rfl
    have rx := fun o => rd_of hx1 o
    have c1 : ((k : Int) == (k : Int)) = true := by simp
    simp only [hp1, rp, hx1, rx, wrap_wu, wuk, nxp, npx, e1, c1, ↓D0, ↓D1, ↓D2, ↓D3, ↓D4, ↓D5, ↓D6, ↓D7, ↓D8, ↓D9, U0, U1, U2, U3, U4, U5, U6, U7, U8, U9, U10, ↓reduceIte, Nat.reduceAdd, Nat.reduceMul, Nat.reduceSub, Nat.reduceEqDiff, Nat.reduceBEq, Nat.reduceLeDiff, Nat.reduceLT, Int.reduceAdd, Int.reduceMul, Int.reduceSub, Int.reduceLT, Int.reduceLE, Int.reduceToNat, Int.reduceEq, Int.reduceNe, Int.reduceBEq, Int.reduceBNe, ne_eq, eq_self]
    refine callT_of (c_look 2 (by decide) (by rw [en]; decide) hS) ?_
    rintro v H' ⟨rfl, hS⟩
    have hp1 := hS.lk 3 rfl
    have rp := fun o => rd_of hp1 o
    have hx1 := hS.lk 4 rfl
    have rx := fun o => rd_of hx1 o
    simp only [hp1, rp, hx1, rx, wrap_wu, wuk, nxp, npx, e2, ↓D0, ↓D1, ↓D2, ↓D3, ↓D4, ↓D5, ↓D6, ↓D7, ↓D8, ↓D9, U0, U1, U2, U3, U4, U5, U6, U7, U8, U9, U10, ↓reduceIte, Nat.reduceAdd, Nat.reduceMul, Nat.reduceSub, Nat.reduceEqDiff, Nat.reduceBEq, Nat.reduceLeDiff, Nat.reduceLT, Int.reduceAdd, Int.reduceMul, Int.reduceSub, Int.reduceLT, Int.reduceLE, Int.reduceToNat, Int.reduceEq, Int.reduceNe, Int.reduceBEq, Int.reduceBNe, ne_eq, eq_self]
    refine callT_of (c_look 3 (by decide) (by rw [en]; decide) hS) ?_
    rintro v H' ⟨rfl, hS⟩
    have hp1 := hS.lk 3 rfl
    have rp := fun o => rd_of hp1 o
    have hx1 := hS.lk 4 rfl
    have rx := fun o => rd_of hx1 o
    simp only [hp1, rp, hx1, rx, wrap_wu, wuk, nxp, npx, e3, ↓D0, ↓D1, ↓D2, ↓D3, ↓D4, ↓D5, ↓D6, ↓D7, ↓D8, ↓D9, U0, U1, U2, U3, U4, U5, U6, U7, U8, U9, U10, ↓reduceIte, Nat.reduceAdd, Nat.reduceMul, Nat.reduceSub, Nat.reduceEqDiff, Nat.reduceBEq, Nat.reduceLeDiff, Nat.reduceLT, Int.reduceAdd, Int.reduceMul, Int.reduceSub, Int.reduceLT, Int.reduceLE, Int.reduceToNat, Int.reduceEq, Int.reduceNe, Int.reduceBEq, Int.reduceBNe, ne_eq, eq_self]
    exact hS.tail.tail.tail.tail.tail.tail
  · simp only [ry0, nyx, nyp, d1, ↓D0, ↓D1, ↓D2, ↓D3, ↓D4, ↓D5, ↓D6, ↓D7, ↓D8, ↓D9, U0, U1, U2, U3, U4, U5, U6, U7, U8, U9, U10, ↓reduceIte, Nat.reduceAdd, Nat.reduceMul, Nat.reduceSub, Nat.reduceEqDiff, Nat.reduceBEq, Nat.reduceLeDiff, Nat.reduceLT, Int.reduceAdd, Int.reduceMul, Int.reduceSub, Int.reduceLT, Int.reduceLE, Int.reduceToNat, Int.reduceEq, Int.reduceNe, Int.reduceBEq, Int.reduceBNe, ne_eq, eq_self]
    refine callT_of (c_guard_ret (l' := ibox p k :: wbox x b :: ibox y a :: wB b s (gEnd k a) :: wR s (gEnd k a) :: sbox z t :: l) (e_g1 _) hS fun g H1 hS => (c_g1 hk (hS.p5.p5.p5.p5.p5)).mono fun v H' ⟨h, hS⟩ => ⟨h, hS.p5⟩) ?_
    rintro v H' ⟨rfl, hS⟩
    simp only [↓D0, ↓D1, ↓D2, ↓D3, ↓D4, ↓D5, ↓D6, ↓D7, ↓D8, ↓D9, U0, U1, U2, U3, U4, U5, U6, U7, U8, U9, U10, ↓reduceIte, Nat.reduceAdd, Nat.reduceMul, Nat.reduceSub, Nat.reduceEqDiff, Nat.reduceBEq, Nat.reduceLeDiff, Nat.reduceLT, Int.reduceAdd, Int.reduceMul, Int.reduceSub, Int.reduceLT, Int.reduceLE, Int.reduceToNat, Int.reduceEq, Int.reduceNe, Int.reduceBEq, Int.reduceBNe, ne_eq, eq_self]
    refine newB_intro fun q hq f9 f0 => ?_
    have hS := hS.new f9 (.cells #[.pointer none] 24 (0, 0))
    simp only [↓D0, ↓D1, ↓D2, ↓D3, ↓D4, ↓D5, ↓D6, ↓D7, ↓D8, ↓D9, U0, U1, U2, U3, U4, U5, U6, U7, U8, U9, U10, ↓reduceIte, Nat.reduceAdd, Nat.reduceMul, Nat.reduceSub, Nat.reduceEqDiff, Nat.reduceBEq, Nat.reduceLeDiff, Nat.reduceLT, Int.reduceAdd, Int.reduceMul, Int.reduceSub, Int.reduceLT, Int.reduceLE, Int.reduceToNat, Int.reduceEq, Int.reduceNe, Int.reduceBEq, Int.reduceBNe, ne_eq, eq_self]
    refine callT_of (c_guard_pan (l' := nbox q :: ibox p k :: wbox x b :: ibox y a :: wB b s (gEnd k a) :: wR s (gEnd k a) :: sbox z t :: l) (e_g2 _) hS fun g H1 hS => (x_g2 hS.p1).mono fun H' hS => hS.p1) ?_
    rintro v H' ⟨rfl, hS⟩
    simp only [↓D0, ↓D1, ↓D2, ↓D3, ↓D4, ↓D5, ↓D6, ↓D7, ↓D8, ↓D9, U0, U1, U2, U3, U4, U5, U6, U7, U8, U9, U10, ↓reduceIte, Nat.reduceAdd, Nat.reduceMul, Nat.reduceSub, Nat.reduceEqDiff, Nat.reduceBEq, Nat.reduceLeDiff, Nat.reduceLT, Int.reduceAdd, Int.reduceMul, Int.reduceSub, Int.reduceLT, Int.reduceLE, Int.reduceToNat, Int.reduceEq, Int.reduceNe, Int.reduceBEq, Int.reduceBNe, ne_eq, eq_self]
    have hS := hS.tail.p5
    refine callT_of (c_guard_pan (l' := sbox z t :: ibox p k :: wbox x b :: ibox y a :: wB b s (gEnd k a) :: wR s (gEnd k a) :: l) (e_g3 _) hS fun g H1 hS => (x_g3 hS.p1).mono fun H' hS => hS.p1) ?_
    rintro v H' ⟨rfl, hS⟩
    have e1 : (gEnd k a).get 1 = k := gEnd_1 k hk a
    have e2 : (gEnd k a).get 2 = 7 := gEnd_2 k a
    have e3 : (gEnd k a).get 3 = 9 := (gEnd_3 k a).trans (if_neg hin)
    have en := gEnd_n k a
    have wuk : wu (k : Int) = k := wu_eq (by omega) (by omega)
    have hp1 := hS.lk 1 rfl
    have rp := fun o => rd_of hp1 o
    have hx1 := hS.lk 2 rfl
    have rx := fun o => rd_of hx1 o
    simp only [hp1, rp, hx1, rx, wrap_wu, wuk, ↓D0, ↓D1, ↓D2, ↓D3, ↓D4, ↓D5, ↓D6, ↓D7, ↓D8, ↓D9, U0, U1, U2, U3, U4, U5, U6, U7, U8, U9, U10, ↓reduceIte, Nat.reduceAdd, Nat.reduceMul, Nat.reduceSub, Nat.reduceEqDiff, Nat.reduceBEq, Nat.reduceLeDiff, Nat.reduceLT, Int.reduceAdd, Int.reduceMul, Int.reduceSub, Int.reduceLT, Int.reduceLE, Int.reduceToNat, Int.reduceEq, Int.reduceNe, Int.reduceBEq, Int.reduceBNe, ne_eq, eq_self]
    refine draw_intro [(x, #[.pointer (some ⟨b, 0, none⟩)], []), (p, #[.int .i64 (k : Int)], [])] (by simp only [hp1, hx1, ↓D0, ↓D1, ↓D2, ↓D3, ↓D4, ↓D5, ↓D6, ↓D7, ↓D8, ↓D9, U0, U1, U2, U3, U4, U5, U6, U7, U8, U9, U10, ↓reduceIte, Nat.reduceAdd, Nat.reduceMul, Nat.reduceSub, Nat.reduceEqDiff, Nat.reduceBEq, Nat.reduceLeDiff, Nat.reduceLT, Int.reduceAdd, Int.reduceMul, Int.reduceSub, Int.reduceLT, Int.reduceLE, Int.reduceToNat, Int.reduceEq, Int.reduceNe, Int.reduceBEq, Int.reduceBNe, ne_eq, eq_self]) ?_
    simp only [hp1, rp, hx1, rx, wrap_wu, wuk, nxp, npx, ↓D0, ↓D1, ↓D2, ↓D3, ↓D4, ↓D5, ↓D6, ↓D7, ↓D8, ↓D9, U0, U1, U2, U3, U4, U5, U6, U7, U8, U9, U10, ↓reduceIte, Nat.reduceAdd, Nat.reduceMul, Nat.reduceSub, Nat.reduceEqDiff, Nat.reduceBEq, Nat.reduceLeDiff, Nat.reduceLT, Int.reduceAdd, Int.reduceMul, Int.reduceSub, Int.reduceLT, Int.reduceLE, Int.reduceToNat, Int.reduceEq, Int.reduceNe, Int.reduceBEq, Int.reduceBNe, ne_eq, eq_self]
    refine callT_of (c_look 1 (by decide) (by rw [en]; decide) hS.p5.p5) ?_
    rintro v H' ⟨rfl, hS⟩
    have hp1 := hS.lk 3 rfl
    have rp := fun o => rd_of hp1 o
    have hx1 := hS.lk 4 rfl
    have rx := fun o => rd_of hx1 o
    have c1 : ((k : Int) == (k : Int)) = true := by simp
    simp only [hp1, rp, hx1, rx, wrap_wu, wuk, nxp, npx, e1, c1, ↓D0, ↓D1, ↓D2, ↓D3, ↓D4, ↓D5, ↓D6, ↓D7, ↓D8, ↓D9, U0, U1, U2, U3, U4, U5, U6, U7, U8, U9, U10, ↓reduceIte, Nat.reduceAdd, Nat.reduceMul, Nat.reduceSub, Nat.reduceEqDiff, Nat.reduceBEq, Nat.reduceLeDiff, Nat.reduceLT, Int.reduceAdd, Int.reduceMul, Int.reduceSub, Int.reduceLT, Int.reduceLE, Int.reduceToNat, Int.reduceEq, Int.reduceNe, Int.reduceBEq, Int.reduceBNe, ne_eq, eq_self]
    refine callT_of (c_look 2 (by decide) (by rw [en]; decide) hS) ?_
    rintro v H' ⟨rfl, hS⟩
    have hp1 := hS.lk 3 rfl
    have rp := fun o => rd_of hp1 o
    have hx1 := hS.lk 4 rfl
    have rx := fun o => rd_of hx1 o
    simp only [hp1, rp, hx1, rx, wrap_wu, wuk, nxp, npx, e2, ↓D0, ↓D1, ↓D2, ↓D3, ↓D4, ↓D5, ↓D6, ↓D7, ↓D8, ↓D9, U0, U1, U2, U3, U4, U5, U6, U7, U8, U9, U10, ↓reduceIte, Nat.reduceAdd, Nat.reduceMul, Nat.reduceSub, Nat.reduceEqDiff, Nat.reduceBEq, Nat.reduceLeDiff, Nat.reduceLT, Int.reduceAdd, Int.reduceMul, Int.reduceSub, Int.reduceLT, Int.reduceLE, Int.reduceToNat, Int.reduceEq, Int.reduceNe, Int.reduceBEq, Int.reduceBNe, ne_eq, eq_self]
    refine callT_of (c_look 3 (by decide) (by rw [en]; decide) hS) ?_
    rintro v H' ⟨rfl, hS⟩
    have hp1 := hS.lk 3 rfl
    have rp := fun o => rd_of hp1 o
    have hx1 := hS.lk 4 rfl
    have rx := fun o => rd_of hx1 o
    simp only [hp1, rp, hx1, rx, wrap_wu, wuk, nxp, npx, e3, ↓D0, ↓D1, ↓D2, ↓D3, ↓D4, ↓D5, ↓D6, ↓D7, ↓D8, ↓D9, U0, U1, U2, U3, U4, U5, U6, U7, U8, U9, U10, ↓reduceIte, Nat.reduceAdd, Nat.reduceMul, Nat.reduceSub, Nat.reduceEqDiff, Nat.reduceBEq, Nat.reduceLeDiff, Nat.reduceLT, Int.reduceAdd, Int.reduceMul, Int.reduceSub, Int.reduceLT, Int.reduceLE, Int.reduceToNat, Int.reduceEq, Int.reduceNe, Int.reduceBEq, Int.reduceBNe, ne_eq, eq_self]
    exact hS.tail.tail.tail.tail.tail.tail
end
theorem l_wordsguards {W : World} (n : Int) (hn : 0 ≤ n ∧ n ≤ 255) (a : Int) (ha : -9223372036854775808 ≤ a ∧ a ≤ 9223372036854775807) (t : ByteArray) : CallP Try.prog W 4 #[.int .u8 n, .int .i64 a, .string t] (memOf W) fun v H' => v = .bool true ∧ Sub (memOf W) H' :=
  (c_wordsguards hn (Sep.one _)).mono fun v H' ⟨h1, h2⟩ => ⟨h1, h2.head⟩
end Go.Proofs.Ytfapipblclikbaa
