/-
  The reference's functions for chapter 3, as the same pure functions. Conditions: none.
-/
import Derived.Test.YtjgadghmlioimaaGreatPlan
set_option linter.unusedVariables false
set_option linter.unusedSimpArgs false
namespace Go.Proofs.YtjgadghmlioimaaGreat
open Go Go.Ev Go.Pl

theorem q_may (p c m : Int) : PureC Tryz.prog 21 #[.agg #[.int .i64 p, .int .i64 c, .int .i64 m]] (.bool (may p c m)) := by
  refine PureC.of mixed Tryz.func21 (by kernel_rfl) tr21 (by show 1 ≤ _; decide) fun W H => ?_
  simp only [↓D0, ↓D1, ↓D2, ↓D3, ↓D4, ↓D5, ↓D6, ↓D7, ↓D8, ↓D9, ↓D10, U0, U1, U2, U3, U4, U5, U6, U7, U8, U9, U10, ↓reduceIte, Nat.reduceAdd, Nat.reduceMul, Nat.reduceSub, Nat.reduceEqDiff, Nat.reduceBEq, Nat.reduceLeDiff, Nat.reduceLT, Int.reduceAdd, Int.reduceMul, Int.reduceSub, Int.reduceLT, Int.reduceLE, Int.reduceToNat, Int.reduceEq, Int.reduceNe, Int.reduceBEq, Int.reduceBNe, ne_eq, eq_self]
  refine newB_intro fun b hb h1 h2 => ?_
  have hsub : ∀ o, Sub H (upd H b o) := fun o => (Sub.refl H).new h1
  simp only [↓D0, ↓D1, ↓D2, ↓D3, ↓D4, ↓D5, ↓D6, ↓D7, ↓D8, ↓D9, ↓D10, U0, U1, U2, U3, U4, U5, U6, U7, U8, U9, U10, ↓reduceIte, Nat.reduceAdd, Nat.reduceMul, Nat.reduceSub, Nat.reduceEqDiff, Nat.reduceBEq, Nat.reduceLeDiff, Nat.reduceLT, Int.reduceAdd, Int.reduceMul, Int.reduceSub, Int.reduceLT, Int.reduceLE, Int.reduceToNat, Int.reduceEq, Int.reduceNe, Int.reduceBEq, Int.reduceBNe, ne_eq, eq_self]
  repeat' (refine both_intro (fun g => ?_) (fun g => ?_) <;> simp only [g, ↓D0, ↓D1, ↓D2, ↓D3, ↓D4, ↓D5, ↓D6, ↓D7, ↓D8, ↓D9, ↓D10, U0, U1, U2, U3, U4, U5, U6, U7, U8, U9, U10, ↓reduceIte, Nat.reduceAdd, Nat.reduceMul, Nat.reduceSub, Nat.reduceEqDiff, Nat.reduceBEq, Nat.reduceLeDiff, Nat.reduceLT, Int.reduceAdd, Int.reduceMul, Int.reduceSub, Int.reduceLT, Int.reduceLE, Int.reduceToNat, Int.reduceEq, Int.reduceNe, Int.reduceBEq, Int.reduceBNe, ne_eq, eq_self])
  all_goals
    refine ⟨congrArg Value.bool ?_, hsub _⟩
    simp only [decide_eq_true_eq, decide_eq_false_iff_not] at *
    first
      | (rw [eq_comm, may_iff]; omega)
      | (rw [eq_comm, may_no]; omega)
      | (rw [Bool.eq_iff_iff, may_iff, decide_eq_true_eq]; omega)
theorem u_may (p c m : Int) : pv Tryz.prog 21 #[.agg #[.int .i64 p, .int .i64 c, .int .i64 m]] = some (.bool (may p c m)) := pv_of (q_may p c m)






theorem q_words (p c m : Int) : PureC Tryz.prog 16 #[.agg #[.int .i64 p, .int .i64 c, .int .i64 m]] (.int .i64 (words p c m)) := by
  refine PureC.of mixed Tryz.func16 (by kernel_rfl) tr16 (by show 1 ≤ _; decide) fun W H => ?_
  simp only [↓D0, ↓D1, ↓D2, ↓D3, ↓D4, ↓D5, ↓D6, ↓D7, ↓D8, ↓D9, ↓D10, U0, U1, U2, U3, U4, U5, U6, U7, U8, U9, U10, ↓reduceIte, Nat.reduceAdd, Nat.reduceMul, Nat.reduceSub, Nat.reduceEqDiff, Nat.reduceBEq, Nat.reduceLeDiff, Nat.reduceLT, Int.reduceAdd, Int.reduceMul, Int.reduceSub, Int.reduceLT, Int.reduceLE, Int.reduceToNat, Int.reduceEq, Int.reduceNe, Int.reduceBEq, Int.reduceBNe, ne_eq, eq_self]
  refine newB_intro fun b hb h1 h2 => ?_
  have hsub : ∀ o, Sub H (upd H b o) := fun o => (Sub.refl H).new h1
  cases h : may p c m
  · simp only [u_may, h, ↓D0, ↓D1, ↓D2, ↓D3, ↓D4, ↓D5, ↓D6, ↓D7, ↓D8, ↓D9, ↓D10, U0, U1, U2, U3, U4, U5, U6, U7, U8, U9, U10, ↓reduceIte, Nat.reduceAdd, Nat.reduceMul, Nat.reduceSub, Nat.reduceEqDiff, Nat.reduceBEq, Nat.reduceLeDiff, Nat.reduceLT, Int.reduceAdd, Int.reduceMul, Int.reduceSub, Int.reduceLT, Int.reduceLE, Int.reduceToNat, Int.reduceEq, Int.reduceNe, Int.reduceBEq, Int.reduceBNe, ne_eq, eq_self]
    simp [words, h, hsub]
  · have hm := (may_iff _ _ _).1 h
    have hb := mul_bd c m (by omega) (by omega) (by omega) (by omega)
    have e1 : w64 (c + p) = c + p := w64_eq (by omega) (by omega)
    have e2 : w64 (16 * p) = p * 16 := by rw [w64_eq (by omega) (by omega)]; omega
    have e3 : w64 (c + p + p * 16) = c + p + p * 16 := w64_eq (by omega) (by omega)
    have e4 : w64 (c * m) = c * m := w64_eq (by omega) (by omega)
    have e5 : w64 (c + p + p * 16 + c * m) = c + p + p * 16 + c * m := w64_eq (by omega) (by omega)
    simp only [u_may, h, wrap_w64, e1, e2, e3, e4, e5, ↓D0, ↓D1, ↓D2, ↓D3, ↓D4, ↓D5, ↓D6, ↓D7, ↓D8, ↓D9, ↓D10, U0, U1, U2, U3, U4, U5, U6, U7, U8, U9, U10, ↓reduceIte, Nat.reduceAdd, Nat.reduceMul, Nat.reduceSub, Nat.reduceEqDiff, Nat.reduceBEq, Nat.reduceLeDiff, Nat.reduceLT, Int.reduceAdd, Int.reduceMul, Int.reduceSub, Int.reduceLT, Int.reduceLE, Int.reduceToNat, Int.reduceEq, Int.reduceNe, Int.reduceBEq, Int.reduceBNe, ne_eq, eq_self]
    simp [words, h, hsub]
theorem u_words (p c m : Int) : pv Tryz.prog 16 #[.agg #[.int .i64 p, .int .i64 c, .int .i64 m]] = some (.int .i64 (words p c m)) := pv_of (q_words p c m)


theorem q_page (p c m i : Int) : PureC Tryz.prog 15 #[.agg #[.int .i64 p, .int .i64 c, .int .i64 m], .int .i64 i] (.int .i64 (page p c m i)) := by
  refine PureC.of mixed Tryz.func15 (by kernel_rfl) tr15 (by show 2 ≤ _; decide) fun W H => ?_
  simp only [↓D0, ↓D1, ↓D2, ↓D3, ↓D4, ↓D5, ↓D6, ↓D7, ↓D8, ↓D9, ↓D10, U0, U1, U2, U3, U4, U5, U6, U7, U8, U9, U10, ↓reduceIte, Nat.reduceAdd, Nat.reduceMul, Nat.reduceSub, Nat.reduceEqDiff, Nat.reduceBEq, Nat.reduceLeDiff, Nat.reduceLT, Int.reduceAdd, Int.reduceMul, Int.reduceSub, Int.reduceLT, Int.reduceLE, Int.reduceToNat, Int.reduceEq, Int.reduceNe, Int.reduceBEq, Int.reduceBNe, ne_eq, eq_self]
  refine newB_intro fun b hb h1 h2 => ?_
  have hsub : ∀ o, Sub H (upd H b o) := fun o => (Sub.refl H).new h1
  cases h : may p c m
  · simp only [u_may, h, ↓D0, ↓D1, ↓D2, ↓D3, ↓D4, ↓D5, ↓D6, ↓D7, ↓D8, ↓D9, ↓D10, U0, U1, U2, U3, U4, U5, U6, U7, U8, U9, U10, ↓reduceIte, Nat.reduceAdd, Nat.reduceMul, Nat.reduceSub, Nat.reduceEqDiff, Nat.reduceBEq, Nat.reduceLeDiff, Nat.reduceLT, Int.reduceAdd, Int.reduceMul, Int.reduceSub, Int.reduceLT, Int.reduceLE, Int.reduceToNat, Int.reduceEq, Int.reduceNe, Int.reduceBEq, Int.reduceBNe, ne_eq, eq_self]
    exact ⟨by rw [page_no (by simp [h])], hsub _⟩
  · have hm := (may_iff _ _ _).1 h
    simp only [u_may, h, ↓D0, ↓D1, ↓D2, ↓D3, ↓D4, ↓D5, ↓D6, ↓D7, ↓D8, ↓D9, ↓D10, U0, U1, U2, U3, U4, U5, U6, U7, U8, U9, U10, ↓reduceIte, Nat.reduceAdd, Nat.reduceMul, Nat.reduceSub, Nat.reduceEqDiff, Nat.reduceBEq, Nat.reduceLeDiff, Nat.reduceLT, Int.reduceAdd, Int.reduceMul, Int.reduceSub, Int.reduceLT, Int.reduceLE, Int.reduceToNat, Int.reduceEq, Int.reduceNe, Int.reduceBEq, Int.reduceBNe, ne_eq, eq_self]
    repeat' (refine both_intro (fun g => ?_) (fun g => ?_) <;> simp only [g, ↓D0, ↓D1, ↓D2, ↓D3, ↓D4, ↓D5, ↓D6, ↓D7, ↓D8, ↓D9, ↓D10, U0, U1, U2, U3, U4, U5, U6, U7, U8, U9, U10, ↓reduceIte, Nat.reduceAdd, Nat.reduceMul, Nat.reduceSub, Nat.reduceEqDiff, Nat.reduceBEq, Nat.reduceLeDiff, Nat.reduceLT, Int.reduceAdd, Int.reduceMul, Int.reduceSub, Int.reduceLT, Int.reduceLE, Int.reduceToNat, Int.reduceEq, Int.reduceNe, Int.reduceBEq, Int.reduceBNe, ne_eq, eq_self])
    all_goals
      simp only [decide_eq_true_eq, decide_eq_false_iff_not] at *
      refine ⟨congrArg (Value.int .i64) ?_, hsub _⟩
      first
        | rw [page_no (by omega)]
        | rw [page_yes h (by omega) (by omega), wrap_w64, w64_eq (by omega) (by omega)]
theorem u_page (p c m i : Int) : pv Tryz.prog 15 #[.agg #[.int .i64 p, .int .i64 c, .int .i64 m], .int .i64 i] = some (.int .i64 (page p c m i)) := pv_of (q_page p c m i)

theorem q_slot (p c m i j : Int) : PureC Tryz.prog 11 #[.agg #[.int .i64 p, .int .i64 c, .int .i64 m], .int .i64 i, .int .i64 j] (.int .i64 (slot p c m i j)) := by
  refine PureC.of mixed Tryz.func11 (by kernel_rfl) tr11 (by show 3 ≤ _; decide) fun W H => ?_
  simp only [↓D0, ↓D1, ↓D2, ↓D3, ↓D4, ↓D5, ↓D6, ↓D7, ↓D8, ↓D9, ↓D10, U0, U1, U2, U3, U4, U5, U6, U7, U8, U9, U10, ↓reduceIte, Nat.reduceAdd, Nat.reduceMul, Nat.reduceSub, Nat.reduceEqDiff, Nat.reduceBEq, Nat.reduceLeDiff, Nat.reduceLT, Int.reduceAdd, Int.reduceMul, Int.reduceSub, Int.reduceLT, Int.reduceLE, Int.reduceToNat, Int.reduceEq, Int.reduceNe, Int.reduceBEq, Int.reduceBNe, ne_eq, eq_self]
  refine newB_intro fun b hb h1 h2 => ?_
  have hsub : ∀ o, Sub H (upd H b o) := fun o => (Sub.refl H).new h1
  by_cases hp : may p c m = true ∧ 0 ≤ i ∧ i < p
  · obtain ⟨h, hi⟩ := hp
    have hm := (may_iff _ _ _).1 h
    have d : decide (page p c m i < 0) = false := by rw [decide_eq_false_iff_not, page_lt0]; exact fun x => x ⟨h, hi⟩
    simp only [u_page, d, ↓D0, ↓D1, ↓D2, ↓D3, ↓D4, ↓D5, ↓D6, ↓D7, ↓D8, ↓D9, ↓D10, U0, U1, U2, U3, U4, U5, U6, U7, U8, U9, U10, ↓reduceIte, Nat.reduceAdd, Nat.reduceMul, Nat.reduceSub, Nat.reduceEqDiff, Nat.reduceBEq, Nat.reduceLeDiff, Nat.reduceLT, Int.reduceAdd, Int.reduceMul, Int.reduceSub, Int.reduceLT, Int.reduceLE, Int.reduceToNat, Int.reduceEq, Int.reduceNe, Int.reduceBEq, Int.reduceBNe, ne_eq, eq_self]
    repeat' (refine both_intro (fun g => ?_) (fun g => ?_) <;> simp only [g, ↓D0, ↓D1, ↓D2, ↓D3, ↓D4, ↓D5, ↓D6, ↓D7, ↓D8, ↓D9, ↓D10, U0, U1, U2, U3, U4, U5, U6, U7, U8, U9, U10, ↓reduceIte, Nat.reduceAdd, Nat.reduceMul, Nat.reduceSub, Nat.reduceEqDiff, Nat.reduceBEq, Nat.reduceLeDiff, Nat.reduceLT, Int.reduceAdd, Int.reduceMul, Int.reduceSub, Int.reduceLT, Int.reduceLE, Int.reduceToNat, Int.reduceEq, Int.reduceNe, Int.reduceBEq, Int.reduceBNe, ne_eq, eq_self])
    all_goals
      simp only [decide_eq_true_eq, decide_eq_false_iff_not] at *
      refine ⟨congrArg (Value.int .i64) ?_, hsub _⟩
      first
        | rw [slot_no (by omega)]
        | (rw [slot_yes h (by omega) (by omega) (by omega) (by omega)]
           simp only [wrap_w64]
           rw [w64_eq (n := c + p) (by omega) (by omega), w64_eq (n := 16 * i) (by omega) (by omega), w64_eq (n := c + p + 16 * i) (by omega) (by omega), w64_eq (by omega) (by omega)]
           omega)
  · have d : decide (page p c m i < 0) = true := by rw [decide_eq_true_eq, page_lt0]; exact hp
    simp only [u_page, d, ↓D0, ↓D1, ↓D2, ↓D3, ↓D4, ↓D5, ↓D6, ↓D7, ↓D8, ↓D9, ↓D10, U0, U1, U2, U3, U4, U5, U6, U7, U8, U9, U10, ↓reduceIte, Nat.reduceAdd, Nat.reduceMul, Nat.reduceSub, Nat.reduceEqDiff, Nat.reduceBEq, Nat.reduceLeDiff, Nat.reduceLT, Int.reduceAdd, Int.reduceMul, Int.reduceSub, Int.reduceLT, Int.reduceLE, Int.reduceToNat, Int.reduceEq, Int.reduceNe, Int.reduceBEq, Int.reduceBNe, ne_eq, eq_self]
    exact ⟨by rw [slot_no (fun x => hp ⟨x.1, x.2.1, x.2.2.1⟩)], hsub _⟩
theorem u_slot (p c m i j : Int) : pv Tryz.prog 11 #[.agg #[.int .i64 p, .int .i64 c, .int .i64 m], .int .i64 i, .int .i64 j] = some (.int .i64 (slot p c m i j)) := pv_of (q_slot p c m i j)


end Go.Proofs.YtjgadghmlioimaaGreat
