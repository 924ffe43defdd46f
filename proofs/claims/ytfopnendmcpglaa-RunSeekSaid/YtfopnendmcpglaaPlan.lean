/-
  The functions of package plan as pure functions of their arguments. Conditions: none.
-/
import Derived.Test.YtfopnendmcpglaaCode
import Derived.Test.YtfopnendmcpglaaPl
import Derived.Test.YtfopnendmcpglaaSimp
set_option linter.unusedVariables false
set_option linter.unusedSimpArgs false
namespace Go.Proofs.Ytfopnendmcpglaa
open Go Go.Ev Go.Pl

theorem p_within (n lo hi : Int) : PureC Try.prog 109 #[.int .i64 n, .int .i64 lo, .int .i64 hi] (.bool (within n lo hi)) := by
  refine PureC.of mixed Try.func109 (by kernel_rfl) tr109 (by show 3 ≤ _; decide) fun W H => ?_
  simp only [↓D0, ↓D1, ↓D2, ↓D3, ↓D4, ↓D5, ↓D6, ↓D7, ↓D8, ↓D9, ↓D10, U0, U1, U2, U3, U4, U5, U6, U7, U8, U9, U10, ↓reduceIte, Nat.reduceAdd, Nat.reduceMul, Nat.reduceSub, Nat.reduceEqDiff, Nat.reduceBEq, Nat.reduceLeDiff, Nat.reduceLT, Int.reduceAdd, Int.reduceMul, Int.reduceSub, Int.reduceLT, Int.reduceLE, Int.reduceToNat, Int.reduceEq, Int.reduceNe, Int.reduceBEq, Int.reduceBNe, ne_eq, eq_self]
  refine both_intro (fun h => ?_) (fun h => ?_) <;> simp only [h, ↓D0, ↓D1, ↓D2, ↓D3, ↓D4, ↓D5, ↓D6, ↓D7, ↓D8, ↓D9, ↓D10, U0, U1, U2, U3, U4, U5, U6, U7, U8, U9, U10, ↓reduceIte, Nat.reduceAdd, Nat.reduceMul, Nat.reduceSub, Nat.reduceEqDiff, Nat.reduceBEq, Nat.reduceLeDiff, Nat.reduceLT, Int.reduceAdd, Int.reduceMul, Int.reduceSub, Int.reduceLT, Int.reduceLE, Int.reduceToNat, Int.reduceEq, Int.reduceNe, Int.reduceBEq, Int.reduceBNe, ne_eq, eq_self]
  all_goals simp [within, Sub.refl, h]
theorem v_within (n lo hi : Int) : pv Try.prog 109 #[.int .i64 n, .int .i64 lo, .int .i64 hi] = some (.bool (within n lo hi)) := pv_of (p_within n lo hi)

theorem p_may (p c m : Int) : PureC Try.prog 108 #[.agg #[.int .i64 p, .int .i64 c, .int .i64 m]] (.bool (may p c m)) := by
  refine PureC.of mixed Try.func108 (by kernel_rfl) tr108 (by show 1 ≤ _; decide) fun W H => ?_
  simp only [↓D0, ↓D1, ↓D2, ↓D3, ↓D4, ↓D5, ↓D6, ↓D7, ↓D8, ↓D9, ↓D10, U0, U1, U2, U3, U4, U5, U6, U7, U8, U9, U10, ↓reduceIte, Nat.reduceAdd, Nat.reduceMul, Nat.reduceSub, Nat.reduceEqDiff, Nat.reduceBEq, Nat.reduceLeDiff, Nat.reduceLT, Int.reduceAdd, Int.reduceMul, Int.reduceSub, Int.reduceLT, Int.reduceLE, Int.reduceToNat, Int.reduceEq, Int.reduceNe, Int.reduceBEq, Int.reduceBNe, ne_eq, eq_self]
  refine newB_intro fun b hb h1 h2 => ?_
  have hsub : ∀ o, Sub H (upd H b o) := fun o => (Sub.refl H).new h1
  simp only [v_within, ↓D0, ↓D1, ↓D2, ↓D3, ↓D4, ↓D5, ↓D6, ↓D7, ↓D8, ↓D9, ↓D10, U0, U1, U2, U3, U4, U5, U6, U7, U8, U9, U10, ↓reduceIte, Nat.reduceAdd, Nat.reduceMul, Nat.reduceSub, Nat.reduceEqDiff, Nat.reduceBEq, Nat.reduceLeDiff, Nat.reduceLT, Int.reduceAdd, Int.reduceMul, Int.reduceSub, Int.reduceLT, Int.reduceLE, Int.reduceToNat, Int.reduceEq, Int.reduceNe, Int.reduceBEq, Int.reduceBNe, ne_eq, eq_self]
  refine both_intro (fun h => ?_) (fun h => ?_) <;> simp only [h, v_within, ↓D0, ↓D1, ↓D2, ↓D3, ↓D4, ↓D5, ↓D6, ↓D7, ↓D8, ↓D9, ↓D10, U0, U1, U2, U3, U4, U5, U6, U7, U8, U9, U10, ↓reduceIte, Nat.reduceAdd, Nat.reduceMul, Nat.reduceSub, Nat.reduceEqDiff, Nat.reduceBEq, Nat.reduceLeDiff, Nat.reduceLT, Int.reduceAdd, Int.reduceMul, Int.reduceSub, Int.reduceLT, Int.reduceLE, Int.reduceToNat, Int.reduceEq, Int.reduceNe, Int.reduceBEq, Int.reduceBNe, ne_eq, eq_self]
  · refine both_intro (fun h => ?_) (fun h => ?_) <;> simp only [h, v_within, ↓D0, ↓D1, ↓D2, ↓D3, ↓D4, ↓D5, ↓D6, ↓D7, ↓D8, ↓D9, ↓D10, U0, U1, U2, U3, U4, U5, U6, U7, U8, U9, U10, ↓reduceIte, Nat.reduceAdd, Nat.reduceMul, Nat.reduceSub, Nat.reduceEqDiff, Nat.reduceBEq, Nat.reduceLeDiff, Nat.reduceLT, Int.reduceAdd, Int.reduceMul, Int.reduceSub, Int.reduceLT, Int.reduceLE, Int.reduceToNat, Int.reduceEq, Int.reduceNe, Int.reduceBEq, Int.reduceBNe, ne_eq, eq_self]
    all_goals simp [may, hsub, *]
  · simp [may, hsub, *]
theorem v_may (p c m : Int) : pv Try.prog 108 #[.agg #[.int .i64 p, .int .i64 c, .int .i64 m]] = some (.bool (may p c m)) := pv_of (p_may p c m)

theorem p_size (k : Int) : PureC Try.prog 113 #[.int .i64 k] (.int .i64 (size k)) := by
  refine PureC.of mixed Try.func113 (by kernel_rfl) tr113 (by show 1 ≤ _; decide) fun W H => ?_
  cases h : within k 0 3
  · simp only [v_within, h, ↓D0, ↓D1, ↓D2, ↓D3, ↓D4, ↓D5, ↓D6, ↓D7, ↓D8, ↓D9, ↓D10, U0, U1, U2, U3, U4, U5, U6, U7, U8, U9, U10, ↓reduceIte, Nat.reduceAdd, Nat.reduceMul, Nat.reduceSub, Nat.reduceEqDiff, Nat.reduceBEq, Nat.reduceLeDiff, Nat.reduceLT, Int.reduceAdd, Int.reduceMul, Int.reduceSub, Int.reduceLT, Int.reduceLE, Int.reduceToNat, Int.reduceEq, Int.reduceNe, Int.reduceBEq, Int.reduceBNe, ne_eq, eq_self]
    simp [size_no h, Sub.refl]
  · rcases class_cases h with rfl | rfl | rfl | rfl
    all_goals
      simp only [v_within, h, ↓D0, ↓D1, ↓D2, ↓D3, ↓D4, ↓D5, ↓D6, ↓D7, ↓D8, ↓D9, ↓D10, U0, U1, U2, U3, U4, U5, U6, U7, U8, U9, U10, ↓reduceIte, Nat.reduceAdd, Nat.reduceMul, Nat.reduceSub, Nat.reduceEqDiff, Nat.reduceBEq, Nat.reduceLeDiff, Nat.reduceLT, Int.reduceAdd, Int.reduceMul, Int.reduceSub, Int.reduceLT, Int.reduceLE, Int.reduceToNat, Int.reduceEq, Int.reduceNe, Int.reduceBEq, Int.reduceBNe, ne_eq, eq_self]
      exact ⟨congrArg (Value.int .i64) (by decide), Sub.refl H⟩
theorem v_size (k : Int) : pv Try.prog 113 #[.int .i64 k] = some (.int .i64 (size k)) := pv_of (p_size k)

theorem p_slots (k : Int) : PureC Try.prog 100 #[.int .i64 k] (.int .i64 (slots k)) := by
  refine PureC.of mixed Try.func100 (by kernel_rfl) tr100 (by show 1 ≤ _; decide) fun W H => ?_
  cases h : within k 0 3
  · simp only [v_within, h, ↓D0, ↓D1, ↓D2, ↓D3, ↓D4, ↓D5, ↓D6, ↓D7, ↓D8, ↓D9, ↓D10, U0, U1, U2, U3, U4, U5, U6, U7, U8, U9, U10, ↓reduceIte, Nat.reduceAdd, Nat.reduceMul, Nat.reduceSub, Nat.reduceEqDiff, Nat.reduceBEq, Nat.reduceLeDiff, Nat.reduceLT, Int.reduceAdd, Int.reduceMul, Int.reduceSub, Int.reduceLT, Int.reduceLE, Int.reduceToNat, Int.reduceEq, Int.reduceNe, Int.reduceBEq, Int.reduceBNe, ne_eq, eq_self]
    simp [slots_no h, Sub.refl]
  · rcases class_cases h with rfl | rfl | rfl | rfl
    all_goals
      simp only [v_within, h, ↓D0, ↓D1, ↓D2, ↓D3, ↓D4, ↓D5, ↓D6, ↓D7, ↓D8, ↓D9, ↓D10, U0, U1, U2, U3, U4, U5, U6, U7, U8, U9, U10, ↓reduceIte, Nat.reduceAdd, Nat.reduceMul, Nat.reduceSub, Nat.reduceEqDiff, Nat.reduceBEq, Nat.reduceLeDiff, Nat.reduceLT, Int.reduceAdd, Int.reduceMul, Int.reduceSub, Int.reduceLT, Int.reduceLE, Int.reduceToNat, Int.reduceEq, Int.reduceNe, Int.reduceBEq, Int.reduceBNe, ne_eq, eq_self]
      exact ⟨congrArg (Value.int .i64) (by decide), Sub.refl H⟩
theorem v_slots (k : Int) : pv Try.prog 100 #[.int .i64 k] = some (.int .i64 (slots k)) := pv_of (p_slots k)

def classI (n : Int) (H : Hp) (F' : Fr) (H' : Hp) : Prop := ∃ k : Int, 0 ≤ k ∧ k ≤ cls n ∧ gt F' 4 = .int .i64 k ∧ gt F' 0 = .int .i64 n ∧ H' = H


theorem shl6 {n : Int} (h : -100000 ≤ n) (h' : n ≤ 100000) : IntKind.i64.wrap (n * 2 ^ min 6 IntKind.i64.bits) = n * 64 := by
  rw [show ((2 : Int) ^ min 6 IntKind.i64.bits) = 64 by decide]
  exact w64_eq (by omega) (by omega)
theorem shr6 (n : Int) : Int.fdiv n (2 ^ min 6 IntKind.i64.bits) = n / 64 := by
  rw [show ((2 : Int) ^ min 6 IntKind.i64.bits) = 64 by decide, Int.fdiv_eq_ediv_of_nonneg _ (by decide)]



theorem p_status (p c m i : Int) : PureC Try.prog 65 #[.agg #[.int .i64 p, .int .i64 c, .int .i64 m], .int .i64 i] (.int .i64 (status p c m i)) := by
  refine PureC.of mixed Try.func65 (by kernel_rfl) tr65 (by show 2 ≤ _; decide) fun W H => ?_
  simp only [↓D0, ↓D1, ↓D2, ↓D3, ↓D4, ↓D5, ↓D6, ↓D7, ↓D8, ↓D9, ↓D10, U0, U1, U2, U3, U4, U5, U6, U7, U8, U9, U10, ↓reduceIte, Nat.reduceAdd, Nat.reduceMul, Nat.reduceSub, Nat.reduceEqDiff, Nat.reduceBEq, Nat.reduceLeDiff, Nat.reduceLT, Int.reduceAdd, Int.reduceMul, Int.reduceSub, Int.reduceLT, Int.reduceLE, Int.reduceToNat, Int.reduceEq, Int.reduceNe, Int.reduceBEq, Int.reduceBNe, ne_eq, eq_self]
  refine newB_intro fun b hb h1 h2 => ?_
  have hsub : ∀ o, Sub H (upd H b o) := fun o => (Sub.refl H).new h1
  cases h : may p c m
  · simp only [v_may, h, ↓D0, ↓D1, ↓D2, ↓D3, ↓D4, ↓D5, ↓D6, ↓D7, ↓D8, ↓D9, ↓D10, U0, U1, U2, U3, U4, U5, U6, U7, U8, U9, U10, ↓reduceIte, Nat.reduceAdd, Nat.reduceMul, Nat.reduceSub, Nat.reduceEqDiff, Nat.reduceBEq, Nat.reduceLeDiff, Nat.reduceLT, Int.reduceAdd, Int.reduceMul, Int.reduceSub, Int.reduceLT, Int.reduceLE, Int.reduceToNat, Int.reduceEq, Int.reduceNe, Int.reduceBEq, Int.reduceBNe, ne_eq, eq_self]
    simp [status, h, hsub]
  · have hm := (may_iff _ _ _).1 h
    have e1 : w64 (c - 1) = c - 1 := w64_eq (by omega) (by omega)
    cases h2 : within i 0 (c - 1)
    all_goals
      simp only [v_may, v_within, h, h2, wrap_w64, e1, ↓D0, ↓D1, ↓D2, ↓D3, ↓D4, ↓D5, ↓D6, ↓D7, ↓D8, ↓D9, ↓D10, U0, U1, U2, U3, U4, U5, U6, U7, U8, U9, U10, ↓reduceIte, Nat.reduceAdd, Nat.reduceMul, Nat.reduceSub, Nat.reduceEqDiff, Nat.reduceBEq, Nat.reduceLeDiff, Nat.reduceLT, Int.reduceAdd, Int.reduceMul, Int.reduceSub, Int.reduceLT, Int.reduceLE, Int.reduceToNat, Int.reduceEq, Int.reduceNe, Int.reduceBEq, Int.reduceBNe, ne_eq, eq_self]
      simp [status, h, h2, hsub]
theorem v_status (p c m i : Int) : pv Try.prog 65 #[.agg #[.int .i64 p, .int .i64 c, .int .i64 m], .int .i64 i] = some (.int .i64 (status p c m i)) := pv_of (p_status p c m i)

theorem p_page (p c m i : Int) : PureC Try.prog 68 #[.agg #[.int .i64 p, .int .i64 c, .int .i64 m], .int .i64 i] (.int .i64 (page p c m i)) := by
  refine PureC.of mixed Try.func68 (by kernel_rfl) tr68 (by show 2 ≤ _; decide) fun W H => ?_
  simp only [↓D0, ↓D1, ↓D2, ↓D3, ↓D4, ↓D5, ↓D6, ↓D7, ↓D8, ↓D9, ↓D10, U0, U1, U2, U3, U4, U5, U6, U7, U8, U9, U10, ↓reduceIte, Nat.reduceAdd, Nat.reduceMul, Nat.reduceSub, Nat.reduceEqDiff, Nat.reduceBEq, Nat.reduceLeDiff, Nat.reduceLT, Int.reduceAdd, Int.reduceMul, Int.reduceSub, Int.reduceLT, Int.reduceLE, Int.reduceToNat, Int.reduceEq, Int.reduceNe, Int.reduceBEq, Int.reduceBNe, ne_eq, eq_self]
  refine newB_intro fun b hb h1 h2 => ?_
  have hsub : ∀ o, Sub H (upd H b o) := fun o => (Sub.refl H).new h1
  cases h : may p c m
  · simp only [v_may, h, ↓D0, ↓D1, ↓D2, ↓D3, ↓D4, ↓D5, ↓D6, ↓D7, ↓D8, ↓D9, ↓D10, U0, U1, U2, U3, U4, U5, U6, U7, U8, U9, U10, ↓reduceIte, Nat.reduceAdd, Nat.reduceMul, Nat.reduceSub, Nat.reduceEqDiff, Nat.reduceBEq, Nat.reduceLeDiff, Nat.reduceLT, Int.reduceAdd, Int.reduceMul, Int.reduceSub, Int.reduceLT, Int.reduceLE, Int.reduceToNat, Int.reduceEq, Int.reduceNe, Int.reduceBEq, Int.reduceBNe, ne_eq, eq_self]
    simp [page, h, hsub]
  · have hm := (may_iff _ _ _).1 h
    have e1 : w64 (p - 1) = p - 1 := w64_eq (by omega) (by omega)
    cases h2 : within i 0 (p - 1)
    · simp only [v_may, v_within, h, h2, wrap_w64, e1, ↓D0, ↓D1, ↓D2, ↓D3, ↓D4, ↓D5, ↓D6, ↓D7, ↓D8, ↓D9, ↓D10, U0, U1, U2, U3, U4, U5, U6, U7, U8, U9, U10, ↓reduceIte, Nat.reduceAdd, Nat.reduceMul, Nat.reduceSub, Nat.reduceEqDiff, Nat.reduceBEq, Nat.reduceLeDiff, Nat.reduceLT, Int.reduceAdd, Int.reduceMul, Int.reduceSub, Int.reduceLT, Int.reduceLE, Int.reduceToNat, Int.reduceEq, Int.reduceNe, Int.reduceBEq, Int.reduceBNe, ne_eq, eq_self]
      simp [page, h, h2, hsub]
    · have hi := (win_iff _ _ _).1 h2
      have e2 : w64 (c + i) = c + i := w64_eq (by omega) (by omega)
      simp only [v_may, v_within, h, h2, wrap_w64, e1, e2, ↓D0, ↓D1, ↓D2, ↓D3, ↓D4, ↓D5, ↓D6, ↓D7, ↓D8, ↓D9, ↓D10, U0, U1, U2, U3, U4, U5, U6, U7, U8, U9, U10, ↓reduceIte, Nat.reduceAdd, Nat.reduceMul, Nat.reduceSub, Nat.reduceEqDiff, Nat.reduceBEq, Nat.reduceLeDiff, Nat.reduceLT, Int.reduceAdd, Int.reduceMul, Int.reduceSub, Int.reduceLT, Int.reduceLE, Int.reduceToNat, Int.reduceEq, Int.reduceNe, Int.reduceBEq, Int.reduceBNe, ne_eq, eq_self]
      simp [page, h, h2, hsub]
theorem v_page (p c m i : Int) : pv Try.prog 68 #[.agg #[.int .i64 p, .int .i64 c, .int .i64 m], .int .i64 i] = some (.int .i64 (page p c m i)) := pv_of (p_page p c m i)

theorem p_slot (p c m i j : Int) : PureC Try.prog 76 #[.agg #[.int .i64 p, .int .i64 c, .int .i64 m], .int .i64 i, .int .i64 j] (.int .i64 (slot p c m i j)) := by
  refine PureC.of mixed Try.func76 (by kernel_rfl) tr76 (by show 3 ≤ _; decide) fun W H => ?_
  simp only [↓D0, ↓D1, ↓D2, ↓D3, ↓D4, ↓D5, ↓D6, ↓D7, ↓D8, ↓D9, ↓D10, U0, U1, U2, U3, U4, U5, U6, U7, U8, U9, U10, ↓reduceIte, Nat.reduceAdd, Nat.reduceMul, Nat.reduceSub, Nat.reduceEqDiff, Nat.reduceBEq, Nat.reduceLeDiff, Nat.reduceLT, Int.reduceAdd, Int.reduceMul, Int.reduceSub, Int.reduceLT, Int.reduceLE, Int.reduceToNat, Int.reduceEq, Int.reduceNe, Int.reduceBEq, Int.reduceBNe, ne_eq, eq_self]
  refine newB_intro fun b hb h1 h2 => ?_
  have hsub : ∀ o, Sub H (upd H b o) := fun o => (Sub.refl H).new h1
  cases h : may p c m
  · simp only [v_may, h, ↓D0, ↓D1, ↓D2, ↓D3, ↓D4, ↓D5, ↓D6, ↓D7, ↓D8, ↓D9, ↓D10, U0, U1, U2, U3, U4, U5, U6, U7, U8, U9, U10, ↓reduceIte, Nat.reduceAdd, Nat.reduceMul, Nat.reduceSub, Nat.reduceEqDiff, Nat.reduceBEq, Nat.reduceLeDiff, Nat.reduceLT, Int.reduceAdd, Int.reduceMul, Int.reduceSub, Int.reduceLT, Int.reduceLE, Int.reduceToNat, Int.reduceEq, Int.reduceNe, Int.reduceBEq, Int.reduceBNe, ne_eq, eq_self]
    simp [slot, h, hsub]
  · have hm := (may_iff _ _ _).1 h
    have e1 : w64 (p - 1) = p - 1 := w64_eq (by omega) (by omega)
    cases h2 : within i 0 (p - 1)
    · simp only [v_may, v_within, h, h2, wrap_w64, e1, ↓D0, ↓D1, ↓D2, ↓D3, ↓D4, ↓D5, ↓D6, ↓D7, ↓D8, ↓D9, ↓D10, U0, U1, U2, U3, U4, U5, U6, U7, U8, U9, U10, ↓reduceIte, Nat.reduceAdd, Nat.reduceMul, Nat.reduceSub, Nat.reduceEqDiff, Nat.reduceBEq, Nat.reduceLeDiff, Nat.reduceLT, Int.reduceAdd, Int.reduceMul, Int.reduceSub, Int.reduceLT, Int.reduceLE, Int.reduceToNat, Int.reduceEq, Int.reduceNe, Int.reduceBEq, Int.reduceBNe, ne_eq, eq_self]
      simp [slot, h, h2, hsub]
    · have hi := (win_iff _ _ _).1 h2
      cases h3 : within j 0 15
      · simp only [v_may, v_within, h, h2, h3, wrap_w64, e1, ↓D0, ↓D1, ↓D2, ↓D3, ↓D4, ↓D5, ↓D6, ↓D7, ↓D8, ↓D9, ↓D10, U0, U1, U2, U3, U4, U5, U6, U7, U8, U9, U10, ↓reduceIte, Nat.reduceAdd, Nat.reduceMul, Nat.reduceSub, Nat.reduceEqDiff, Nat.reduceBEq, Nat.reduceLeDiff, Nat.reduceLT, Int.reduceAdd, Int.reduceMul, Int.reduceSub, Int.reduceLT, Int.reduceLE, Int.reduceToNat, Int.reduceEq, Int.reduceNe, Int.reduceBEq, Int.reduceBNe, ne_eq, eq_self]
        simp [slot, h, h2, h3, hsub]
      · have hj := (win_iff _ _ _).1 h3
        have e2 : w64 (c + p) = c + p := w64_eq (by omega) (by omega)
        have e3 : w64 (i * 16) = i * 16 := w64_eq (by omega) (by omega)
        have e4 : w64 (c + p + i * 16) = c + p + i * 16 := w64_eq (by omega) (by omega)
        have e5 : w64 (c + p + i * 16 + j) = c + p + i * 16 + j := w64_eq (by omega) (by omega)
        simp only [v_may, v_within, h, h2, h3, wrap_w64, e1, e2, e3, e4, e5, ↓D0, ↓D1, ↓D2, ↓D3, ↓D4, ↓D5, ↓D6, ↓D7, ↓D8, ↓D9, ↓D10, U0, U1, U2, U3, U4, U5, U6, U7, U8, U9, U10, ↓reduceIte, Nat.reduceAdd, Nat.reduceMul, Nat.reduceSub, Nat.reduceEqDiff, Nat.reduceBEq, Nat.reduceLeDiff, Nat.reduceLT, Int.reduceAdd, Int.reduceMul, Int.reduceSub, Int.reduceLT, Int.reduceLE, Int.reduceToNat, Int.reduceEq, Int.reduceNe, Int.reduceBEq, Int.reduceBNe, ne_eq, eq_self]
        simp [slot, h, h2, h3, hsub]
theorem v_slot (p c m i j : Int) : pv Try.prog 76 #[.agg #[.int .i64 p, .int .i64 c, .int .i64 m], .int .i64 i, .int .i64 j] = some (.int .i64 (slot p c m i j)) := pv_of (p_slot p c m i j)

theorem p_mag (p c m i j : Int) : PureC Try.prog 96 #[.agg #[.int .i64 p, .int .i64 c, .int .i64 m], .int .i64 i, .int .i64 j] (.int .i64 (mag p c m i j)) := by
  refine PureC.of mixed Try.func96 (by kernel_rfl) tr96 (by show 3 ≤ _; decide) fun W H => ?_
  simp only [↓D0, ↓D1, ↓D2, ↓D3, ↓D4, ↓D5, ↓D6, ↓D7, ↓D8, ↓D9, ↓D10, U0, U1, U2, U3, U4, U5, U6, U7, U8, U9, U10, ↓reduceIte, Nat.reduceAdd, Nat.reduceMul, Nat.reduceSub, Nat.reduceEqDiff, Nat.reduceBEq, Nat.reduceLeDiff, Nat.reduceLT, Int.reduceAdd, Int.reduceMul, Int.reduceSub, Int.reduceLT, Int.reduceLE, Int.reduceToNat, Int.reduceEq, Int.reduceNe, Int.reduceBEq, Int.reduceBNe, ne_eq, eq_self]
  refine newB_intro fun b hb h1 h2 => ?_
  have hsub : ∀ o, Sub H (upd H b o) := fun o => (Sub.refl H).new h1
  cases h : may p c m
  · simp only [v_may, h, ↓D0, ↓D1, ↓D2, ↓D3, ↓D4, ↓D5, ↓D6, ↓D7, ↓D8, ↓D9, ↓D10, U0, U1, U2, U3, U4, U5, U6, U7, U8, U9, U10, ↓reduceIte, Nat.reduceAdd, Nat.reduceMul, Nat.reduceSub, Nat.reduceEqDiff, Nat.reduceBEq, Nat.reduceLeDiff, Nat.reduceLT, Int.reduceAdd, Int.reduceMul, Int.reduceSub, Int.reduceLT, Int.reduceLE, Int.reduceToNat, Int.reduceEq, Int.reduceNe, Int.reduceBEq, Int.reduceBNe, ne_eq, eq_self]
    simp [mag, h, hsub]
  · have hm := (may_iff _ _ _).1 h
    have e1 : w64 (c - 1) = c - 1 := w64_eq (by omega) (by omega)
    have e1' : w64 (m - 1) = m - 1 := w64_eq (by omega) (by omega)
    cases h2 : within i 0 (c - 1)
    · simp only [v_may, v_within, h, h2, wrap_w64, e1, e1', ↓D0, ↓D1, ↓D2, ↓D3, ↓D4, ↓D5, ↓D6, ↓D7, ↓D8, ↓D9, ↓D10, U0, U1, U2, U3, U4, U5, U6, U7, U8, U9, U10, ↓reduceIte, Nat.reduceAdd, Nat.reduceMul, Nat.reduceSub, Nat.reduceEqDiff, Nat.reduceBEq, Nat.reduceLeDiff, Nat.reduceLT, Int.reduceAdd, Int.reduceMul, Int.reduceSub, Int.reduceLT, Int.reduceLE, Int.reduceToNat, Int.reduceEq, Int.reduceNe, Int.reduceBEq, Int.reduceBNe, ne_eq, eq_self]
      simp [mag, h, h2, hsub]
    · have hi := (win_iff _ _ _).1 h2
      cases h3 : within j 0 (m - 1)
      · simp only [v_may, v_within, h, h2, h3, wrap_w64, e1, e1', ↓D0, ↓D1, ↓D2, ↓D3, ↓D4, ↓D5, ↓D6, ↓D7, ↓D8, ↓D9, ↓D10, U0, U1, U2, U3, U4, U5, U6, U7, U8, U9, U10, ↓reduceIte, Nat.reduceAdd, Nat.reduceMul, Nat.reduceSub, Nat.reduceEqDiff, Nat.reduceBEq, Nat.reduceLeDiff, Nat.reduceLT, Int.reduceAdd, Int.reduceMul, Int.reduceSub, Int.reduceLT, Int.reduceLE, Int.reduceToNat, Int.reduceEq, Int.reduceNe, Int.reduceBEq, Int.reduceBNe, ne_eq, eq_self]
        simp [mag, h, h2, h3, hsub]
      · have hj := (win_iff _ _ _).1 h3
        have hb := mul_bd i m (by omega) (by omega) (by omega) (by omega)
        have e2 : w64 (c + p) = c + p := w64_eq (by omega) (by omega)
        have e3 : w64 (p * 16) = p * 16 := w64_eq (by omega) (by omega)
        have e4 : w64 (c + p + p * 16) = c + p + p * 16 := w64_eq (by omega) (by omega)
        have e5 : w64 (i * m) = i * m := w64_eq (by omega) (by omega)
        have e6 : w64 (c + p + p * 16 + i * m) = c + p + p * 16 + i * m := w64_eq (by omega) (by omega)
        have e7 : w64 (c + p + p * 16 + i * m + j) = c + p + p * 16 + i * m + j := w64_eq (by omega) (by omega)
        simp only [v_may, v_within, h, h2, h3, wrap_w64, e1, e1', e2, e3, e4, e5, e6, e7, ↓D0, ↓D1, ↓D2, ↓D3, ↓D4, ↓D5, ↓D6, ↓D7, ↓D8, ↓D9, ↓D10, U0, U1, U2, U3, U4, U5, U6, U7, U8, U9, U10, ↓reduceIte, Nat.reduceAdd, Nat.reduceMul, Nat.reduceSub, Nat.reduceEqDiff, Nat.reduceBEq, Nat.reduceLeDiff, Nat.reduceLT, Int.reduceAdd, Int.reduceMul, Int.reduceSub, Int.reduceLT, Int.reduceLE, Int.reduceToNat, Int.reduceEq, Int.reduceNe, Int.reduceBEq, Int.reduceBNe, ne_eq, eq_self]
        simp [mag, h, h2, h3, hsub]
theorem v_mag (p c m i j : Int) : pv Try.prog 96 #[.agg #[.int .i64 p, .int .i64 c, .int .i64 m], .int .i64 i, .int .i64 j] = some (.int .i64 (mag p c m i j)) := pv_of (p_mag p c m i j)

theorem and63 {a : Int} (h : 0 ≤ a) (h' : a ≤ 100000) : bits .and .i64 a 63 = a % 64 := by
  obtain ⟨n, rfl⟩ := Int.eq_ofNat_of_zero_le h
  unfold bits
  have e : (BitVec.ofInt IntKind.i64.bits (n : Int) &&& BitVec.ofInt IntKind.i64.bits 63).toNat = n % 64 := by
    show (BitVec.ofInt 64 (n : Int) &&& BitVec.ofInt 64 63).toNat = n % 64
    rw [BitVec.toNat_and]
    have e1 : (BitVec.ofInt 64 (n : Int)).toNat = n := by
      rw [BitVec.ofInt_natCast, BitVec.toNat_ofNat]; omega
    rw [e1, show (BitVec.ofInt 64 63).toNat = 2 ^ 6 - 1 from by decide, Nat.and_two_pow_sub_one_eq_mod]
  simp only [e]
  rw [wrap_w64, w64_eq (by omega) (by omega)]
  omega

theorem p_split (p c m a : Int) : PureC Try.prog 84 #[.agg #[.int .i64 p, .int .i64 c, .int .i64 m], .int .i64 a] (.tuple #[.int .i64 (sp p c m a), .int .i64 (so p c m a), .bool (there p c m a)]) := by
  refine PureC.of mixed Try.func84 (by kernel_rfl) tr84 (by show 2 ≤ _; decide) fun W H => ?_
  simp only [↓D0, ↓D1, ↓D2, ↓D3, ↓D4, ↓D5, ↓D6, ↓D7, ↓D8, ↓D9, ↓D10, U0, U1, U2, U3, U4, U5, U6, U7, U8, U9, U10, ↓reduceIte, Nat.reduceAdd, Nat.reduceMul, Nat.reduceSub, Nat.reduceEqDiff, Nat.reduceBEq, Nat.reduceLeDiff, Nat.reduceLT, Int.reduceAdd, Int.reduceMul, Int.reduceSub, Int.reduceLT, Int.reduceLE, Int.reduceToNat, Int.reduceEq, Int.reduceNe, Int.reduceBEq, Int.reduceBNe, ne_eq, eq_self]
  refine newB_intro fun b hb h1 h2 => ?_
  have hsub : ∀ o, Sub H (upd H b o) := fun o => (Sub.refl H).new h1
  cases h : may p c m
  · simp only [v_may, h, ↓D0, ↓D1, ↓D2, ↓D3, ↓D4, ↓D5, ↓D6, ↓D7, ↓D8, ↓D9, ↓D10, U0, U1, U2, U3, U4, U5, U6, U7, U8, U9, U10, ↓reduceIte, Nat.reduceAdd, Nat.reduceMul, Nat.reduceSub, Nat.reduceEqDiff, Nat.reduceBEq, Nat.reduceLeDiff, Nat.reduceLT, Int.reduceAdd, Int.reduceMul, Int.reduceSub, Int.reduceLT, Int.reduceLE, Int.reduceToNat, Int.reduceEq, Int.reduceNe, Int.reduceBEq, Int.reduceBNe, ne_eq, eq_self]
    simp [sp, so, there, h, hsub]
  · have hm := (may_iff _ _ _).1 h
    have e0 := shl6 (n := p) (by omega) (by omega)
    have e1 : w64 (p * 64 - 1) = p * 64 - 1 := w64_eq (by omega) (by omega)
    cases h2 : within a 0 (p * 64 - 1)
    · simp only [v_may, v_within, h, h2, e0, wrap_w64, e1, ↓D0, ↓D1, ↓D2, ↓D3, ↓D4, ↓D5, ↓D6, ↓D7, ↓D8, ↓D9, ↓D10, U0, U1, U2, U3, U4, U5, U6, U7, U8, U9, U10, ↓reduceIte, Nat.reduceAdd, Nat.reduceMul, Nat.reduceSub, Nat.reduceEqDiff, Nat.reduceBEq, Nat.reduceLeDiff, Nat.reduceLT, Int.reduceAdd, Int.reduceMul, Int.reduceSub, Int.reduceLT, Int.reduceLE, Int.reduceToNat, Int.reduceEq, Int.reduceNe, Int.reduceBEq, Int.reduceBNe, ne_eq, eq_self]
      simp [sp, so, there, h, h2, hsub]
    · have hi := (win_iff _ _ _).1 h2
      have e2 := and63 (a := a) (by omega) (by omega)
      simp only [v_may, v_within, h, h2, e0, wrap_w64, e1, e2, shr6, ↓D0, ↓D1, ↓D2, ↓D3, ↓D4, ↓D5, ↓D6, ↓D7, ↓D8, ↓D9, ↓D10, U0, U1, U2, U3, U4, U5, U6, U7, U8, U9, U10, ↓reduceIte, Nat.reduceAdd, Nat.reduceMul, Nat.reduceSub, Nat.reduceEqDiff, Nat.reduceBEq, Nat.reduceLeDiff, Nat.reduceLT, Int.reduceAdd, Int.reduceMul, Int.reduceSub, Int.reduceLT, Int.reduceLE, Int.reduceToNat, Int.reduceEq, Int.reduceNe, Int.reduceBEq, Int.reduceBNe, ne_eq, eq_self]
      simp [sp, so, there, h, h2, hsub]
theorem v_split (p c m a : Int) : pv Try.prog 84 #[.agg #[.int .i64 p, .int .i64 c, .int .i64 m], .int .i64 a] = some (.tuple #[.int .i64 (sp p c m a), .int .i64 (so p c m a), .bool (there p c m a)]) := pv_of (p_split p c m a)

end Go.Proofs.Ytfopnendmcpglaa
