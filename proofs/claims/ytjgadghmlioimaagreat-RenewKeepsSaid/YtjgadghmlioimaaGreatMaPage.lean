/-
  The page claimer, plain: what stays, how long it goes on, where it ends. Conditions: none.
-/
import Derived.Test.YtjgadghmlioimaaGreatMa
set_option linter.unusedVariables false
namespace Go.Ma
open Go.Pl

/-- So many steps of a machine. -/
def its {T : Type} (st : T → Wd → T × Wd) : Nat → T → Wd → T × Wd
  | 0, t, w => (t, w)
  | n + 1, t, w => st (its st n t w).1 (its st n t w).2

namespace Pc
variable {t : Pc} {w : Wd}

theorem step_dn (h : t.dn = true) : t.step w = (t, w) := by unfold step; rw [h]; rfl
theorem step_cases (t : Pc) (w : Wd) : (t.dn = true ∧ t.step w = (t, w)) ∨ (t.dn = false ∧
    ((t.em = true ∧ w.get t.at' = 0 ∧ t.step w = ({ t with fd := true, dn := true }, w.swap t.c t.at' 0 (held t.c))) ∨ (t.em = true ∧ w.get t.at' ≠ 0 ∧ t.step w = (t.next, w.swap t.c t.at' 0 (held t.c))) ∨
     (t.em = false ∧ w.get t.at' = 0 ∧ t.step w = ({ t with em := true }, w.load t.c t.at')) ∨ (t.em = false ∧ w.get t.at' ≠ 0 ∧ t.step w = (t.next, w.load t.c t.at')))) := by
  unfold step
  cases hd : t.dn
  · right
    refine ⟨rfl, ?_⟩
    cases he : t.em <;> by_cases hz : w.get t.at' = 0 <;> simp [hz]
  · left; exact ⟨rfl, rfl⟩
theorem step_s : (t.step w).1.s = t.s := by
  rcases step_cases t w with ⟨-, e⟩ | ⟨-, ⟨-, -, e⟩ | ⟨-, -, e⟩ | ⟨-, -, e⟩ | ⟨-, -, e⟩⟩ <;> rw [e] <;> rfl
theorem step_c : (t.step w).1.c = t.c := by
  rcases step_cases t w with ⟨-, e⟩ | ⟨-, ⟨-, -, e⟩ | ⟨-, -, e⟩ | ⟨-, -, e⟩ | ⟨-, -, e⟩⟩ <;> rw [e] <;> rfl
theorem step_f : (t.step w).1.f = t.f := by
  rcases step_cases t w with ⟨-, e⟩ | ⟨-, ⟨-, -, e⟩ | ⟨-, -, e⟩ | ⟨-, -, e⟩ | ⟨-, -, e⟩⟩ <;> rw [e] <;> rfl
theorem step_n : (t.step w).2.n = w.n := by
  rcases step_cases t w with ⟨-, e⟩ | ⟨-, ⟨-, -, e⟩ | ⟨-, -, e⟩ | ⟨-, -, e⟩ | ⟨-, -, e⟩⟩ <;> rw [e] <;> rfl
theorem step_of {s : Sh} (h : w.of s) : (t.step w).2.of s := by
  rcases step_cases t w with ⟨-, e⟩ | ⟨-, ⟨-, -, e⟩ | ⟨-, -, e⟩ | ⟨-, -, e⟩ | ⟨-, -, e⟩⟩ <;> rw [e]
  · exact h
  · exact Wd.of_swap h (U_held _) _ _ _
  · exact Wd.of_swap h (U_held _) _ _ _
  · exact Wd.of_load h _ _
  · exact Wd.of_load h _ _
theorem next_wf (h : t.wf) (hd : t.dn = false) : t.next.wf := by
  obtain ⟨a1, a2, a3, a4, a5, a6, a7⟩ := h.of hd
  refine ⟨fun h2 => ?_⟩
  have h2 : t.many + 1 ≠ t.s.p := by simpa [next] using h2
  exact ⟨a1, a2, a3, a4, a5, by show 0 ≤ t.many + 1; omega, by show t.many + 1 < t.s.p; omega⟩
theorem step_wf (h : t.wf) : (t.step w).1.wf := by
  rcases step_cases t w with ⟨-, e⟩ | ⟨hd, ⟨-, -, e⟩ | ⟨-, -, e⟩ | ⟨-, -, e⟩ | ⟨-, -, e⟩⟩ <;> rw [e]
  · exact h
  · exact ⟨fun h2 => by cases h2⟩
  · exact next_wf h hd
  · exact ⟨fun _ => h.of hd⟩
  · exact next_wf h hd
/-- Who has not ended has found nothing. -/
theorem step_fd (h : t.dn = false → t.fd = false) : (t.step w).1.dn = false → (t.step w).1.fd = false := by
  rcases step_cases t w with ⟨-, e⟩ | ⟨hd, ⟨-, -, e⟩ | ⟨-, -, e⟩ | ⟨-, -, e⟩ | ⟨-, -, e⟩⟩ <;> rw [e]
  · exact h
  · intro h2; cases h2
  · intro _; exact h hd
  · intro _; exact h hd
  · intro _; exact h hd
/-- How many steps are left at most. -/
def left (t : Pc) : Int := if t.dn then 0 else 2 * (t.s.p - t.many) - (if t.em then 1 else 0)
theorem left_nn (h : t.wf) : 0 ≤ t.left := by
  unfold left; split
  · omega
  · rename_i h1; have := h.of (by simpa using h1); split <;> omega
theorem left_dn (h : t.wf) (hl : t.left = 0) : t.dn = true := by
  unfold left at hl; split at hl
  · assumption
  · rename_i h1; have := h.of (by simpa using h1); split at hl <;> omega
theorem next_left (h : t.wf) (hd : t.dn = false) : t.next.left ≤ 2 * (t.s.p - t.many) - 2 := by
  have := h.of hd
  unfold left next
  simp only
  split <;> simp <;> omega
theorem step_left (h : t.wf) (hd : t.dn = false) : (t.step w).1.left < t.left := by
  have hw := h.of hd
  have hn := next_left h hd
  have e0 : t.left = 2 * (t.s.p - t.many) - (if t.em then 1 else 0) := by unfold left; rw [hd]; rfl
  rw [e0]
  rcases step_cases t w with ⟨hd', e⟩ | ⟨-, ⟨he, -, e⟩ | ⟨he, -, e⟩ | ⟨he, -, e⟩ | ⟨he, -, e⟩⟩ <;> rw [e]
  · rw [hd] at hd'; cases hd'
  · rw [he]; simp [left]; omega
  · rw [he]; simp only [if_true]; omega
  · rw [he]; simp [left, hd]; omega
  · rw [he]; simp only [Bool.false_eq_true, if_false]; omega
theorem new_wf (s : Sh) (c f : Int) : (Pc.new s c f).wf := by
  constructor
  intro hd
  simp only [Pc.new, Bool.or_eq_false_iff, decide_eq_false_iff_not, status_lt0, page_lt0, Decidable.not_not] at hd
  exact ⟨hd.1.1, hd.1.2.1, hd.1.2.2, hd.2.2.1, hd.2.2.2, Int.le_refl 0, by have := (may_iff _ _ _).1 hd.1.1; show (0 : Int) < s.p; omega⟩
theorem its_s (n : Nat) : (its Pc.step n t w).1.s = t.s := by
  induction n with
  | zero => rfl
  | succ n ih => rw [← ih]; exact step_s
theorem its_wf (h : t.wf) (n : Nat) : (its Pc.step n t w).1.wf := by
  induction n with
  | zero => exact h
  | succ n ih => exact step_wf ih
theorem its_of {s : Sh} (h : w.of s) (n : Nat) : (its Pc.step n t w).2.of s := by
  induction n with
  | zero => exact h
  | succ n ih => exact step_of ih
theorem its_left (h : t.wf) (n : Nat) : (its Pc.step n t w).1.left ≤ max 0 (t.left - n) := by
  induction n with
  | zero => simp only [its]; omega
  | succ n ih =>
    have hw := its_wf (w := w) h n
    by_cases hd : (its Pc.step n t w).1.dn = true
    · have e : its Pc.step (n + 1) t w = its Pc.step n t w := step_dn hd
      rw [e]
      have : (its Pc.step n t w).1.left = 0 := by unfold left; rw [hd]; rfl
      omega
    · have := step_left (w := (its Pc.step n t w).2) hw (by simpa using hd)
      show ((its Pc.step n t w).1.step _).1.left ≤ _
      omega
theorem step_bd (h : t.wf) (hd : t.dn = false) (hf : t.fd = false) : (t.step w).1.fd = true → 0 ≤ (t.step w).1.f + (t.step w).1.many ∧ (t.step w).1.f + (t.step w).1.many ≤ 1000 := by
  have hw := h.of hd
  have := (may_iff _ _ _).1 hw.1
  rcases step_cases t w with ⟨hd', e⟩ | ⟨-, ⟨-, -, e⟩ | ⟨-, -, e⟩ | ⟨-, -, e⟩ | ⟨-, -, e⟩⟩ <;> rw [e]
  · rw [hd] at hd'; cases hd'
  · intro _; show 0 ≤ t.f + t.many ∧ t.f + t.many ≤ 1000; omega
  · intro h2; have h2 : t.fd = true := h2; rw [hf] at h2; cases h2
  · intro h2; have h2 : t.fd = true := h2; rw [hf] at h2; cases h2
  · intro h2; have h2 : t.fd = true := h2; rw [hf] at h2; cases h2
theorem step_st (h0 : 0 ≤ w.st) (h1 : w.st ≤ 1000000000) : w.st ≤ (t.step w).2.st ∧ (t.step w).2.st ≤ w.st + 1 := by
  have e0 : w64 (w.st + 1) = w.st + 1 := w64_eq (by omega) (by omega)
  rcases step_cases t w with ⟨-, e⟩ | ⟨-, ⟨-, -, e⟩ | ⟨-, -, e⟩ | ⟨-, -, e⟩ | ⟨-, -, e⟩⟩ <;> rw [e]
  · exact ⟨Int.le_refl _, by show w.st ≤ w.st + 1; omega⟩
  all_goals (show w.st ≤ w64 (w.st + 1) ∧ w64 (w.st + 1) ≤ w.st + 1; omega)
end Pc
end Go.Ma
