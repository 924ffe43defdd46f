/-
  Runs of who gives. Conditions: none.
-/
import Derived.Test.YtfopnendmcpglaaMaGive
import Derived.Test.YtfopnendmcpglaaMaIts
set_option linter.unusedVariables false
set_option linter.unusedSimpArgs false
namespace Go.Ma
open Go.Pl
namespace Gv
variable {t : Gv} {w : Wd}
/-- What stays over a run. -/
theorem its_all (h : t.wf) (ho : w.of t.s) (n : Nat) : (its Gv.step n t w).1.wf ∧ (its Gv.step n t w).2.of t.s ∧ (its Gv.step n t w).1.s = t.s ∧ (its Gv.step n t w).1.c = t.c ∧ (its Gv.step n t w).1.a = t.a ∧ (its Gv.step n t w).1.pg = t.pg :=
  its_inv (P := fun (x : Gv) (y : Wd) => x.wf ∧ y.of t.s ∧ x.s = t.s ∧ x.c = t.c ∧ x.a = t.a ∧ x.pg = t.pg) (fun x y ⟨h1, h2, h3, h4, h5, h6⟩ => by
    have hk := step_keeps (w := y) h1
    exact ⟨step_wf h1 h2.u, step_of h1 h2, hk.1.trans h3, hk.2.1.trans h4, hk.2.2.1.trans h5, hk.2.2.2.trans h6⟩) ⟨h, ho, rfl, rfl, rfl, rfl⟩ n
theorem its_dn (h : t.dn = true) : ∀ n, its Gv.step n t w = (t, w)
  | 0 => rfl
  | n + 1 => by show step (its Gv.step n t w).1 (its Gv.step n t w).2 = _; rw [its_dn h n]; exact step_dn h
theorem its_left (h : t.wf) (ho : w.of t.s) : ∀ n : Nat, (its Gv.step n t w).1.left ≤ max 0 (t.left - n)
  | 0 => by show t.left ≤ _; omega
  | n + 1 => by
    have ih := its_left h ho n
    have hw := (its_all h ho n).1
    have hn := left_nn hw
    cases hd : (its Gv.step n t w).1.dn
    · have := step_left (w := (its Gv.step n t w).2) hw hd
      show (step (its Gv.step n t w).1 (its Gv.step n t w).2).1.left ≤ _
      omega
    · show (step (its Gv.step n t w).1 (its Gv.step n t w).2).1.left ≤ _
      rw [step_dn hd]
      show (its Gv.step n t w).1.left ≤ _
      have : (its Gv.step n t w).1.left = 0 := by unfold left; rw [hd]; rfl
      omega
/-- At the end it has ended. -/
theorem its_end (h : t.wf) (ho : w.of t.s) {n : Nat} (hn : t.left ≤ n) : (its Gv.step n t w).1.dn = true := by
  have h1 := its_left (w := w) h ho n
  exact left_dn (its_all h ho n).1 (by omega)
end Gv
end Go.Ma
