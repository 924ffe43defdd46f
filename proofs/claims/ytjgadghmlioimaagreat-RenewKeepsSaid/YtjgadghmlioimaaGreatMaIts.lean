/-
  Runs of the machines. Conditions: none.
-/
import Derived.Test.YtjgadghmlioimaaGreatMaMag
set_option linter.unusedVariables false
namespace Go.Ma
open Go.Pl

theorem its_inv {T : Type} {st : T → Wd → T × Wd} {P : T → Wd → Prop} (hs : ∀ t w, P t w → P (st t w).1 (st t w).2) {t : T} {w : Wd} (h : P t w) : ∀ n, P (its st n t w).1 (its st n t w).2
  | 0 => h
  | n + 1 => hs _ _ (its_inv hs h n)
theorem its_shift {T : Type} (st : T → Wd → T × Wd) (t : T) (w : Wd) : ∀ n, its st n (st t w).1 (st t w).2 = its st (n + 1) t w
  | 0 => rfl
  | n + 1 => by
    show st (its st n _ _).1 (its st n _ _).2 = st (its st (n + 1) t w).1 (its st (n + 1) t w).2
    rw [its_shift st t w n]

namespace Bi
variable {t : Bi} {w : Wd}
theorem its_s (n : Nat) : (its Bi.step n t w).1.s = t.s := its_inv (P := fun (x : Bi) _ => x.s = t.s) (fun _ _ h => step_s.trans h) rfl n
theorem its_c (n : Nat) : (its Bi.step n t w).1.c = t.c := its_inv (P := fun (x : Bi) _ => x.c = t.c) (fun _ _ h => step_c.trans h) rfl n
theorem its_wf (h : t.wf) (n : Nat) : (its Bi.step n t w).1.wf := its_inv (P := fun (x : Bi) _ => x.wf) (fun _ _ h => step_wf h) h n
theorem its_of {s : Sh} (h : w.of s) (n : Nat) : (its Bi.step n t w).2.of s := its_inv (P := fun _ y => y.of s) (fun _ _ h => step_of h) h n
theorem its_dn (h : t.dn = true) : ∀ n, its Bi.step n t w = (t, w)
  | 0 => rfl
  | n + 1 => by show step (its Bi.step n t w).1 (its Bi.step n t w).2 = _; rw [its_dn h n]; exact step_dn h
theorem its_left (h : t.wf) : ∀ n : Nat, (its Bi.step n t w).1.left ≤ max 0 (t.left - n)
  | 0 => by show t.left ≤ _; omega
  | n + 1 => by
    have ih := its_left h n
    have hw := its_wf (w := w) h n
    have hn := left_nn hw
    cases hd : (its Bi.step n t w).1.dn
    · have := step_left (w := (its Bi.step n t w).2) hw hd
      show (step (its Bi.step n t w).1 (its Bi.step n t w).2).1.left ≤ _
      omega
    · show (step (its Bi.step n t w).1 (its Bi.step n t w).2).1.left ≤ _
      rw [step_dn hd]
      show (its Bi.step n t w).1.left ≤ _
      have : (its Bi.step n t w).1.left = 0 := by unfold left; rw [hd]; rfl
      omega
/-- At the end it has ended. -/
theorem its_end (h : t.wf) {n : Nat} (hn : t.left ≤ n) : (its Bi.step n t w).1.dn = true := by
  have h1 := its_left (w := w) h n
  exact left_dn (its_wf h n) (by omega)
end Bi

namespace St
variable {t : St} {w : Wd}
theorem its_s (n : Nat) : (its St.step n t w).1.s = t.s := its_inv (P := fun (x : St) _ => x.s = t.s) (fun _ _ h => step_s.trans h) rfl n
theorem its_c (n : Nat) : (its St.step n t w).1.c = t.c := its_inv (P := fun (x : St) _ => x.c = t.c) (fun _ _ h => step_c.trans h) rfl n
theorem its_wf (h : t.wf) (n : Nat) : (its St.step n t w).1.wf := its_inv (P := fun (x : St) _ => x.wf) (fun _ _ h => step_wf h) h n
theorem its_of {s : Sh} (h : w.of s) (n : Nat) : (its St.step n t w).2.of s := its_inv (P := fun _ y => y.of s) (fun _ _ h => step_of h) h n
theorem its_dn (h : t.dn = true) : ∀ n, its St.step n t w = (t, w)
  | 0 => rfl
  | n + 1 => by show step (its St.step n t w).1 (its St.step n t w).2 = _; rw [its_dn h n]; exact step_dn h
theorem its_left (h : t.wf) : ∀ n : Nat, (its St.step n t w).1.left ≤ max 0 (t.left - n)
  | 0 => by show t.left ≤ _; omega
  | n + 1 => by
    have ih := its_left h n
    have hw := its_wf (w := w) h n
    have hn := left_nn hw
    cases hd : (its St.step n t w).1.dn
    · have := step_left (w := (its St.step n t w).2) hw hd
      show (step (its St.step n t w).1 (its St.step n t w).2).1.left ≤ _
      omega
    · show (step (its St.step n t w).1 (its St.step n t w).2).1.left ≤ _
      rw [step_dn hd]
      show (its St.step n t w).1.left ≤ _
      have : (its St.step n t w).1.left = 0 := by unfold left; rw [hd]; rfl
      omega
/-- At the end it has ended. -/
theorem its_end (h : t.wf) {n : Nat} (hn : t.left ≤ n) : (its St.step n t w).1.dn = true := by
  have h1 := its_left (w := w) h n
  exact left_dn (its_wf h n) (by omega)
end St

namespace Tk
variable {t : Tk} {w : Wd}
theorem its_s (n : Nat) : (its Tk.step n t w).1.s = t.s := its_inv (P := fun (x : Tk) _ => x.s = t.s) (fun _ _ h => step_s.trans h) rfl n
theorem its_c (n : Nat) : (its Tk.step n t w).1.c = t.c := its_inv (P := fun (x : Tk) _ => x.c = t.c) (fun _ _ h => step_c.trans h) rfl n
theorem its_wf (h : t.wf) (n : Nat) : (its Tk.step n t w).1.wf := its_inv (P := fun (x : Tk) _ => x.wf) (fun _ _ h => step_wf h) h n
theorem its_of {s : Sh} (h : w.of s) (n : Nat) : (its Tk.step n t w).2.of s := its_inv (P := fun _ y => y.of s) (fun _ _ h => step_of h) h n
theorem its_dn (h : t.dn = true) : ∀ n, its Tk.step n t w = (t, w)
  | 0 => rfl
  | n + 1 => by show step (its Tk.step n t w).1 (its Tk.step n t w).2 = _; rw [its_dn h n]; exact step_dn h
theorem its_left (h : t.wf) : ∀ n : Nat, (its Tk.step n t w).1.left ≤ max 0 (t.left - n)
  | 0 => by show t.left ≤ _; omega
  | n + 1 => by
    have ih := its_left h n
    have hw := its_wf (w := w) h n
    have hn := left_nn hw
    cases hd : (its Tk.step n t w).1.dn
    · have := step_left (w := (its Tk.step n t w).2) hw hd
      show (step (its Tk.step n t w).1 (its Tk.step n t w).2).1.left ≤ _
      omega
    · show (step (its Tk.step n t w).1 (its Tk.step n t w).2).1.left ≤ _
      rw [step_dn hd]
      show (its Tk.step n t w).1.left ≤ _
      have : (its Tk.step n t w).1.left = 0 := by unfold left; rw [hd]; rfl
      omega
/-- At the end it has ended. -/
theorem its_end (h : t.wf) {n : Nat} (hn : t.left ≤ n) : (its Tk.step n t w).1.dn = true := by
  have h1 := its_left (w := w) h n
  exact left_dn (its_wf h n) (by omega)
end Tk

namespace Pu
variable {t : Pu} {w : Wd}
theorem its_s (n : Nat) : (its Pu.step n t w).1.s = t.s := its_inv (P := fun (x : Pu) _ => x.s = t.s) (fun _ _ h => step_s.trans h) rfl n
theorem its_c (n : Nat) : (its Pu.step n t w).1.c = t.c := its_inv (P := fun (x : Pu) _ => x.c = t.c) (fun _ _ h => step_c.trans h) rfl n
theorem its_wf (h : t.wf) (n : Nat) : (its Pu.step n t w).1.wf := its_inv (P := fun (x : Pu) _ => x.wf) (fun _ _ h => step_wf h) h n
theorem its_of {s : Sh} (h : w.of s) (n : Nat) : (its Pu.step n t w).2.of s := its_inv (P := fun _ y => y.of s) (fun _ _ h => step_of h) h n
theorem its_dn (h : t.dn = true) : ∀ n, its Pu.step n t w = (t, w)
  | 0 => rfl
  | n + 1 => by show step (its Pu.step n t w).1 (its Pu.step n t w).2 = _; rw [its_dn h n]; exact step_dn h
theorem its_left (h : t.wf) : ∀ n : Nat, (its Pu.step n t w).1.left ≤ max 0 (t.left - n)
  | 0 => by show t.left ≤ _; omega
  | n + 1 => by
    have ih := its_left h n
    have hw := its_wf (w := w) h n
    have hn := left_nn hw
    cases hd : (its Pu.step n t w).1.dn
    · have := step_left (w := (its Pu.step n t w).2) hw hd
      show (step (its Pu.step n t w).1 (its Pu.step n t w).2).1.left ≤ _
      omega
    · show (step (its Pu.step n t w).1 (its Pu.step n t w).2).1.left ≤ _
      rw [step_dn hd]
      show (its Pu.step n t w).1.left ≤ _
      have : (its Pu.step n t w).1.left = 0 := by unfold left; rw [hd]; rfl
      omega
/-- At the end it has ended. -/
theorem its_end (h : t.wf) {n : Nat} (hn : t.left ≤ n) : (its Pu.step n t w).1.dn = true := by
  have h1 := its_left (w := w) h n
  exact left_dn (its_wf h n) (by omega)
end Pu

namespace Sc
variable {t : Sc} {w : Wd}
theorem its_s (n : Nat) : (its Sc.step n t w).1.s = t.s := its_inv (P := fun (x : Sc) _ => x.s = t.s) (fun _ _ h => step_s.trans h) rfl n
theorem its_c (n : Nat) : (its Sc.step n t w).1.c = t.c := its_inv (P := fun (x : Sc) _ => x.c = t.c) (fun _ _ h => step_c.trans h) rfl n
theorem its_wf (h : t.wf) (n : Nat) : (its Sc.step n t w).1.wf := its_inv (P := fun (x : Sc) _ => x.wf) (fun _ _ h => step_wf h) h n
theorem its_of {s : Sh} (h : w.of s) (n : Nat) : (its Sc.step n t w).2.of s := its_inv (P := fun _ y => y.of s) (fun _ _ h => step_of h) h n
theorem its_dn (h : t.dn = true) : ∀ n, its Sc.step n t w = (t, w)
  | 0 => rfl
  | n + 1 => by show step (its Sc.step n t w).1 (its Sc.step n t w).2 = _; rw [its_dn h n]; exact step_dn h
theorem its_left (h : t.wf) : ∀ n : Nat, (its Sc.step n t w).1.left ≤ max 0 (t.left - n)
  | 0 => by show t.left ≤ _; omega
  | n + 1 => by
    have ih := its_left h n
    have hw := its_wf (w := w) h n
    have hn := left_nn hw
    cases hd : (its Sc.step n t w).1.dn
    · have := step_left (w := (its Sc.step n t w).2) hw hd
      show (step (its Sc.step n t w).1 (its Sc.step n t w).2).1.left ≤ _
      omega
    · show (step (its Sc.step n t w).1 (its Sc.step n t w).2).1.left ≤ _
      rw [step_dn hd]
      show (its Sc.step n t w).1.left ≤ _
      have : (its Sc.step n t w).1.left = 0 := by unfold left; rw [hd]; rfl
      omega
/-- At the end it has ended. -/
theorem its_end (h : t.wf) {n : Nat} (hn : t.left ≤ n) : (its Sc.step n t w).1.dn = true := by
  have h1 := its_left (w := w) h n
  exact left_dn (its_wf h n) (by omega)
end Sc

end Go.Ma
