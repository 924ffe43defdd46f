/-
  The numbers of a claimer of slots are small; what is left of it never grows. Conditions: none.
-/
import Derived.Test.YtfapipblclikbaaMaAlone2
import Derived.Test.YtfapipblclikbaaMaStrip
set_option linter.unusedVariables false
namespace Go.Ma
open Go.Pl

def Sc.Bd (t : Sc) : Prop := 0 < t.s.p ∧ 0 ≤ t.f ∧ t.f ≤ 1000 ∧ 0 ≤ t.many ∧ t.many ≤ 1000
theorem Sc.Bd.new {s : Sh} {c k f : Int} (h : 0 < s.p) (h0 : 0 ≤ f) (h1 : f ≤ 1000) : (Sc.new s c k f).Bd := ⟨h, h0, h1, Int.le_refl _, by show (0 : Int) ≤ 1000; omega⟩
theorem Sc.Bd.step {t : Sc} {w : Wd} (h : t.Bd) (hw : t.wf) : (t.step w).1.Bd := by
  obtain ⟨a1, a2, a3, a4, a5⟩ := h
  rcases Sc.step_cases t w with ⟨-, e⟩ | ⟨hd, hcs⟩
  · rw [e]; exact ⟨a1, a2, a3, a4, a5⟩
  have b := hw.of hd
  have := (may_iff _ _ _).1 b.1
  have ht : ∀ t2 : Sc, t2.s = t.s → t2.f = t.f → t2.many = t.many → t2.turn.Bd := fun t2 e1 e2 e3 => by
    refine ⟨by show 0 < t2.s.p; rw [e1]; exact a1, by show 0 ≤ t2.f; rw [e2]; exact a2, by show t2.f ≤ 1000; rw [e2]; exact a3, by show 0 ≤ t2.many + 1; omega, by show t2.many + 1 ≤ 1000; omega⟩
  have hm : t.miss.Bd := by
    unfold Sc.miss; split
    · exact ht _ rfl rfl rfl
    · exact ⟨a1, a2, a3, a4, a5⟩
  rcases hcs with ⟨-, -, e⟩ | ⟨-, -, e⟩ | ⟨-, -, e⟩ | ⟨-, -, e⟩ | ⟨-, -, -, e⟩ | ⟨-, -, -, e⟩ <;> rw [e]
  · exact ⟨a1, a2, a3, a4, a5⟩
  · exact ht _ rfl rfl rfl
  · exact ⟨a1, a2, a3, a4, a5⟩
  · exact hm
  · exact ⟨a1, a2, a3, a4, a5⟩
  · exact hm
theorem Sc.Bd.fd {t : Sc} (h : t.Bd) : 0 < t.s.p ∧ 0 ≤ t.f + t.many ∧ t.f + t.many ≤ 9223372036854775807 := by obtain ⟨a1, a2, a3, a4, a5⟩ := h; omega
theorem Sc.left_step {t : Sc} {w : Wd} {m : Int} (h : t.wf) (hl : t.left ≤ max 0 m) : (t.step w).1.left ≤ max 0 (m - 1) := by
  cases hd : t.dn
  · have := Sc.step_left (w := w) h hd; omega
  · rw [Sc.step_dn hd]
    have : t.left = 0 := by unfold Sc.left; rw [hd]; rfl
    show t.left ≤ _; omega
theorem Bi.left_step {t : Bi} {w : Wd} {m : Int} (h : t.wf) (hl : t.left ≤ max 0 m) : (t.step w).1.left ≤ max 0 (m - 1) := by
  cases hd : t.dn
  · have := Bi.step_left (w := w) h hd; omega
  · rw [Bi.step_dn hd]
    have : t.left = 0 := by unfold Bi.left; rw [hd]; rfl
    show t.left ≤ _; omega
theorem St.left_step {t : St} {w : Wd} {m : Int} (h : t.wf) (hl : t.left ≤ max 0 m) : (t.step w).1.left ≤ max 0 (m - 1) := by
  cases hd : t.dn
  · have := St.step_left (w := w) h hd; omega
  · rw [St.step_dn hd]
    have : t.left = 0 := by unfold St.left; rw [hd]; rfl
    show t.left ≤ _; omega
end Go.Ma
