/-
  What an adoption leaves, as it is looked at page by page. Conditions: none.
-/
import Derived.Test.YtfopnendmcpglaaMaPart4
set_option linter.unusedVariables false
set_option linter.unusedSectionVars false
set_option linter.unusedSimpArgs false
namespace Go.Ma
open Go.Pl
section
variable {s : Sh} {ws0 ws : Nat → Int} {d q i n y : Int}
theorem pgA_bd (s : Sh) (q x : Int) : 0 ≤ pgA s q x ∧ pgA s q x ≤ 255 := by
  unfold pgA
  split
  · unfold pt; omega
  · omega
theorem slA_bd (x : Int) : 0 ≤ slA x ∧ slA x ≤ 255 := by
  unfold slA
  split
  · unfold pt; omega
  · omega
variable (hm : may s.p s.c s.m = true) (hsn : Snd s ws0) (d0 : 0 ≤ d) (d1 : d < s.c) (g : Gn s ws0 d ws)
include hm hsn d0 d1 g
/-- Is a page the dead one's? -/
theorem Gn.mine (h0 : 0 ≤ q) (h1 : q < s.p) (b : Bool) (hb : b = true ↔ (HeldBy s ws0 d q ∨ BodyOf s ws0 d q)) : (b = false ∧ pgAt s ws q = pgAt s ws0 q) ∨ (b = true ∧ pgAt s ws q = 0 ∧ pgAt s ws0 q ≠ 0) := by
  rcases g.page hm hsn d0 d1 h0 h1 with ⟨n1, n2, e⟩ | ⟨hx, e, f⟩
  · refine .inl ⟨?_, e⟩
    cases b
    · rfl
    · rcases hb.1 rfl with h | h
      · exact absurd h n1
      · exact absurd h n2
  · exact .inr ⟨hb.2 hx, e, f⟩
/-- Is a slot the dead one's? In a page that is not. -/
theorem Gn.own (h0 : 0 ≤ q) (h1 : q < s.p) (n1 : ¬ HeldBy s ws0 d q) (i0 : 0 ≤ i) (i1 : i < 16) (b : Bool) (hb : b = true ↔ (pgK s q (pgAt s ws0 q) = 2 ∧ slK (slAt s ws0 q i) = 2 ∧ slA (slAt s ws0 q i) = d)) : (b = false ∧ slAt s ws q i = slAt s ws0 q i) ∨ (b = true ∧ slAt s ws q i ≠ slAt s ws0 q i) := by
  have hb' := (may_iff _ _ _).1 hm
  have dw := way_ne d d0 (by omega)
  rcases g.slot hm hsn d0 d1 h0 h1 i0 i1 with ⟨-, e, f⟩ | ⟨-, e1, e2, e3⟩ | ⟨hh, -⟩
  · refine .inl ⟨?_, e⟩
    cases b
    · rfl
    · obtain ⟨k1, k2, k3⟩ := hb.1 rfl
      have := is_way k2
      rw [k3] at this
      exact absurd ⟨k1, this⟩ f
  · have hA := pgA_bd s q (pgAt s ws0 q)
    have on := opn_ne (pgA s q (pgAt s ws0 q)) hA.1 hA.2
    refine .inr ⟨hb.2 ⟨e1, by rw [e2]; exact dw.2.1, by rw [e2]; exact dw.2.2⟩, ?_⟩
    rw [e2, e3]
    intro e
    have := congrArg slK e
    rw [on.2.1, dw.2.1] at this; cases this
  · exact absurd hh n1
end
end Go.Ma
