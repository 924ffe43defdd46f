/-
  A heap that is sound, as a plain predicate on its words. Conditions: none.
-/
import Derived.Test.YtfopnendmcpglaaMaGive
set_option linter.unusedVariables false
set_option linter.unusedSimpArgs false
namespace Go.Ma
open Go.Pl
/-- The word of a page, of a slot, of an entry. -/
def pgAt (s : Sh) (ws : Nat → Int) (q : Int) : Int := ws (page s.p s.c s.m q).toNat
def slAt (s : Sh) (ws : Nat → Int) (q i : Int) : Int := ws (s.c + s.p + q * 16 + i).toNat
def mgAt (s : Sh) (ws : Nat → Int) (c i : Int) : Int := ws (s.c + s.p + s.p * 16 + c * s.m + i).toNat
/-- A slot of a super. -/
def slB (c A i y : Int) : Bool := cond (decide (i < slots A)) ((((slK y == 1) || (slK y == 3)) && (slA y == A)) || ((slK y == 2) && decide (slA y < c))) (!(y != 0))
/-- A page, of which is known what it says. -/
structure SpB (s : Sh) (ws : Nat → Int) (p K A : Int) : Prop where
  sup : (K == 2) = true → ∀ i : Nat, i < 16 → slB s.c A i (slAt s ws p i) = true
  emp : (K == 2) = false → (K == 1) = false → ∀ i : Nat, i < 16 → slAt s ws p i = 0
  bod : (K == 2) = false → (K == 1) = false → (K == 4) = true → ((pgK s A (pgAt s ws A) == 1) || ((pgK s A (pgAt s ws A) == 3) && decide (p < A + pgA s A (pgAt s ws A)))) = true
  lar : (K == 2) = false → (K == 1) = false → (K == 4) = false → (K == 3) = true → ∀ i : Int, 1 ≤ i → i < A → pgK s (p + i) (pgAt s ws (p + i)) = 4 ∧ pgA s (p + i) (pgAt s ws (p + i)) = p
/-- An entry: what it says is there. -/
structure EnB (s : Sh) (ws : Nat → Int) (c x : Int) : Prop where
  ok : okEn s x = true
  k : pgK s (enP s x) (pgAt s ws (enP s x)) = 2
  a : pgA s (enP s x) (pgAt s ws (enP s x)) = enK s x
  w : slAt s ws (enP s x) (enS s x) = putSl 2 c
/-- One entry is ahead of another one. -/
def ahead (c' i' c i : Nat) : Prop := c' < c ∨ (c' = c ∧ i' < i)
structure Snd (s : Sh) (ws : Nat → Int) : Prop where
  pg : ∀ p : Nat, (p : Int) < s.p → okPg s p (pgAt s ws p) = true ∧ SpB s ws p (pgK s p (pgAt s ws p)) (pgA s p (pgAt s ws p))
  en : ∀ c i : Nat, (c : Int) < s.c → (i : Int) < s.m → mgAt s ws c i ≠ 0 → EnB s ws c (mgAt s ws c i)
  dj : ∀ c i c' i' : Nat, (c : Int) < s.c → (i : Int) < s.m → (i' : Int) < s.m → ahead c' i' c i → mgAt s ws c i ≠ 0 → mgAt s ws c' i' ≠ 0 → ¬ (enP s (mgAt s ws c' i') = enP s (mgAt s ws c i) ∧ enS s (mgAt s ws c' i') = enS s (mgAt s ws c i))
section
variable {s : Sh} {ws : Nat → Int} {p K A : Int}
theorem SpB.one (k2 : (K == 2) = false) (k1 : (K == 1) = true) : SpB s ws p K A :=
  ⟨fun h => (by rw [k2] at h; cases h), fun _ h => (by rw [k1] at h; cases h), fun _ h => (by rw [k1] at h; cases h), fun _ h => (by rw [k1] at h; cases h)⟩
theorem SpB.two (k2 : (K == 2) = true) (h : ∀ i : Nat, i < 16 → slB s.c A i (slAt s ws p i) = true) : SpB s ws p K A :=
  ⟨fun _ => h, fun h => (by rw [k2] at h; cases h), fun h => (by rw [k2] at h; cases h), fun h => (by rw [k2] at h; cases h)⟩
theorem SpB.oth (k2 : (K == 2) = false) (he : ∀ i : Nat, i < 16 → slAt s ws p i = 0) (k4 : (K == 4) = false) (k3 : (K == 3) = false) : SpB s ws p K A :=
  ⟨fun h => (by rw [k2] at h; cases h), fun _ _ => he, fun _ _ h => (by rw [k4] at h; cases h), fun _ _ _ h => (by rw [k3] at h; cases h)⟩
theorem SpB.large (k2 : (K == 2) = false) (he : ∀ i : Nat, i < 16 → slAt s ws p i = 0) (k4 : (K == 4) = false) (hl : ∀ i : Int, 1 ≤ i → i < A → pgK s (p + i) (pgAt s ws (p + i)) = 4 ∧ pgA s (p + i) (pgAt s ws (p + i)) = p) : SpB s ws p K A :=
  ⟨fun h => (by rw [k2] at h; cases h), fun _ _ => he, fun _ _ h => (by rw [k4] at h; cases h), fun _ _ _ _ => hl⟩
theorem SpB.four (k2 : (K == 2) = false) (he : ∀ i : Nat, i < 16 → slAt s ws p i = 0) (k4 : (K == 4) = true) (hb : ((pgK s A (pgAt s ws A) == 1) || ((pgK s A (pgAt s ws A) == 3) && decide (p < A + pgA s A (pgAt s ws A)))) = true) : SpB s ws p K A :=
  ⟨fun h => (by rw [k2] at h; cases h), fun _ _ => he, fun _ _ _ => hb, fun _ _ h => (by rw [k4] at h; cases h)⟩
end
end Go.Ma
