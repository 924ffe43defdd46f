/-
  The blocks of a heap, plain. Conditions: none.
-/
import Derived.Test.YtfopnendmcpglaaMaSound
set_option linter.unusedVariables false
set_option linter.unusedSectionVars false
namespace Go.Ma
open Go.Pl
section
variable (s : Sh) (ws : Nat → Int)
/-- The blocks in the first slots of a page. -/
def blkSl (p A : Int) : Nat → List (Int × Int)
  | 0 => []
  | n + 1 => blkSl p A n ++ (if slK (slAt s ws p n) = 3 then [(p * 64 + n * size A, size A)] else [])
def blkPg (p : Int) : List (Int × Int) :=
  if pgK s p (pgAt s ws p) = 3 then [(p * 64, pgA s p (pgAt s ws p) * 64)] else if pgK s p (pgAt s ws p) = 2 then blkSl s ws p (pgA s p (pgAt s ws p)) (slots (pgA s p (pgAt s ws p))).toNat else []
def blks : Nat → List (Int × Int)
  | 0 => []
  | n + 1 => blks n ++ blkPg s ws n
end
section
variable {s : Sh} {ws ws' : Nat → Int}
theorem blkSl_len (p A : Int) : ∀ n, (blkSl s ws p A n).length ≤ n
  | 0 => Nat.le_refl _
  | n + 1 => by
    have := blkSl_len p A n
    unfold blkSl
    rw [List.length_append]
    split
    · simp; omega
    · simp; omega
theorem blkPg_len (p : Int) : (blkPg s ws p).length ≤ 16 := by
  unfold blkPg
  split
  · simp
  · split
    · have := blkSl_len (s := s) (ws := ws) p (pgA s p (pgAt s ws p)) (slots (pgA s p (pgAt s ws p))).toNat
      have := slots_bd (pgA s p (pgAt s ws p))
      omega
    · simp
theorem blks_len : ∀ n, (blks s ws n).length ≤ 16 * n
  | 0 => Nat.le_refl _
  | n + 1 => by
    have := blks_len n
    have := blkPg_len (s := s) (ws := ws) n
    unfold blks
    rw [List.length_append]; omega
/-- Blocks hang on what pages say, and on which slots are taken. -/
theorem blkSl_congr {p A : Int} : ∀ {n : Nat}, (∀ i : Nat, i < n → (slK (slAt s ws' p i) = 3 ↔ slK (slAt s ws p i) = 3)) → blkSl s ws' p A n = blkSl s ws p A n
  | 0, _ => rfl
  | n + 1, h => by
    unfold blkSl
    rw [blkSl_congr fun i hi => h i (by omega)]
    by_cases e : slK (slAt s ws p n) = 3
    · rw [if_pos e, if_pos ((h n (by omega)).2 e)]
    · rw [if_neg e, if_neg fun e2 => e ((h n (by omega)).1 e2)]
theorem blkPg_congr {p : Int} (h1 : pgK s p (pgAt s ws' p) = pgK s p (pgAt s ws p)) (h2 : pgK s p (pgAt s ws p) = 2 ∨ pgK s p (pgAt s ws p) = 3 → pgA s p (pgAt s ws' p) = pgA s p (pgAt s ws p))
    (h3 : pgK s p (pgAt s ws p) = 2 → ∀ i : Nat, i < 16 → (slK (slAt s ws' p i) = 3 ↔ slK (slAt s ws p i) = 3)) : blkPg s ws' p = blkPg s ws p := by
  unfold blkPg
  rw [h1]
  by_cases e3 : pgK s p (pgAt s ws p) = 3
  · rw [if_pos e3, if_pos e3, h2 (.inr e3)]
  · rw [if_neg e3, if_neg e3]
    by_cases e2 : pgK s p (pgAt s ws p) = 2
    · rw [if_pos e2, if_pos e2, h2 (.inl e2)]
      have := slots_bd (pgA s p (pgAt s ws p))
      exact blkSl_congr fun i hi => h3 e2 i (by omega)
    · rw [if_neg e2, if_neg e2]
theorem blkPg_none {p : Int} (h : pgK s p (pgAt s ws p) ≠ 2) (h' : pgK s p (pgAt s ws p) ≠ 3) : blkPg s ws p = [] := by
  unfold blkPg; rw [if_neg h', if_neg h]
theorem blks_congr : ∀ {n : Nat}, (∀ p : Nat, p < n → blkPg s ws' p = blkPg s ws p) → blks s ws' n = blks s ws n
  | 0, _ => rfl
  | n + 1, h => by
    unfold blks
    rw [blks_congr fun i hi => h i (by omega), h n (by omega)]
end
end Go.Ma
