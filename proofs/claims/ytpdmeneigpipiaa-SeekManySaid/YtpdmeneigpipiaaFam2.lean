/-
  Families of parts of a heap, two and three at once: one of each is taken out, and put back. Conditions: none.
-/
import Derived.Test.YtpdmeneigpipiaaFam
set_option linter.unusedVariables false
namespace Go.Ev
open Go
section
variable {g g' k k' m m' : Nat → Hp} {n c : Nat} {l : List Hp} {H x y z : Hp}
theorem mid2 {A B X : List Hp} {y : Hp} : (A ++ (B ++ (y :: X))).Perm (y :: (A ++ (B ++ X))) := (List.Perm.append_left A List.perm_middle).trans List.perm_middle
theorem mid3 {A B C X : List Hp} {y : Hp} : (A ++ (B ++ (C ++ (y :: X)))).Perm (y :: (A ++ (B ++ (C ++ X)))) := (List.Perm.append_left A mid2).trans List.perm_middle
theorem fam2_pick (hc : c < n) : (fam n g ++ (fam n k ++ l)).Perm (g c :: k c :: (famBut n c g ++ (famBut n c k ++ l))) :=
  (fam_pick hc).trans ((((fam_pick hc).append_left _).trans List.perm_middle).cons _)
theorem Sep.pickL (pre : List Hp) (h : Sep (pre ++ (fam n g ++ (fam n k ++ l))) H) (hc : c < n) : Sep (g c :: k c :: (pre ++ (famBut n c g ++ (famBut n c k ++ l)))) H := by
  refine h.perm ((List.Perm.append_left pre (fam2_pick hc)).trans ?_)
  exact List.perm_middle.trans (List.perm_middle.cons _)
theorem Sep.backL (pre : List Hp) (h : Sep (x :: y :: (pre ++ (famBut n c g ++ (famBut n c k ++ l)))) H) (hc : c < n) (hx : g' c = x) (hy : k' c = y) (h1 : ∀ d, d ≠ c → g' d = g d) (h2 : ∀ d, d ≠ c → k' d = k d) : Sep (pre ++ (fam n g' ++ (fam n k' ++ l))) H := by
  rw [← fam_rest (n := n) h1, ← fam_rest (n := n) h2, ← hx, ← hy] at h
  refine h.perm (List.Perm.symm ?_)
  refine (List.Perm.append_left pre (fam2_pick hc)).trans ?_
  exact List.perm_middle.trans (List.perm_middle.cons _)
theorem Sep.moreL (pre : List Hp) (h : Sep (x :: y :: (pre ++ (fam n g ++ (fam n k ++ l)))) H) (hx : g' n = x) (hy : k' n = y) (h1 : ∀ d, d < n → g' d = g d) (h2 : ∀ d, d < n → k' d = k d) : Sep (pre ++ (fam (n + 1) g' ++ (fam (n + 1) k' ++ l))) H := by
  refine h.perm ?_
  have e1 : (x :: y :: (pre ++ (fam n g ++ (fam n k ++ l)))).Perm (pre ++ (x :: (fam n g ++ (y :: (fam n k ++ l))))) := (mid2.symm.cons x).trans List.perm_middle.symm
  refine e1.trans (List.Perm.append_left pre ?_)
  exact (fam_more hx h1).trans (List.Perm.append_left _ (fam_more hy h2))
theorem fam3_pick (hc : c < n) : (fam n g ++ (fam n k ++ (fam n m ++ l))).Perm (g c :: k c :: m c :: (famBut n c g ++ (famBut n c k ++ (famBut n c m ++ l)))) := by
  exact (fam2_pick (l := fam n m ++ l) hc).trans (List.Perm.cons _ (List.Perm.cons _ ((List.Perm.append_left _ (List.Perm.append_left _ (fam_pick hc))).trans mid2)))
theorem Sep.pickM (pre : List Hp) (h : Sep (pre ++ (fam n g ++ (fam n k ++ (fam n m ++ l)))) H) (hc : c < n) : Sep (g c :: k c :: m c :: (pre ++ (famBut n c g ++ (famBut n c k ++ (famBut n c m ++ l))))) H := by
  refine h.perm ((List.Perm.append_left pre (fam3_pick hc)).trans ?_)
  exact List.perm_middle.trans ((List.perm_middle.trans (List.perm_middle.cons _)).cons _)
theorem Sep.backM (pre : List Hp) (h : Sep (x :: y :: z :: (pre ++ (famBut n c g ++ (famBut n c k ++ (famBut n c m ++ l))))) H) (hc : c < n) (hx : g' c = x) (hy : k' c = y) (hz : m' c = z) (h1 : ∀ d, d ≠ c → g' d = g d) (h2 : ∀ d, d ≠ c → k' d = k d) (h3 : ∀ d, d ≠ c → m' d = m d) : Sep (pre ++ (fam n g' ++ (fam n k' ++ (fam n m' ++ l)))) H := by
  rw [← fam_rest (n := n) h1, ← fam_rest (n := n) h2, ← fam_rest (n := n) h3, ← hx, ← hy, ← hz] at h
  refine h.perm (List.Perm.symm ?_)
  refine (List.Perm.append_left pre (fam3_pick hc)).trans ?_
  exact List.perm_middle.trans ((List.perm_middle.trans (List.perm_middle.cons _)).cons _)
theorem Sep.moreM (pre : List Hp) (h : Sep (x :: y :: z :: (pre ++ (fam n g ++ (fam n k ++ (fam n m ++ l))))) H) (hx : g' n = x) (hy : k' n = y) (hz : m' n = z) (h1 : ∀ d, d < n → g' d = g d) (h2 : ∀ d, d < n → k' d = k d) (h3 : ∀ d, d < n → m' d = m d) : Sep (pre ++ (fam (n + 1) g' ++ (fam (n + 1) k' ++ (fam (n + 1) m' ++ l)))) H := by
  refine h.perm ?_
  have e1 : (x :: y :: z :: (pre ++ (fam n g ++ (fam n k ++ (fam n m ++ l))))).Perm (pre ++ (x :: (fam n g ++ (y :: (fam n k ++ (z :: (fam n m ++ l))))))) := (((mid3.symm.cons y).trans mid2.symm).cons x).trans List.perm_middle.symm
  refine e1.trans (List.Perm.append_left pre ?_)
  exact (fam_more hx h1).trans (List.Perm.append_left _ ((fam_more hy h2).trans (List.Perm.append_left _ (fam_more hz h3))))
end
end Go.Ev
