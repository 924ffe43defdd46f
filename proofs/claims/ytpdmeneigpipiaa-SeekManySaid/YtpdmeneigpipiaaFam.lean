/-
  A family of parts of a heap: one of them is taken out, and put back. Conditions: none.
-/
import Derived.Test.YtpdmeneigpipiaaSep
set_option linter.unusedVariables false
namespace Go.Ev
open Go

/-- So many parts. -/
def fam (n : Nat) (g : Nat → Hp) : List Hp := (List.range n).map g
/-- All but one. -/
def famBut (n c : Nat) (g : Nat → Hp) : List Hp := ((List.range n).erase c).map g
section
variable {g g' : Nat → Hp} {n c : Nat} {l : List Hp} {H x a b : Hp}
theorem fam_pick (hc : c < n) : (fam n g ++ l).Perm (g c :: (famBut n c g ++ l)) :=
  (((List.perm_cons_erase (List.mem_range.2 hc)).map g).append_right l)
theorem fam_rest (h : ∀ d, d ≠ c → g' d = g d) : famBut n c g' = famBut n c g := by
  unfold famBut
  apply List.map_congr_left
  intro d hd
  exact h d ((List.nodup_range (n := n)).mem_erase_iff.1 hd).1
theorem fam_back (hc : c < n) (hx : g' c = x) (h : ∀ d, d ≠ c → g' d = g d) : (x :: (famBut n c g ++ l)).Perm (fam n g' ++ l) := by
  rw [← fam_rest h, ← hx]; exact (fam_pick hc).symm
theorem fam_more (hx : g' n = x) (h : ∀ d, d < n → g' d = g d) : (x :: (fam n g ++ l)).Perm (fam (n + 1) g' ++ l) := by
  have e : fam (n + 1) g' = fam n g ++ [x] := by
    unfold fam
    rw [List.range_succ, List.map_append, List.map_singleton, hx]
    congr 1
    apply List.map_congr_left
    intro d hd
    exact h d (List.mem_range.1 hd)
  rw [e, List.append_assoc]
  exact List.perm_middle.symm
theorem Sep.pick2 (h : Sep (a :: b :: (fam n g ++ l)) H) (hc : c < n) : Sep (g c :: a :: b :: (famBut n c g ++ l)) H :=
  (h.perm (((fam_pick hc).cons b).cons a)).p2
theorem Sep.back2 (h : Sep (x :: a :: b :: (famBut n c g ++ l)) H) (hc : c < n) (hx : g' c = x) (h' : ∀ d, d ≠ c → g' d = g d) : Sep (a :: b :: (fam n g' ++ l)) H :=
  h.r2.perm (((fam_back hc hx h').cons b).cons a)
theorem Sep.more2 (h : Sep (x :: a :: b :: (fam n g ++ l)) H) (hx : g' n = x) (h' : ∀ d, d < n → g' d = g d) : Sep (a :: b :: (fam (n + 1) g' ++ l)) H :=
  h.r2.perm (((fam_more hx h').cons b).cons a)
theorem Sep.pick3 {c' : Hp} (h : Sep (a :: b :: c' :: (fam n g ++ l)) H) (hc : c < n) : Sep (g c :: b :: c' :: a :: (famBut n c g ++ l)) H :=
  ((h.perm ((((fam_pick hc).cons c').cons b).cons a)).p3).p1.r3
theorem Sep.back3 {c' : Hp} (h : Sep (x :: b :: c' :: a :: (famBut n c g ++ l)) H) (hc : c < n) (hx : g' c = x) (h' : ∀ d, d ≠ c → g' d = g d) : Sep (a :: b :: c' :: (fam n g' ++ l)) H :=
  h.p3.p1.r3.perm ((((fam_back hc hx h').cons c').cons b).cons a)
theorem Sep.more3 {c' : Hp} (h : Sep (x :: a :: b :: c' :: (fam n g ++ l)) H) (hx : g' n = x) (h' : ∀ d, d < n → g' d = g d) : Sep (a :: b :: c' :: (fam (n + 1) g' ++ l)) H :=
  h.r3.perm ((((fam_more hx h').cons c').cons b).cons a)
theorem Sep.drop : ∀ {m : List Hp}, Sep (m ++ l) H → Sep l H
  | [], h => h
  | _ :: m, h => Sep.drop (m := m) h.tail
end
end Go.Ev
