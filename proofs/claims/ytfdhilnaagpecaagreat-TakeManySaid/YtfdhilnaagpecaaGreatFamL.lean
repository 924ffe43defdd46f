/-
  A family of lists of parts of a heap: those of one are taken out, and put back; a row of any values. Conditions: none.
-/
import Derived.Test.YtfdhilnaagpecaaGreatSep
set_option linter.unusedVariables false
set_option linter.unusedSimpArgs false
namespace Go.Ev
open Go
/-- The parts of so many. -/
def famL (n : Nat) (g : Nat → List Hp) : List Hp := (List.range n).flatMap g
/-- Of all but one. -/
def famLB (n c : Nat) (g : Nat → List Hp) : List Hp := ((List.range n).erase c).flatMap g
section
variable {g g' : Nat → List Hp} {n c : Nat} {l x : List Hp} {H : Hp}
theorem famL_pick (hc : c < n) : (famL n g ++ l).Perm (g c ++ (famLB n c g ++ l)) := by
  have h := ((List.perm_cons_erase (List.mem_range.2 hc)).flatMap_right g).append_right l
  rw [List.flatMap_cons, List.append_assoc] at h
  exact h
theorem famL_rest (h : ∀ d, d ≠ c → g' d = g d) : famLB n c g' = famLB n c g := by
  unfold famLB
  rw [List.flatMap_def, List.flatMap_def]
  congr 1
  apply List.map_congr_left
  intro d hd
  exact h d ((List.nodup_range (n := n)).mem_erase_iff.1 hd).1
theorem Sep.pickF (pre : List Hp) (h : Sep (pre ++ (famL n g ++ l)) H) (hc : c < n) : Sep (g c ++ (pre ++ (famLB n c g ++ l))) H :=
  h.perm ((List.Perm.append_left pre (famL_pick hc)).trans (List.perm_append_comm_assoc _ _ _))
theorem Sep.backF (pre : List Hp) (h : Sep (x ++ (pre ++ (famLB n c g ++ l))) H) (hc : c < n) (hx : g' c = x) (h1 : ∀ d, d ≠ c → g' d = g d) : Sep (pre ++ (famL n g' ++ l)) H := by
  rw [← famL_rest (n := n) h1, ← hx] at h
  exact h.perm ((List.perm_append_comm_assoc _ _ _).trans (List.Perm.append_left pre (famL_pick hc).symm))
theorem Sep.moreF (pre : List Hp) (h : Sep (x ++ (pre ++ (famL n g ++ l))) H) (hx : g' n = x) (h1 : ∀ d, d < n → g' d = g d) : Sep (pre ++ (famL (n + 1) g' ++ l)) H := by
  have e : famL (n + 1) g' = famL n g ++ x := by
    unfold famL
    rw [List.range_succ, List.flatMap_append, List.flatMap_singleton, hx]
    congr 1
    rw [List.flatMap_def, List.flatMap_def]
    congr 1
    apply List.map_congr_left
    intro d hd
    exact h1 d (List.mem_range.1 hd)
  rw [e, List.append_assoc]
  exact h.perm ((List.perm_append_comm_assoc _ _ _).trans (List.Perm.append_left pre (List.perm_append_comm_assoc _ _ _)))
theorem Sep.dropF : ∀ {m : List Hp}, Sep (m ++ l) H → Sep l H
  | [], h => h
  | _ :: m, h => Sep.dropF (m := m) h.tail
theorem Sep.over {X L Y : List Hp} {H : Hp} (h : Sep (X ++ (L ++ Y)) H) : Sep (L ++ (X ++ Y)) H := h.perm (List.perm_append_comm_assoc X L Y)
end
/-- A row of so many values. -/
def vrow (n : Nat) (f : Nat → Value) : Array Value := Array.ofFn (n := n) fun j => f j.val
theorem vrow_size (n : Nat) (f : Nat → Value) : (vrow n f).size = n := by simp [vrow]
theorem vrow_at {n : Nat} {f : Nat → Value} {i : Nat} (h : i < n) : (vrow n f)[i]? = some (f i) := by simp [vrow, Array.getElem?_ofFn, h]
theorem vrow_set {n : Nat} {f : Nat → Value} {i : Nat} (x : Value) : (vrow n f).setIfInBounds i x = vrow n (fun j => if j = i then x else f j) := by
  apply Array.ext
  · simp [vrow]
  · intro k h1 h2
    have hk : k < n := by simpa [vrow] using h2
    rw [Array.getElem_setIfInBounds (by simpa [vrow] using hk)]
    by_cases h : i = k
    · subst h; simp [vrow]
    · have h' : ¬ k = i := fun e => h e.symm
      simp [vrow, h, h']
theorem vrow_same (n : Nat) (v : Value) : Array.replicate n v = vrow n fun _ => v := by
  apply Array.ext
  · simp [vrow]
  · intro k h1 h2; simp [vrow]
end Go.Ev
