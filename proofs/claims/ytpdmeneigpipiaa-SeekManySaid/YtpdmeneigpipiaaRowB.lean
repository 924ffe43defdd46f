/-
  Rows of bools and of ints. Conditions: none.
-/
import Derived.Test.YtpdmeneigpipiaaRowV
import Derived.Test.YtpdmeneigpipiaaMaCount
set_option linter.unusedVariables false
set_option linter.unusedSimpArgs false
namespace Go.Proofs.Ytpdmeneigpipiaa
open Go Go.Ev Go.Ma

def brow (n : Nat) (bs : Nat → Bool) : Array Value := Array.ofFn (n := n) fun j => .bool (bs j.val)
def irow (n : Nat) (ms : Nat → Int) : Array Value := Array.ofFn (n := n) fun j => .int .i64 (ms j.val)
theorem brow_size (n : Nat) (bs : Nat → Bool) : (brow n bs).size = n := by simp [brow]
theorem irow_size (n : Nat) (ms : Nat → Int) : (irow n ms).size = n := by simp [irow]
theorem brow_at {n : Nat} {bs : Nat → Bool} {i : Nat} (h : i < n) : (brow n bs)[i]? = some (.bool (bs i)) := by simp [brow, Array.getElem?_ofFn, h]
theorem irow_at {n : Nat} {ms : Nat → Int} {i : Nat} (h : i < n) : (irow n ms)[i]? = some (.int .i64 (ms i)) := by simp [irow, Array.getElem?_ofFn, h]
theorem brow_set {n : Nat} {bs : Nat → Bool} {i : Nat} (x : Bool) : (brow n bs).setIfInBounds i (.bool x) = brow n (fun j => if j = i then x else bs j) := by
  apply Array.ext
  · simp [brow]
  · intro k h1 h2
    have hk : k < n := by simpa [brow] using h2
    rw [Array.getElem_setIfInBounds (by simpa [brow] using hk)]
    by_cases h : i = k
    · subst h; simp [brow]
    · have h' : ¬ k = i := fun e => h e.symm
      simp [brow, h, h']
theorem irow_set {n : Nat} {ms : Nat → Int} {i : Nat} (x : Int) : (irow n ms).setIfInBounds i (.int .i64 x) = irow n (fun j => if j = i then x else ms j) := by
  apply Array.ext
  · simp [irow]
  · intro k h1 h2
    have hk : k < n := by simpa [irow] using h2
    rw [Array.getElem_setIfInBounds (by simpa [irow] using hk)]
    by_cases h : i = k
    · subst h; simp [irow]
    · have h' : ¬ k = i := fun e => h e.symm
      simp [irow, h, h']
theorem brow_zero (n : Nat) : Array.replicate n (Value.bool false) = brow n fun _ => false := by
  apply Array.ext
  · simp [brow]
  · intro i h1 h2; simp [brow]
theorem irow_zero (n : Nat) : Array.replicate n (Value.int .i64 0) = irow n fun _ => 0 := by
  apply Array.ext
  · simp [irow]
  · intro i h1 h2; simp [irow]
theorem rd_cells4 {H : Hp} {b o : Nat} {v : Value} (h : rd H b o = some v) : ∃ c T f, H b = some (.cells c T f) ∧ c[o]? = some v := by
  unfold rd at h
  split at h
  · rename_i c T f e; exact ⟨c, T, f, e, h⟩
  · cases h
/-- A block of one part is none of another's. -/
theorem Sep_far {l : List Hp} {H h : Hp} {i j b xb : Nat} {o x : Obj} (hS : Sep l H) (hij : i < j) (hi : l[i]? = some (sg b o)) (hj : l[j]? = some h) (hx : h xb = some x) : (b = xb) = False ∧ (xb = b) = False := by
  have : xb ≠ b := fun e => by
    obtain ⟨hi1, he1⟩ := List.getElem?_eq_some_iff.1 hi
    obtain ⟨hj1, he2⟩ := List.getElem?_eq_some_iff.1 hj
    have hd := List.pairwise_iff_getElem.1 hS.dj i j hi1 hj1 hij
    rcases hd xb with h' | h'
    · rw [he1, e, sg_at] at h'; cases h'
    · rw [he2, hx] at h'; cases h'
  exact ⟨eq_false fun e => this e.symm, eq_false this⟩
end Go.Proofs.Ytpdmeneigpipiaa
