/-
  The entries that are seen, one after the other. Conditions: none.
-/
import Derived.Test.YtfopnendmcpglaaMaSound
set_option linter.unusedVariables false
set_option linter.unusedSimpArgs false
namespace Go.Ma
open Go.Pl
/-- What an entry names. -/
def enE (s : Sh) (x : Int) : Int × Int := (enP s x, enS s x)
structure Seen (s : Sh) (ws : Nat → Int) (c i k : Nat) (E : Nat → Int × Int) : Prop where
  o : ∀ j, j < k → ∃ c' i' : Nat, (c' : Int) < s.c ∧ (i' : Int) < s.m ∧ ahead c' i' c i ∧ mgAt s ws c' i' ≠ 0 ∧ E j = enE s (mgAt s ws c' i')
  t : ∀ c' i' : Nat, (i' : Int) < s.m → ahead c' i' c i → mgAt s ws c' i' ≠ 0 → ∃ j, j < k ∧ E j = enE s (mgAt s ws c' i')
  en : ∀ c' i' : Nat, (i' : Int) < s.m → ahead c' i' c i → mgAt s ws c' i' ≠ 0 → EnB s ws c' (mgAt s ws c' i')
  dj : ∀ c1 i1 c2 i2 : Nat, (i1 : Int) < s.m → (i2 : Int) < s.m → ahead c1 i1 c i → ahead c2 i2 c1 i1 → mgAt s ws c1 i1 ≠ 0 → mgAt s ws c2 i2 ≠ 0 → enE s (mgAt s ws c2 i2) ≠ enE s (mgAt s ws c1 i1)
variable {s : Sh} {ws : Nat → Int} {c i k : Nat} {E : Nat → Int × Int}
theorem Seen.zero : Seen s ws 0 0 0 E :=
  ⟨fun j h => by omega, fun c' i' _ h => by unfold ahead at h; omega, fun c' i' _ h => by unfold ahead at h; omega, fun c1 i1 c2 i2 _ _ h => by unfold ahead at h; omega⟩
theorem ahead_next {c' i' : Nat} (h : ahead c' i' c (i + 1)) : ahead c' i' c i ∨ (c' = c ∧ i' = i) := by unfold ahead at *; omega
theorem Seen.skip (h : Seen s ws c i k E) (hz : mgAt s ws c i = 0) : Seen s ws c (i + 1) k E := by
  refine ⟨fun j hj => ?_, fun c' i' hi ha hx => ?_, fun c' i' hi ha hx => ?_, fun c1 i1 c2 i2 h1 h2 ha hb hx hy => ?_⟩
  · obtain ⟨c', i', q1, q2, q3, q4⟩ := h.o j hj
    exact ⟨c', i', q1, q2, by unfold ahead at *; omega, q4⟩
  · rcases ahead_next ha with ha | ⟨rfl, rfl⟩
    · exact h.t c' i' hi ha hx
    · exact absurd hz hx
  · rcases ahead_next ha with ha | ⟨rfl, rfl⟩
    · exact h.en c' i' hi ha hx
    · exact absurd hz hx
  · rcases ahead_next ha with ha | ⟨rfl, rfl⟩
    · exact h.dj c1 i1 c2 i2 h1 h2 ha hb hx hy
    · exact absurd hz hx
theorem Seen.add (h : Seen s ws c i k E) (hc : (c : Int) < s.c) (hi : (i : Int) < s.m) (hx : mgAt s ws c i ≠ 0) (hE : EnB s ws c (mgAt s ws c i)) (hd : ∀ j, j < k → E j ≠ enE s (mgAt s ws c i)) :
    Seen s ws c (i + 1) (k + 1) (fun j => if j = k then enE s (mgAt s ws c i) else E j) := by
  refine ⟨fun j hj => ?_, fun c' i' hi' ha hx' => ?_, fun c' i' hi' ha hx' => ?_, fun c1 i1 c2 i2 h1 h2 ha hb hx1 hx2 => ?_⟩
  · by_cases e : j = k
    · exact ⟨c, i, hc, hi, by unfold ahead; omega, hx, if_pos e⟩
    · obtain ⟨c', i', q1, q2, q3, q4, q5⟩ := h.o j (by omega)
      exact ⟨c', i', q1, q2, by unfold ahead at *; omega, q4, (if_neg e).trans q5⟩
  · rcases ahead_next ha with ha | ⟨rfl, rfl⟩
    · obtain ⟨j, hj, e⟩ := h.t c' i' hi' ha hx'
      exact ⟨j, by omega, (if_neg (by omega)).trans e⟩
    · exact ⟨k, by omega, if_pos rfl⟩
  · rcases ahead_next ha with ha | ⟨rfl, rfl⟩
    · exact h.en c' i' hi' ha hx'
    · exact hE
  · rcases ahead_next ha with ha | ⟨rfl, rfl⟩
    · exact h.dj c1 i1 c2 i2 h1 h2 ha hb hx1 hx2
    · obtain ⟨j, hj, e⟩ := h.t c2 i2 h2 hb hx2
      rw [← e]; exact hd j hj
theorem Seen.row (h : Seen s ws c i k E) (hi : ¬ (i : Int) < s.m) : Seen s ws (c + 1) 0 k E := by
  have A : ∀ c' i' : Nat, (i' : Int) < s.m → ahead c' i' (c + 1) 0 → ahead c' i' c i := fun c' i' h1 h2 => by unfold ahead at *; omega
  refine ⟨fun j hj => ?_, fun c' i' hi' ha hx' => h.t c' i' hi' (A _ _ hi' ha) hx', fun c' i' hi' ha hx' => h.en c' i' hi' (A _ _ hi' ha) hx', fun c1 i1 c2 i2 h1 h2 ha hb => h.dj c1 i1 c2 i2 h1 h2 (A _ _ h1 ha) hb⟩
  obtain ⟨c', i', q1, q2, q3, q4⟩ := h.o j hj
  exact ⟨c', i', q1, q2, by unfold ahead at *; omega, q4⟩
theorem Seen.snd (h : Seen s ws c i k E) (hc : ¬ (c : Int) < s.c) (hp : ∀ p : Nat, (p : Int) < s.p → okPg s p (pgAt s ws p) = true ∧ SpB s ws p (pgK s p (pgAt s ws p)) (pgA s p (pgAt s ws p))) : Snd s ws := by
  refine ⟨hp, fun c' i' h1 h2 hx => h.en c' i' h2 (by unfold ahead; omega) hx, fun c1 i1 c2 i2 h1 h2 h3 ha hx hy => ?_⟩
  have := h.dj c1 i1 c2 i2 h2 h3 (by unfold ahead; omega) ha hx hy
  intro ⟨e1, e2⟩
  exact this (by unfold enE; rw [e1, e2])
/-- What is seen twice. -/
theorem Snd.once (h : Snd s ws) (hs : Seen s ws c i k E) (hc : (c : Int) < s.c) (hi : (i : Int) < s.m) (hx : mgAt s ws c i ≠ 0) {j : Nat} (hj : j < k) : E j ≠ enE s (mgAt s ws c i) := by
  obtain ⟨c', i', q1, q2, q3, q4, q5⟩ := hs.o j hj
  rw [q5]
  intro e
  have e1 : enP s (mgAt s ws c' i') = enP s (mgAt s ws c i) := congrArg Prod.fst e
  have e2 : enS s (mgAt s ws c' i') = enS s (mgAt s ws c i) := congrArg Prod.snd e
  exact h.dj c i c' i' hc hi q2 q3 hx q4 ⟨e1, e2⟩
end Go.Ma
