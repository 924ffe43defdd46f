/-
  Counting below a bound, plain. Conditions: none.
-/
namespace Go.Ma

/-- How many below n are so. -/
def cnt (p : Nat → Bool) : Nat → Nat
  | 0 => 0
  | n + 1 => cnt p n + (if p n then 1 else 0)
theorem cnt_le (p : Nat → Bool) : ∀ n, cnt p n ≤ n
  | 0 => Nat.le_refl _
  | n + 1 => by have := cnt_le p n; unfold cnt; split <;> omega
theorem cnt_congr {p q : Nat → Bool} : ∀ {n : Nat}, (∀ i, i < n → p i = q i) → cnt p n = cnt q n
  | 0, _ => rfl
  | n + 1, h => by unfold cnt; rw [cnt_congr fun i hi => h i (by omega), h n (by omega)]
theorem cnt_all {p : Nat → Bool} : ∀ {n : Nat}, (∀ i, i < n → p i = true) → cnt p n = n
  | 0, _ => rfl
  | n + 1, h => by unfold cnt; rw [cnt_all fun i hi => h i (by omega), h n (by omega)]; rfl
theorem cnt_none {p : Nat → Bool} : ∀ {n : Nat}, (∀ i, i < n → p i = false) → cnt p n = 0
  | 0, _ => rfl
  | n + 1, h => by unfold cnt; rw [cnt_none fun i hi => h i (by omega), h n (by omega)]; rfl
/-- One less. -/
def but (p : Nat → Bool) (k : Nat) : Nat → Bool := fun i => p i && !(i == k)
theorem cnt_but {p : Nat → Bool} {k : Nat} (hp : p k = true) : ∀ {n : Nat}, k < n → cnt p n = cnt (but p k) n + 1
  | 0, h => by omega
  | n + 1, h => by
    unfold cnt
    by_cases e : k = n
    · subst e
      have h1 : but p k k = false := by simp [but]
      have h2 : cnt (but p k) k = cnt p k := cnt_congr fun i hi => by
        have : (i == k) = false := by simp; omega
        simp [but, this]
      rw [h1, h2, hp]; simp
    · have ih := cnt_but hp (n := n) (by omega)
      have h1 : but p k n = p n := by
        have : (n == k) = false := by simp; omega
        simp [but, this]
      rw [ih, h1]; omega
/-- What goes one to one into something is no more. -/
theorem cnt_inj {f : Nat → Nat} : ∀ {n m : Nat} {p q : Nat → Bool}, (∀ i, i < n → p i = true → f i < m ∧ q (f i) = true) → (∀ i j, i < n → j < n → p i = true → p j = true → f i = f j → i = j) → cnt p n ≤ cnt q m
  | 0, _, _, _, _, _ => Nat.zero_le _
  | n + 1, m, p, q, h, hi => by
    show cnt p n + (if p n = true then 1 else 0) ≤ cnt q m
    cases hp : p n
    · have := cnt_inj (n := n) (m := m) (p := p) (q := q) (fun i h1 h2 => h i (by omega) h2) (fun i j h1 h2 => hi i j (by omega) (by omega))
      simpa using this
    · obtain ⟨a, b⟩ := h n (by omega) hp
      rw [cnt_but b a]
      have := cnt_inj (n := n) (m := m) (p := p) (q := but q (f n)) (fun i h1 h2 => by
        obtain ⟨c, d⟩ := h i (by omega) h2
        refine ⟨c, ?_⟩
        have hne : f i ≠ f n := fun e => by have := hi i n (by omega) (by omega) h2 hp e; omega
        have : (f i == f n) = false := by simpa using hne
        simp [but, d, this]) (fun i j h1 h2 => hi i j (by omega) (by omega))
      simp; omega
theorem cnt_pos {p : Nat → Bool} {n k : Nat} (h : k < n) (hp : p k = true) : 0 < cnt p n := by rw [cnt_but hp h]; omega
theorem cnt_some {p : Nat → Bool} : ∀ {n : Nat}, 0 < cnt p n → ∃ k, k < n ∧ p k = true
  | 0, h => by simp [cnt] at h
  | n + 1, h => by
    cases hp : p n
    · unfold cnt at h; rw [hp] at h; simp at h
      obtain ⟨k, h1, h2⟩ := cnt_some h
      exact ⟨k, by omega, h2⟩
    · exact ⟨n, by omega, hp⟩
end Go.Ma
