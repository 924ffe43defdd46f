/-
  Whether a heap is sound: it ends, with some answer; the heap is as it was. Conditions: none.
-/
import Derived.Test.YtfopnendmcpglaaSound1
import Derived.Test.YtfopnendmcpglaaGrow
set_option linter.unusedVariables false
set_option linter.unusedSimpArgs false
set_option maxRecDepth 8000
namespace Go.Proofs.Ytfopnendmcpglaa
open Go Go.Ev Go.Pl Go.Ma

/-- So many triples of numbers behind a slice of its own. -/
def Es (a : Option Addr) (k cap : Nat) (g : Hp) : Prop :=
  (a = none ∧ k = 0 ∧ cap = 0 ∧ g = fun _ => none) ∨
  ∃ z c, a = some ⟨z, 0, none⟩ ∧ g = sg z (.cells c 83 (0, 0)) ∧ k ≤ cap ∧ cap * 3 ≤ c.size ∧ ∀ j, j < k * 3 → ∃ v, c[j]? = some (.int .i64 v)
theorem grow3 {W : World} {H g : Hp} {l : List Hp} {a : Option Addr} {k cap : Nat} {v1 v2 v3 : Int} {K1 : Hp → Prop} {K2 : Array Value → Nat → Nat → Prop}
    (hG : Es a k cap g) (hk : k + 1 ≤ 1000000) (hS : Sep (g :: l) H)
    (h1 : ∀ g2 H', Es a (k + 1) cap g2 → Sep (g2 :: l) H' → K1 H')
    (h2 : ∀ old cap2 b, Es (some ⟨b, 0, none⟩) (k + 1) cap2 (sg b (.cells (old ++ #[.int .i64 v1, .int .i64 v2, .int .i64 v3] ++ Builtin.zeroCells #[.int .i64 0, .int .i64 0, .int .i64 0] (cap2 - (k + 1))) 83 (0, 0))) →
      Sep (sg b (.cells (old ++ #[.int .i64 v1, .int .i64 v2, .int .i64 v3] ++ Builtin.zeroCells #[.int .i64 0, .int .i64 0, .int .i64 0] (cap2 - (k + 1))) 83 (0, 0)) :: l) (upd H b (.cells (old ++ #[.int .i64 v1, .int .i64 v2, .int .i64 v3] ++ Builtin.zeroCells #[.int .i64 0, .int .i64 0, .int .i64 0] (cap2 - (k + 1))) 83 (0, 0))) → K2 old cap2 b) :
    if k + 1 ≤ cap then stow H a (k * 3) #[.int .i64 v1, .int .i64 v2, .int .i64 v3] K1
    else Builtin.nextslicecap (k + 1) cap * 24 ≤ 281474976710656 ∧ k ≤ 9223372036854775806 ∧ onSome (rds H a (k * 3)) fun old => allCap (k + 1) fun cap => newB W H fun b => K2 old cap b := by
  split
  · rename_i hroom
    rcases hG with ⟨rfl, rfl, rfl, rfl⟩ | ⟨z, c, rfl, rfl, h4, h5, h3⟩
    · omega
    have hz := hS.look
    unfold stow
    rw [if_neg (by simp)]
    show onCells (H z) _
    rw [hz]
    refine ⟨by simp; omega, by simp; exact ⟨rfl, rfl, rfl⟩, ?_⟩
    have e : setN c (0 + k * 3) [.int .i64 v1, .int .i64 v2, .int .i64 v3] = ((c.setIfInBounds (k * 3) (.int .i64 v1)).setIfInBounds (k * 3 + 1) (.int .i64 v2)).setIfInBounds (k * 3 + 2) (.int .i64 v3) := by rw [Nat.zero_add]; rfl
    refine h1 _ _ (.inr ⟨z, setN c (0 + k * 3) [.int .i64 v1, .int .i64 v2, .int .i64 v3], rfl, rfl, by omega, by rw [e]; simp; omega, fun i hi => ?_⟩) (hS.set _)
    rw [e]
    by_cases i2 : i = k * 3 + 2
    · subst i2; exact ⟨v3, Array.getElem?_setIfInBounds_self_of_lt (by simp; omega)⟩
    rw [Array.getElem?_setIfInBounds_ne (by omega)]
    by_cases i1 : i = k * 3 + 1
    · subst i1; exact ⟨v2, Array.getElem?_setIfInBounds_self_of_lt (by simp; omega)⟩
    rw [Array.getElem?_setIfInBounds_ne (by omega)]
    by_cases i0 : i = k * 3
    · subst i0; exact ⟨v1, Array.getElem?_setIfInBounds_self_of_lt (by omega)⟩
    rw [Array.getElem?_setIfInBounds_ne (by omega)]
    exact h3 i (by omega)
  · rename_i hroom
    obtain ⟨old, hold, hsz, hat⟩ : ∃ old : Array Value, rds H a (k * 3) = some old ∧ old.size = k * 3 ∧ ∀ i, i < k * 3 → ∃ v, old[i]? = some (.int .i64 v) := by
      rcases hG with ⟨rfl, rfl, rfl, rfl⟩ | ⟨z, c, rfl, rfl, h4, h5, h3⟩
      · exact ⟨#[], rfl, rfl, fun i hi => by omega⟩
      · cases hkk : k * 3 with
        | zero => exact ⟨#[], rfl, rfl, fun i hi => by omega⟩
        | succ m =>
          refine ⟨c.extract 0 (0 + (m + 1)), ?_, by simp; omega, fun i hi => ?_⟩
          · show rdn H z 0 (m + 1) = _
            rw [rdn_of hS.look, if_pos (by omega)]
          · rw [Array.getElem?_extract, if_pos (by omega), Nat.zero_add]; exact h3 i (by omega)
    have hc := nextslicecap_le (need := k + 1) (old := cap) (by omega)
    refine ⟨by omega, by omega, ?_⟩
    rw [hold]
    intro cap2 hc2
    refine newB_intro fun b hb0 f1 f2 => ?_
    have e : (Builtin.zeroCells #[Value.int .i64 0, Value.int .i64 0, Value.int .i64 0] (cap2 - (k + 1))).size = (cap2 - (k + 1)) * 3 := by simp [Builtin.zeroCells]
    refine h2 _ _ _ (.inr ⟨b, _, rfl, rfl, hc2, ?_, fun i hi => ?_⟩) ((hS.tail.new f1 _))
    · simp only [Array.size_append, hsz, e]
      show cap2 * 3 ≤ k * 3 + 3 + _
      omega
    · rw [Array.append_assoc]
      by_cases hik : i < k * 3
      · rw [Array.getElem?_append_left (by omega)]; exact hat i hik
      · rw [Array.getElem?_append_right (by omega), hsz, Array.getElem?_append_left (by simp; omega)]
        rcases (by omega : i - k * 3 = 0 ∨ i - k * 3 = 1 ∨ i - k * 3 = 2) with e | e | e <;> rw [e]
        · exact ⟨v1, rfl⟩
        · exact ⟨v2, rfl⟩
        · exact ⟨v3, rfl⟩
theorem Es.rd {H g : Hp} {l : List Hp} {a : Option Addr} {k cap : Nat} (h : Es a k cap g) (hS : Sep l H) (hm : g ∈ l) {j : Nat} (hj : j < k) : ∃ z v1 v2, a = some ⟨z, 0, none⟩ ∧ Ev.rd H z (j * 3) = some (.int .i64 v1) ∧ Ev.rd H z (j * 3 + 1) = some (.int .i64 v2) := by
  rcases h with ⟨-, h, -, -⟩ | ⟨z, c, rfl, rfl, h1, h2, h3⟩
  · omega
  · obtain ⟨v1, e1⟩ := h3 (j * 3) (by omega)
    obtain ⟨v2, e2⟩ := h3 (j * 3 + 1) (by omega)
    have := hS.sb _ hm z _ (sg_at _ _)
    exact ⟨z, v1, v2, rfl, by rw [rd_of this, e1], by rw [rd_of this, e2]⟩
theorem okEn_in {s : Sh} {w : Int} (hm : may s.p s.c s.m = true) (h : okEn s w = true) : (0 ≤ enP s w ∧ enP s w < s.p) ∧ 0 ≤ enS s w ∧ enS s w < 16 := by
  have h0 := h
  unfold okEn at h
  simp only [Bool.and_eq_true, decide_eq_true_eq] at h
  obtain ⟨-, h1, h2⟩ := h
  have h3 : ¬ page s.p s.c s.m (pt w 16) < 0 := by omega
  rw [page_lt0, Decidable.not_not] at h3
  have := slots_bd (pt w 1048576)
  have b2 := pt_bd w 4096
  unfold enP enS
  rw [if_pos h0, if_pos h0]
  omega
end Go.Proofs.Ytfopnendmcpglaa
