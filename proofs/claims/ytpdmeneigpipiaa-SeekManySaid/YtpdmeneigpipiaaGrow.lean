/-
  A slice that grows by append, one cell at a time. Conditions: none.
-/
import Derived.Test.YtpdmeneigpipiaaRow
import Derived.Test.YtpdmeneigpipiaaModel
set_option linter.unusedVariables false
set_option linter.unusedSimpArgs false
namespace Go.Proofs.Ytpdmeneigpipiaa
open Go Go.Ev Go.Pl Go.Ma

/-- So many cells behind a slice of its own. -/
def Gr (T : TypeId) (a : Option Addr) (n cap : Nat) (vs : Nat → Value) (g : Hp) : Prop :=
  (a = none ∧ n = 0 ∧ cap = 0 ∧ g = fun _ => none) ∨
  ∃ z c, a = some ⟨z, 0, none⟩ ∧ g = sg z (.cells c T (0, 0)) ∧ n ≤ cap ∧ cap ≤ c.size ∧ ∀ i, i < n → c[i]? = some (vs i)
theorem Gr.none (T : TypeId) (vs : Nat → Value) : Gr T Option.none 0 0 vs fun _ => Option.none := .inl ⟨rfl, rfl, rfl, rfl⟩
theorem Gr.row {T : TypeId} {a : Option Addr} {n cap : Nat} {ws : Nat → Int} {g : Hp} (h : Gr T a n cap (fun i => .int .u64 (ws i)) g) : RowU g a n ws := by
  rcases h with ⟨-, h, -, -⟩ | ⟨z, c, rfl, rfl, h1, h2, h3⟩
  · exact .inl h
  · exact .inr ⟨z, 0, rfl, fun i hi => by rw [rd_of (sg_at _ _), Nat.zero_add, h3 i hi]⟩
theorem Gr.rd {T : TypeId} {a : Option Addr} {n cap : Nat} {vs : Nat → Value} {g H : Hp} {l : List Hp} (h : Gr T a n cap vs g) (hS : Sep l H) (hm : g ∈ l) {i : Nat} (hi : i < n) : ∃ z, a = some ⟨z, 0, Option.none⟩ ∧ Ev.rd H z i = some (vs i) := by
  rcases h with ⟨-, h, -, -⟩ | ⟨z, c, rfl, rfl, h1, h2, h3⟩
  · omega
  · exact ⟨z, rfl, by rw [rd_of (hS.sb _ hm z _ (sg_at _ _)), h3 i hi]⟩

theorem grow {W : World} {H g : Hp} {l : List Hp} {T : TypeId} {a : Option Addr} {n cap bytes : Nat} {vs : Nat → Value} {v z0 : Value} {K1 : Hp → Prop} {K2 : Array Value → Nat → Nat → Prop}
    (hG : Gr T a n cap vs g) (hv : v.oneCell' = true) (hn : n + 1 ≤ 1000000000) (hb : bytes ≤ 8) (hS : Sep (g :: l) H)
    (h1 : ∀ g2 H', Gr T a (n + 1) cap (fun j => if j = n then v else vs j) g2 → Sep (g2 :: l) H' → K1 H')
    (h2 : ∀ old cap2 b, Gr T (some ⟨b, 0, none⟩) (n + 1) cap2 (fun j => if j = n then v else vs j) (sg b (.cells (old ++ #[v] ++ Builtin.zeroCells #[z0] (cap2 - (n + 1))) T (0, 0))) →
      Sep (sg b (.cells (old ++ #[v] ++ Builtin.zeroCells #[z0] (cap2 - (n + 1))) T (0, 0)) :: l) (upd H b (.cells (old ++ #[v] ++ Builtin.zeroCells #[z0] (cap2 - (n + 1))) T (0, 0))) → K2 old cap2 b) :
    if n + 1 ≤ cap then stow H a n #[v] K1
    else Builtin.nextslicecap (n + 1) cap * bytes ≤ 281474976710656 ∧ n ≤ 9223372036854775806 ∧ onSome (rds H a n) fun old => allCap (n + 1) fun cap => newB W H fun b => K2 old cap b := by
  split
  · rename_i hroom
    rcases hG with ⟨rfl, rfl, rfl, rfl⟩ | ⟨z, c, rfl, rfl, h4, h5, h3⟩
    · omega
    have hz := hS.look
    unfold stow
    rw [if_neg (by simp)]
    show onCells (H z) _
    rw [hz]
    refine ⟨by simp; omega, by simp [hv], ?_⟩
    refine h1 _ _ (.inr ⟨z, setN c (0 + n) [v], rfl, rfl, by omega, by simp [setN]; omega, fun i hi => ?_⟩) (hS.set _)
    have e : setN c (0 + n) [v] = c.setIfInBounds n v := by rw [Nat.zero_add]; rfl
    rw [e]
    show _ = some (if i = n then v else vs i)
    by_cases hin : i = n
    · subst hin; rw [Array.getElem?_setIfInBounds_self_of_lt (by omega), if_pos rfl]
    · rw [Array.getElem?_setIfInBounds_ne (by omega), if_neg hin]; exact h3 i (by omega)
  · rename_i hroom
    obtain ⟨old, hold, hsz, hat⟩ : ∃ old : Array Value, rds H a n = some old ∧ old.size = n ∧ ∀ i, i < n → old[i]? = some (vs i) := by
      rcases hG with ⟨rfl, rfl, rfl, rfl⟩ | ⟨z, c, rfl, rfl, h4, h5, h3⟩
      · exact ⟨#[], rfl, rfl, fun i hi => by omega⟩
      · cases n with
        | zero => exact ⟨#[], rfl, rfl, fun i hi => by omega⟩
        | succ m =>
          refine ⟨c.extract 0 (0 + (m + 1)), ?_, by simp; omega, fun i hi => ?_⟩
          · show rdn H z 0 (m + 1) = _
            rw [rdn_of hS.look, if_pos (by omega)]
          · rw [Array.getElem?_extract, if_pos (by omega), Nat.zero_add]; exact h3 i hi
    have hc := nextslicecap_le (need := n + 1) (old := cap) (by omega)
    have g1 : Builtin.nextslicecap (n + 1) cap * bytes ≤ 281474976710656 := Nat.le_trans (Nat.mul_le_mul_left _ hb) (by omega)
    refine ⟨g1, by omega, ?_⟩
    rw [hold]
    intro cap2 hc2
    refine newB_intro fun b hb0 f1 f2 => ?_
    refine h2 _ _ _ (.inr ⟨b, _, rfl, rfl, hc2, ?_, fun i hi => ?_⟩) ((hS.tail.new f1 _))
    · have e : (Builtin.zeroCells #[z0] (cap2 - (n + 1))).size = cap2 - (n + 1) := by simp [Builtin.zeroCells]
      simp only [Array.size_append, hsz, e]
      show cap2 ≤ n + 1 + _
      omega
    · rw [Array.append_assoc]
      show _ = some (if i = n then v else vs i)
      by_cases hin : i = n
      · subst hin; rw [Array.getElem?_append_right (by omega), if_pos rfl, hsz, Nat.sub_self, Array.getElem?_append_left (by simp)]; rfl
      · rw [Array.getElem?_append_left (by omega), if_neg hin]; exact hat i (by omega)
end Go.Proofs.Ytpdmeneigpipiaa
