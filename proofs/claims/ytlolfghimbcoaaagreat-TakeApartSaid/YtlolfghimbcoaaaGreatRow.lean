/-
  Rows and shapes of the laws of chapters 8 to 12. Conditions: none.
-/
import Derived.Test.YtlolfghimbcoaaaGreatLawK
import Derived.Test.YtlolfghimbcoaaaGreatMaMI
set_option linter.unusedVariables false
namespace Go.Proofs.YtlolfghimbcoaaaGreat
open Go Go.Ev Go.Pl Go.Ma

theorem rowW_of {n : Nat} {ws : Nat → Int} {sh : Sh} (hn : (n : Int) = words sh.p sh.c sh.m) (hU : ∀ i, i < n → U (ws i)) : (rowW n ws).of sh :=
  ⟨hn, fun i => by show U (if _ then _ else _); split; exact hU i ‹_›; exact U_0⟩
theorem words_le {p c m : Int} (h : may p c m = true) : 0 ≤ words p c m ∧ words p c m ≤ 2000 := by
  obtain ⟨a1, a2, a3, a4, a5, a6⟩ := (may_iff _ _ _).1 h
  have := mul_bd c m (by omega) a4 a5 a6
  unfold words; rw [if_pos h]; omega
theorem _root_.Go.Ma.Bi.new_left (s : Sh) (c p k : Int) : (Ma.Bi.new s c p k).left ≤ 32 := by
  have := slots_bd (Ma.Bi.new s c p k).k
  have e : (Ma.Bi.new s c p k).i = 0 := rfl
  have e2 : (Ma.Bi.new s c p k).bd = false := rfl
  unfold Ma.Bi.left; rw [e2, e]; split
  · omega
  · rw [if_neg (by decide)]; omega
theorem _root_.Go.Ma.St.new_left (s : Sh) (c p k : Int) : (Ma.St.new s c p k).left ≤ 34 := by
  have := slots_bd (Ma.St.new s c p k).k
  have e : (Ma.St.new s c p k).i = 0 := rfl
  have e2 : (Ma.St.new s c p k).bk = false := rfl
  unfold Ma.St.left; rw [e2, e]; split
  · omega
  · rw [if_neg (by decide)]; omega
end Go.Proofs.YtlolfghimbcoaaaGreat
