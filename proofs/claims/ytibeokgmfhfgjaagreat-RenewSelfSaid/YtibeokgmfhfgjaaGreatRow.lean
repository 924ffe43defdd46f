/-
  Rows and shapes of the laws of chapters 8 to 12. Conditions: none.
-/
import Derived.Test.YtibeokgmfhfgjaaGreatLawK
import Derived.Test.YtibeokgmfhfgjaaGreatMaMI
set_option linter.unusedVariables false
namespace Go.Proofs.YtibeokgmfhfgjaaGreat
open Go Go.Ev Go.Pl Go.Ma

theorem _root_.Go.Ma.Bi.new_left (s : Sh) (c p k : Int) : (Ma.Bi.new s c p k).left ≤ 32 := by
  have := slots_bd (Ma.Bi.new s c p k).k
  have e : (Ma.Bi.new s c p k).i = 0 := rfl
  have e2 : (Ma.Bi.new s c p k).bd = false := rfl
  unfold Ma.Bi.left; rw [e2, e]; split
  · omega
  · rw [if_neg (by decide)]; omega
theorem _root_.Go.Ma.St.new_left (s : Sh) (c p k : Int) : (Ma.St.new s c p k).left ≤ 34 := by
  have := slots_bd (Ma.St.new s c p k).k
  have e : (Ma.St.new s c p k).i = 0 := rfl
  have e2 : (Ma.St.new s c p k).bk = false := rfl
  unfold Ma.St.left; rw [e2, e]; split
  · omega
  · rw [if_neg (by decide)]; omega
end Go.Proofs.YtibeokgmfhfgjaaGreat
