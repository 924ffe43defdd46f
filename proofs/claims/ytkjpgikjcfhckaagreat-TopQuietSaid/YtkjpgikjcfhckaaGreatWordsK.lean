/-
 Chapter 2's awake: a word is swapped. Conditions: none.
-/
import Derived.Test.YtkjpgikjcfhckaaGreatRowA
import Derived.Test.YtkjpgikjcfhckaaGreatWords
set_option linter.unusedVariables false
set_option linter.unusedSimpArgs false
set_option maxRecDepth 8000
namespace Go.Proofs.YtkjpgikjcfhckaaGreat
open Go Go.Ev Go.Pl Go.Ma

section
variable {W:World} {H:Hp} {l:List Hp}

end

end Go.Proofs.YtkjpgikjcfhckaaGreat
