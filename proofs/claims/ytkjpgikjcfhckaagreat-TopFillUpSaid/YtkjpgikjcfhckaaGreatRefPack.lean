/-
 The document's readers of words, and its small helpers, as pure functions. Conditions: none.
-/
import Derived.Test.YtkjpgikjcfhckaaGreatCodeX
import Derived.Test.YtkjpgikjcfhckaaGreatPack
import Derived.Test.YtkjpgikjcfhckaaGreatCode
set_option linter.unusedVariables false
set_option linter.unusedSimpArgs false
set_option maxRecDepth 8000
namespace Go.Proofs.YtkjpgikjcfhckaaGreat
open Go Go.Ev Go.Pl Go.Ma

end Go.Proofs.YtkjpgikjcfhckaaGreat
