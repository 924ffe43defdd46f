/-
 A walk may be cut behind a part of a row of steps. Conditions: none.
-/
import Derived.Test.YtkjpgikjcfhckaaGreatAlt
set_option linter.unusedVariables false
set_option linter.unusedSectionVars false
namespace Go.Ev
open Go
variable {P:Program} {W:World} {a b c:MC} {Q:Exit→Fr→Hp→Prop} {F:Fr} {H:Hp}
end Go.Ev
