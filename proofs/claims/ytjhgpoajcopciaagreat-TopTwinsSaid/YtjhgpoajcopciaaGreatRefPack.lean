/-
 The document's readers of words, and its small helpers, as pure functions. Conditions: none.
-/
import Derived.Test.YtjhgpoajcopciaaGreatCodeX
import Derived.Test.YtjhgpoajcopciaaGreatPack
import Derived.Test.YtjhgpoajcopciaaGreatCode
set_option linter.unusedVariables false
set_option linter.unusedSimpArgs false
set_option maxRecDepth 8000
namespace Go.Proofs.YtjhgpoajcopciaaGreat
open Go Go.Ev Go.Pl Go.Ma

end Go.Proofs.YtjhgpoajcopciaaGreat
