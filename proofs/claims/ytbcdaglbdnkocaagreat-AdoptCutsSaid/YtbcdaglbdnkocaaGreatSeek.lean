/-
 Who seeks a slot from wherever: the program's machine, which keeps its machine behind an interface. Conditions: none.
-/
import Derived.Test.YtbcdaglbdnkocaaGreatMag
import Derived.Test.YtbcdaglbdnkocaaGreatSlot
import Derived.Test.YtbcdaglbdnkocaaGreatPage
import Derived.Test.YtbcdaglbdnkocaaGreatStrip
import Derived.Test.YtbcdaglbdnkocaaGreatBind
import Derived.Test.YtbcdaglbdnkocaaGreatMaSk
import Derived.Test.YtbcdaglbdnkocaaGreatCut
set_option linter.unusedVariables false
set_option linter.unusedSectionVars false
set_option linter.unusedSimpArgs false
set_option maxRecDepth 8000
namespace Go.Proofs.YtbcdaglbdnkocaaGreat
open Go Go.Ev Go.Pl Go.Ma

end Go.Proofs.YtbcdaglbdnkocaaGreat
