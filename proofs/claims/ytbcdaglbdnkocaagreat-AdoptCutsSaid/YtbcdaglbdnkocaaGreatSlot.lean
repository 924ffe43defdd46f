/-
 The slot claimer: contracts of package slot, and of the document's. Conditions: none.
-/
import Derived.Test.YtbcdaglbdnkocaaGreatModel
import Derived.Test.YtbcdaglbdnkocaaGreatMaMI
import Derived.Test.YtbcdaglbdnkocaaGreatAlt
set_option linter.unusedVariables false
set_option linter.unusedSimpArgs false
set_option maxRecDepth 8000
namespace Go.Proofs.YtbcdaglbdnkocaaGreat
open Go Go.Ev Go.Pl Go.Ma

def Sc.enc (t:Sc):Array Value:=#[.int .i64 t.s.p,.int .i64 t.s.c,.int .i64 t.s.m,.int .i64 t.c,.int .i64 t.k,.int .i64 t.f,.int .i64 t.many,.int .i64 t.i,.int .i64 t.nx,.bool t.fd,.bool t.dn]
section
variable {W:World} {H:Hp} {k b s:Nat} {t:Sc} {w:Wd} {l:List Hp}

end

end Go.Proofs.YtbcdaglbdnkocaaGreat
