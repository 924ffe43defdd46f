/-
 Who claims a row of pages: the program's machine. Conditions: none.
-/
import Derived.Test.YtbcdaglbdnkocaaGreatStrip
import Derived.Test.YtbcdaglbdnkocaaGreatMaRun
import Derived.Test.YtbcdaglbdnkocaaGreatAlt
set_option linter.unusedVariables false
set_option linter.unusedSimpArgs false
set_option maxRecDepth 8000
namespace Go.Proofs.YtbcdaglbdnkocaaGreat
open Go Go.Ev Go.Pl Go.Ma

def ptS (k:Nat):Option St→Value
 | none=>.pointer none
 | some _=>.pointer (some ⟨k,0,none⟩)
def Rn.enc (ks:Nat) (t:Rn):Array Value:=#[.int .i64 t.s.p,.int .i64 t.s.c,.int .i64 t.s.m,.int .i64 t.c,.int .i64 t.n,.int .i64 t.hd,.int .i64 t.at',.int .i64 t.i,.int .i64 t.nx,ptS ks t.st,.bool t.fd,.bool t.dn]
section
variable {W:World} {H:Hp} {k ks b s:Nat} {t:Rn} {w:Wd} {l:List Hp}

end
end Go.Proofs.YtbcdaglbdnkocaaGreat
