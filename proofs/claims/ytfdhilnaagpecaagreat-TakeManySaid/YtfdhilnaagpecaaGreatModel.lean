/-
  The document's words: contracts, over heaps in parts. Conditions: none.
-/
import Derived.Test.YtfdhilnaagpecaaGreatWords
import Derived.Test.YtfdhilnaagpecaaGreatRefPack
import Derived.Laws.Append
set_option linter.unusedVariables false
set_option linter.unusedSimpArgs false
set_option maxRecDepth 8000
namespace Go.Proofs.YtfdhilnaagpecaaGreat
open Go Go.Ev Go.Pl Go.Ma

/-- The document's object: the words, the steps, the last access, the log. -/
def mobj (s : Nat) (a : Option Addr) (cap : Nat) (w : Wd) : Array Value :=
  #[.slice (some ⟨s, 0, none⟩) w.n w.n, .int .i64 w.st, .int .i64 w.cl, .int .i64 w.kd, .int .i64 w.pl, .int .u64 w.was, .int .u64 w.pt, .bool w.ok, .slice a w.st.toNat cap]
/-- The log's row: none, or a block of its own. -/
structure LogOk (a : Option Addr) (cap : Nat) (w : Wd) (g : Hp) : Prop where
  le : w.st.toNat ≤ cap
  lo : 0 ≤ w.st
  hi : w.st ≤ 1000000000
  own : (a = none ∧ cap = 0 ∧ g = fun _ => none) ∨ ∃ x c, a = some ⟨x, 0, none⟩ ∧ g = sg x (.cells c 96 (0, 0)) ∧ c.size = cap * 6

section
variable {W : World} {H g : Hp} {b s cap : Nat} {a : Option Addr} {w : Wd} {l : List Hp}


end

end Go.Proofs.YtfdhilnaagpecaaGreat
