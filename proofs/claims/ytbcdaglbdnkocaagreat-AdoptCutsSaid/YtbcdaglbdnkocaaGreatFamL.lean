/-
 A family of lists of parts of a heap: those of one are taken out, and put back; a row of any values. Conditions: none.
-/
import Derived.Test.YtbcdaglbdnkocaaGreatSep
set_option linter.unusedVariables false
set_option linter.unusedSimpArgs false
namespace Go.Ev
open Go
def famL (n:Nat) (g:Nat→List Hp):List Hp:=(List.range n).flatMap g
def famLB (n c:Nat) (g:Nat→List Hp):List Hp:=((List.range n).erase c).flatMap g
section
variable {g g':Nat→List Hp} {n c:Nat} {l x:List Hp} {H:Hp}
theorem Sep.dropF:∀ {m:List Hp},Sep (m ++ l) H→Sep l H
 | [],h=>h
 | _ :: m,h=>Sep.dropF (m:=m) h.tail
theorem Sep.over {X L Y:List Hp} {H:Hp} (h:Sep (X ++ (L ++ Y)) H):Sep (L ++ (X ++ Y)) H:=h.perm (List.perm_append_comm_assoc X L Y)
end
def vrow (n:Nat) (f:Nat→Value):Array Value:=Array.ofFn (n:=n) fun j=>f j.val
end Go.Ev
