/-
 Small laws on heaps that have new blocks, for the walks. Conditions: none.
-/
import Derived.Test.YtkjpgikjcfhckaaGreatEv
namespace Go.Ev
open Go

theorem is_upd (H:Hp) (b:Nat) (o:Obj) (k:Nat):(upd H b o k).isSome=(decide (k=b) || (H k).isSome):=by
 unfold upd;split<;>simp_all

end Go.Ev
