/-
 A walk may be cut behind a part of a row of steps. Conditions: none.
-/
import Derived.Test.YtkjpgikjcfhckaaGreatAlt
set_option linter.unusedVariables false
set_option linter.unusedSectionVars false
namespace Go.Ev
open Go
variable {P:Program} {W:World} {a b c:MC} {Q:Exit→Fr→Hp→Prop} {F:Fr} {H:Hp}
theorem part_cell {l:List Hp} {H h:Hp} (hS:Sep l H) (i:Nat) (hi:l[i]? = some h) {b k:Nat} {v:Value} (hr:rd h b k=some v):∃ c T f,H b=some (.cells c T f)∧c[k]? = some v ∧
  ∀ j x o,i≠j→l[j]? = some (sg x o)→(b=x)=False∧(x=b)=False:=by
 unfold rd at hr
 split at hr
 ·rename_i c T f e
  refine⟨c,T,f,hS.sb h (List.mem_of_getElem? hi) _ _ e,hr,fun j x o hij hj=>?_⟩
  have:b≠x:=fun e2=>by
   subst e2
   obtain⟨h1,e1⟩:=List.getElem?_eq_some_iff.1 hi
   obtain⟨h2,e2⟩:=List.getElem?_eq_some_iff.1 hj
   rcases Nat.lt_or_gt_of_ne hij with hlt | hlt
   ·have:=List.pairwise_iff_getElem.1 hS.dj i j h1 h2 hlt
    rw[e1,e2]at this
    rcases this b with h' | h'
    ·rw[e]at h';cases h'
    ·rw[sg_at]at h';cases h'
   ·have:=List.pairwise_iff_getElem.1 hS.dj j i h2 h1 hlt
    rw[e1,e2]at this
    rcases this b with h' | h'
    ·rw[sg_at]at h';cases h'
    ·rw[e]at h';cases h'
  exact⟨eq_false this,eq_false fun e=>this e.symm⟩
 ·cases hr
end Go.Ev
