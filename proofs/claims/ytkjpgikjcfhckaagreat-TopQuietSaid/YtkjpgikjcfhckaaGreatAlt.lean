/-
 A drawn region whose order is open: both ways. Conditions: none.
-/
import Derived.Test.YtkjpgikjcfhckaaGreatSep
import Derived.Test.YtkjpgikjcfhckaaGreatMono
set_option linter.unusedVariables false
namespace Go.Ev
open Go
variable {P:Program} {W:World} {R:List (Nat×Array Value×List Nat)} {L:Fr→Hp→Prop} {F:Fr} {H:Hp}

theorem e_dalt2 (d:Option Nat) (m:MO) (r n y:ST) (l:Bool) (i:MI):dwp P W R (.alt false ⟨d,m,none⟩ r (.alt l i n y)) L F H=(m.wp P W F H (fun v H'=>hold R H'∧dwp P W R r L (putD F d v) H')∧dwp P W R (.alt l i n y) L F H):=by
 rw[e_dalt (last:=false) (h:=rfl)]
 simp only[Bool.false_eq_true,false_or]
theorem draw_cut {l:ST} {Q:Exit→Fr→Hp→Prop} (R:List (Nat×Array Value×List Nat)) (C:Fr→Hp→Prop) (h0:hold R H) (hr:dwp P W R l C F H) (hk:∀ F H,C F H→Q .normal F H):mwp P W (.draw l) Q F H:=
 draw_intro R h0 (dwp_mono l hr hk)
end Go.Ev
