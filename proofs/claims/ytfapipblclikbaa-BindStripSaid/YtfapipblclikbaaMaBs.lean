/-
  A page bound, stripped and bound again, plain: sixteen ways. Conditions: none.
-/
import Derived.Test.YtfapipblclikbaaMaIts
import Derived.Test.YtfapipblclikbaaLawK
set_option linter.unusedVariables false
namespace Go.Ma
open Go.Pl

def bsW : Wd := Go.Proofs.Ytfapipblclikbaa.rowW 19 fun j => if j = 2 then putPg 1 0 0 else 0
def bsK (x : Int) : Bi × Wd := its Bi.step 40 (Bi.new ⟨1, 2, 0⟩ 0 0 x) bsW
def bsC (x : Int) : Sc × Wd := its Sc.step 40 (Sc.new ⟨1, 2, 0⟩ 1 x 0) (bsK x).2
def bsP (x : Int) : Wd := ((bsC x).2.put 3 (putSl 1 x)).put 4 (putSl 1 x)
def bsT (x : Int) : St × Wd := its St.step 40 (St.new ⟨1, 2, 0⟩ 1 0 x) (bsP x)
def bsM (x y : Int) : Bi × Wd := its Bi.step 40 (Bi.new ⟨1, 2, 0⟩ 1 0 y) (bsT x).2
def bsOk (x y : Int) : Bool := (bsK x).1.dn && (bsC x).1.fd && decide ((bsC x).1.i = 1) && decide (0 ≤ (bsC x).1.f + (bsC x).1.many) && decide ((bsC x).1.f + (bsC x).1.many ≤ 100) && (bsT x).1.hd && (bsM x y).1.dn &&
  ((List.range 16).all fun i => decide ((bsM x y).2.get (3 + i) = if i = 0 then putSl 2 1 else if (i : Int) < slots y then putSl 1 y else 0)) && decide ((bsM x y).2.get 2 = putPg 2 y 1)
theorem bs_end : ∀ x : Fin 4, ∀ y : Fin 4, bsOk x.val y.val = true := by decide +kernel
end Go.Ma
