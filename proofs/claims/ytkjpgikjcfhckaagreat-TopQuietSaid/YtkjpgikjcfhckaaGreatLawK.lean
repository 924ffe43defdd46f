/-
 What the laws use of the shared words: filled, modelled, compared. Conditions: none.
-/
import Derived.Test.YtkjpgikjcfhckaaGreatModel
import Derived.Test.YtkjpgikjcfhckaaGreatCode
set_option linter.unusedVariables false
set_option linter.unusedSimpArgs false
set_option maxRecDepth 8000
namespace Go.Proofs.YtkjpgikjcfhckaaGreat
open Go Go.Ev Go.Pl Go.Ma

def rowW (n:Nat) (ws:Nat→Int):Wd:={ Wd.zero n with ws:=fun j=>if j<n then ws j else 0 }

theorem LogOk.row (n:Nat) (ws:Nat→Int):LogOk none 0 (rowW n ws) fun _=>none:=⟨by simp [rowW,Wd.zero],by simp [rowW,Wd.zero],by simp [rowW,Wd.zero],.inl ⟨rfl,rfl,rfl⟩⟩

section
variable {W:World} {H h:Hp} {l:List Hp} {n cap:Nat} {a:Option Addr} {ws:Nat→Int}


end

end Go.Proofs.YtkjpgikjcfhckaaGreat
