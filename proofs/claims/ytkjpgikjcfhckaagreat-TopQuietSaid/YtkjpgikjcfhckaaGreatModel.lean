/-
 The document's words: contracts, over heaps in parts. Conditions: none.
-/
import Derived.Test.YtkjpgikjcfhckaaGreatWords
import Derived.Test.YtkjpgikjcfhckaaGreatRefPack
import Derived.Laws.Append
set_option linter.unusedVariables false
set_option linter.unusedSimpArgs false
set_option maxRecDepth 8000
namespace Go.Proofs.YtkjpgikjcfhckaaGreat
open Go Go.Ev Go.Pl Go.Ma

def mobj (s:Nat) (a:Option Addr) (cap:Nat) (w:Wd):Array Value:=
 #[.slice (some ⟨s,0,none⟩) w.n w.n,.int .i64 w.st,.int .i64 w.cl,.int .i64 w.kd,.int .i64 w.pl,.int .u64 w.was,.int .u64 w.pt,.bool w.ok,.slice a w.st.toNat cap]
def mB (b s:Nat) (a:Option Addr) (cap:Nat) (w:Wd):Hp:=sg b (.cells (mobj s a cap w) 166 (0,0))
structure LogOk (a:Option Addr) (cap:Nat) (w:Wd) (g:Hp):Prop where
 le:w.st.toNat≤cap
 lo:0≤w.st
 hi:w.st≤1000000000
 own:(a=none∧cap=0∧g=fun _=>none)∨∃ x c,a=some ⟨x,0,none⟩∧g=sg x (.cells c 52 (0,0))∧c.size=cap*6

section
variable {W:World} {H g:Hp} {b s cap:Nat} {a:Option Addr} {w:Wd} {l:List Hp}

theorem LogOk.zero (n:Nat):LogOk none 0 (Wd.zero n) fun _=>none:=⟨by simp [Wd.zero],by simp [Wd.zero],by simp [Wd.zero],.inl ⟨rfl,rfl,rfl⟩⟩
end

end Go.Proofs.YtkjpgikjcfhckaaGreat
