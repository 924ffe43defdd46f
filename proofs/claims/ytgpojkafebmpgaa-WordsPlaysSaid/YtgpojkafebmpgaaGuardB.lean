/-
  Accesses that are out of place, and panic: contracts over the heap in parts. Conditions: none.
-/
import Derived.Test.YtgpojkafebmpgaaGuard
import Derived.Deep.RegionWith
set_option linter.unusedVariables false
set_option linter.unusedSimpArgs false
set_option maxRecDepth 8000
namespace Go.Proofs.Ytgpojkafebmpgaa
open Go Go.Ev Go.Pl Go.Ma

section
variable {W : World} {H : Hp} {l : List Hp} {x b s : Nat} {w : Wd}
/-- A box that holds the words. -/
def wbox (x b : Nat) : Hp := sg x (.cells #[.pointer (some ⟨b, 0, none⟩)] 25 (0, 0))
theorem CallX.mono {f : FuncId} {args : Array Value} {K K' : Hp → Prop} (h : CallX W f args H K) (hk : ∀ H', K H' → K' H') : CallX W f args H K' := by
  intro w hw
  refine (h w hw).mono ?_
  rintro e u ⟨H', t, pv, rfl, hs, hK⟩
  exact ⟨H', t, pv, rfl, hs, hk _ hK⟩
theorem m_out {a : Int} (ha : ¬ (0 ≤ a ∧ a < w.n)) (hS : Sep (wB b s w :: l) H) : CallX W 110 #[.pointer (some ⟨b, 0, none⟩), .int .i64 a] H (fun H' => Sep (wB b s w :: l) H') := by
  refine x_must ?_
  intro w hw
  refine (c_in a hS _ hw).mono ?_
  rintro e u ⟨v, H', rfl, hs, rfl, hS⟩
  refine ⟨_, H', rfl, hs, ?_, hS⟩
  rw [← Bool.decide_and, decide_eq_false ha]
theorem c_in_nil (a : Int) (hS : Sep l H) : CallP Try.prog W 59 #[.pointer none, .int .i64 a] H fun v H' => v = .bool false ∧ Sep l H' := by
  refine CallP.of mixed Try.func59 tr59 (by show 2 ≤ _; decide) fun W _ => ?_
  simp only [↓D0, ↓D1, ↓D2, ↓D3, ↓D4, ↓D5, ↓D6, ↓D7, ↓D8, ↓D9, U0, U1, U2, U3, U4, U5, U6, U7, U8, U9, U10, ↓reduceIte, Nat.reduceAdd, Nat.reduceMul, Nat.reduceSub, Nat.reduceEqDiff, Nat.reduceBEq, Nat.reduceLeDiff, Nat.reduceLT, Int.reduceAdd, Int.reduceMul, Int.reduceSub, Int.reduceLT, Int.reduceLE, Int.reduceToNat, Int.reduceEq, Int.reduceNe, Int.reduceBEq, Int.reduceBNe, ne_eq, eq_self]
  exact hS
theorem m_nil (a : Int) (hS : Sep l H) : CallX W 110 #[.pointer none, .int .i64 a] H (fun H' => Sep l H') := x_must (c_in_nil a hS)
end
end Go.Proofs.Ytgpojkafebmpgaa
