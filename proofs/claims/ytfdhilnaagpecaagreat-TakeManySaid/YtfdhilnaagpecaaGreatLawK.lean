/-
  What the laws use of the shared words: filled, modelled, compared. Conditions: none.
-/
import Derived.Test.YtfdhilnaagpecaaGreatCodeAllotmentlaw2
import Derived.Test.YtfdhilnaagpecaaGreatModel
import Derived.Test.YtfdhilnaagpecaaGreatCode
open Nat renaming reduceAdd → xA, reduceMul → xB, reduceSub → xC, reduceEqDiff → xD, reduceBEq → xE, reduceLeDiff → xF, reduceLT → xG
open Int renaming reduceAdd → xH, reduceMul → xI, reduceSub → xJ, reduceLT → xK, reduceLE → xL, reduceToNat → xM, reduceEq → xN, reduceNe → xO, reduceBEq → xP, reduceBNe → xQ
set_option linter.unusedVariables false
set_option linter.unusedSimpArgs false
set_option maxRecDepth 8000
namespace Go.Proofs.YtfdhilnaagpecaaGreat
open Go Go.Ev Go.Pl Go.Ma

/-- Words as they are laid. -/
def rowW (n : Nat) (ws : Nat → Int) : Wd := { Wd.zero n with ws := fun j => if j < n then ws j else 0 }

theorem LogOk.row (n : Nat) (ws : Nat → Int) : LogOk none 0 (rowW n ws) fun _ => none := ⟨by simp [rowW, Wd.zero], by simp [rowW, Wd.zero], by simp [rowW, Wd.zero], .inl ⟨rfl, rfl, rfl⟩⟩

section
variable {W : World} {H h : Hp} {l : List Hp} {n cap : Nat} {a : Option Addr} {ws : Nat → Int}

def fillI (b s : Nat) (n cap : Nat) (a : Option Addr) (ws : Nat → Int) (h : Hp) (l : List Hp) (F' : Fr) (H' : Hp) : Prop :=
  ∃ i : Nat, i ≤ n ∧ gt F' 4 = .int .i64 (i : Int) ∧ gt F' 0 = .slice a n cap ∧ gt F' 3 = .pointer (some ⟨b, 0, none⟩) ∧
    Sep (wB b s { Wd.zero n with ws := fun j => if j < i then ws j else 0 } :: wR s { Wd.zero n with ws := fun j => if j < i then ws j else 0 } :: h :: l) H'
theorem c_fill (hn : n ≤ 2000) (hr : RowU h a n ws) (hS : Sep (h :: l) H) :
    CallP Tryz.prog W 5 #[.slice a n cap] H fun v H' => ∃ b s, v = .pointer (some ⟨b, 0, none⟩) ∧ Sep (wB b s (rowW n ws) :: wR s (rowW n ws) :: h :: l) H' := by
  refine CallP.of mixed Tryz.func5 tr5 (by show 1 ≤ _; decide) fun W _ => ?_
  simp only [↓DD, UU, ↓reduceIte, xA, xB, xC, xD, xE, xF, xG, xH, xI, xJ, xK, xL, xM, xN, xO, xP, xQ, ne_eq, eq_self]
  refine callT_of (c_wnew n hn hS) ?_
  rintro v H' ⟨b, s, rfl, hS⟩
  simp only [↓DD, UU, ↓reduceIte, xA, xB, xC, xD, xE, xF, xG, xH, xI, xJ, xK, xL, xM, xN, xO, xP, xQ, ne_eq, eq_self]
  refine loop_intro (fillI b s n cap a ws h l) (fun F' _ => (n - iv (gt F' 4)).toNat) ⟨0, Nat.zero_le _, rfl, rfl, rfl, by simpa [Wd.zero] using hS⟩ ?_
  rintro F' H' ⟨i, hi, e4, e0, e3, hS⟩
  by_cases hlt : i < n
  · have g1 : decide ((i : Int) < (n : Int)) = true := decide_eq_true (by omega)
    have g2 : (0 : Int) ≤ (i : Int) := by omega
    have g3 : (i : Int) < (n : Int) := by omega
    have w1 : w64 ((i : Int) + 1) = ((i + 1 : Nat) : Int) := by rw [w64_eq (by omega) (by omega)]; omega
    obtain ⟨x, o, rfl, hrd⟩ := (hr.sub (hS.sb h (by simp))).at' hlt
    simp only [e4, e0, e3, g1, g2, g3, hrd, Int.toNat_natCast, ↓DD, UU, ↓reduceIte, xA, xB, xC, xD, xE, xF, xG, xH, xI, xJ, xK, xL, xM, xN, xO, xP, xQ, ne_eq, eq_self]
    refine callT_of (c_put (i : Int) (ws i) g2 g3 hS) ?_
    rintro v H' ⟨rfl, hS⟩
    simp only [e4, e0, e3, wrap_w64, w1, ↓DD, UU, ↓reduceIte, xA, xB, xC, xD, xE, xF, xG, xH, xI, xJ, xK, xL, xM, xN, xO, xP, xQ, ne_eq, eq_self]
    refine ⟨⟨i + 1, hlt, rfl, by simp [gt, e0], by simp [gt, e3], ?_⟩, by simp [gt, iv, e4]; omega⟩
    have e : (Wd.put { Wd.zero n with ws := fun j => if j < i then ws j else 0 } (i : Int) (ws i)) = { Wd.zero n with ws := fun j => if j < i + 1 then ws j else 0 } := by
      unfold Wd.put; simp only [Wd.mk.injEq, true_and, and_true, Int.toNat_natCast]
      funext j
      by_cases h1 : j = i
      · subst h1; simp
      · rw [if_neg h1]; by_cases h2 : j < i
        · rw [if_pos h2, if_pos (by omega)]
        · rw [if_neg h2, if_neg (by omega)]
    rw [e] at hS; exact hS
  · have hin : i = n := by omega
    subst hin
    have g1 : decide ((i : Int) < (i : Int)) = false := decide_eq_false (by omega)
    simp only [e4, e0, e3, g1, ↓DD, UU, ↓reduceIte, xA, xB, xC, xD, xE, xF, xG, xH, xI, xJ, xK, xL, xM, xN, xO, xP, xQ, ne_eq, eq_self]
    exact ⟨b, s, rfl, hS⟩

end

end Go.Proofs.YtfdhilnaagpecaaGreat
