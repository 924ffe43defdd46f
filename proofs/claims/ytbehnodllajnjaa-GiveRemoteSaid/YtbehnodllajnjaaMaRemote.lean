/-
  Who gives a slot back, alone: how it ends, whose page it is. Conditions: none.
-/
import Derived.Test.YtbehnodllajnjaaMaGive2
import Derived.Test.YtbehnodllajnjaaMaMany
set_option linter.unusedVariables false
set_option linter.unusedSimpArgs false
namespace Go.Ma
open Go.Pl

theorem super_eq {k c : Int} (hk : 0 ≤ k ∧ k ≤ 255) (hc : 0 ≤ c ∧ c ≤ 255) : super k c = 2 + 16 * k + 4096 * c := by
  unfold super putPg; rw [if_pos (by omega)]
theorem read_super {s : Sh} {q k c : Int} (hq : 0 ≤ page s.p s.c s.m q) (hk : 0 ≤ k ∧ k ≤ 3) (hc : 0 ≤ c ∧ c < s.c) (hc2 : c ≤ 255) :
    okPg s q (super k c) = true ∧ pgK s q (super k c) = 2 ∧ pgA s q (super k c) = k ∧ pgB s q (super k c) = c := by
  have e := super_eq (k := k) (c := c) ⟨hk.1, by omega⟩ ⟨hc.1, hc2⟩
  have m1 : super k c % 16 = 2 := by rw [e]; omega
  have m2 : pt (super k c) 16 = k := by unfold pt; rw [e]; omega
  have m3 : pt (super k c) 4096 = c := by unfold pt; rw [e]; omega
  have ho : okPg s q (super k c) = true := by
    unfold okPg fits
    rw [m1, m2, m3]
    have : putPg 2 k c = super k c := rfl
    rw [this, decide_eq_true rfl, decide_eq_true hq, if_neg (by decide), if_pos rfl, decide_eq_true (by omega : k < 4), decide_eq_true hc.2]
    rfl
  refine ⟨ho, ?_, ?_, ?_⟩
  · unfold pgK; rw [if_pos ho]; exact m1
  · unfold pgA; rw [if_pos ho]; exact m2
  · unfold pgB; rw [if_pos ho]; exact m3
theorem its_add {T : Type} (st : T → Wd → T × Wd) (a : Nat) (t : T) (w : Wd) : ∀ b, its st (a + b) t w = its st b (its st a t w).1 (its st a t w).2
  | 0 => rfl
  | b + 1 => by
    show st (its st (a + b) t w).1 (its st (a + b) t w).2 = st _ _
    rw [its_add st a t w b]
namespace Gv
/-- The giver of slot 0 of a page of class k that client 1 bound; it is client c. -/
structure Rem (m c k : Int) (w : Wd) : Prop where
  m0 : 0 ≤ m
  m1 : m ≤ 8
  c0 : 0 ≤ c
  c1 : c ≤ 1
  k0 : 0 ≤ k
  k1 : k ≤ 3
  of : w.of ⟨1, 2, m⟩
  st : w.st = 0
  pg : w.get 2 = super k 1
  sl : w.get 3 = taken k
variable {m c k : Int} {w : Wd}
theorem Rem.may (h : Rem m c k w) : Go.Pl.may 1 2 m = true := (may_iff _ _ _).2 ⟨by decide, by decide, by decide, by decide, h.m0, h.m1⟩
def rt0 (m c : Int) : Gv := ⟨⟨1, 2, m⟩, c, 0, 0, 0, 0, 0, 0, 0, 0, 0, none, false, false, false⟩
theorem Rem.new (h : Rem m c k w) : Gv.new ⟨1, 2, m⟩ c 0 = rt0 m c := by
  have hm := h.may
  have h1 : there 1 2 m 0 = true := by unfold there; rw [hm]; rfl
  have h2 : sp 1 2 m 0 = 0 := by unfold sp; rw [if_pos h1]; rfl
  have h3 : decide (status 1 2 m c < 0) = false := by
    have : status 1 2 m c = c := by unfold status within; rw [hm]; have := h.c0; have := h.c1; simp; omega
    rw [this]; exact decide_eq_false (by have := h.c0; omega)
  unfold Gv.new rt0
  simp only [h1, h2, h3]
  rfl
def rt1 (m c k : Int) : Gv := { rt0 m c with wd := super k 1, pK := 2, pA := k, pB := 1, nx := 1, sl := 0, ms := true }
theorem Rem.step1 (h : Rem m c k w) : (rt0 m c).step w = (rt1 m c k, w.load c 2) := by
  have hm := h.may
  have hpat : (rt0 m c).pat = 2 := (page_yes (p := 1) (c := 2) (m := m) (i := 0) hm (by decide) (by decide)).trans (by decide)
  have hoff : (rt0 m c).off = 0 := by
    have h1 : there 1 2 m 0 = true := by unfold there; rw [hm]; rfl
    show so 1 2 m 0 = 0
    unfold so; rw [if_pos h1]; rfl
  have hr := read_super (s := ⟨1, 2, m⟩) (q := 0) (k := k) (c := 1) (by show 0 ≤ page 1 2 m 0; have := page_yes (p := 1) (c := 2) (m := m) (i := 0) hm (by decide) (by decide); omega) ⟨h.k0, h.k1⟩ ⟨by decide, by show (1 : Int) < 2; decide⟩ (by decide)
  obtain ⟨r1, r2, r3, r4⟩ := hr
  rw [step_0 (t := rt0 m c) rfl rfl]
  have hl : (rt0 m c).look w = rt1 m c k := by
    unfold look isL isS read
    rw [hpat, hoff, h.pg]
    show (if (okPg ⟨1, 2, m⟩ 0 (super k 1) && (decide (pgK ⟨1, 2, m⟩ 0 (super k 1) = 3) && _)) = true then _ else if (okPg ⟨1, 2, m⟩ 0 (super k 1) && (decide (pgK ⟨1, 2, m⟩ 0 (super k 1) = 2) && decide (0 % size (pgA ⟨1, 2, m⟩ 0 (super k 1)) = 0))) = true then _ else _) = _
    rw [r1, r2]
    simp
    unfold rt1 rt0
    simp [r2, r3, r4]
  rw [hl, hpat]
  rfl
end Gv
end Go.Ma
