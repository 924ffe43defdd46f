/-
  A heap of pages that are empty, full, or of open slots, as it is laid; the first row, as it is counted. Conditions: none.
-/
import Derived.Test.YtbehnodllajnjaaMaRunRows
set_option linter.unusedVariables false
set_option linter.unusedSimpArgs false
namespace Go.Ma
open Go.Pl
namespace Rn
variable {P p i : Nat} {kd cl : Int → Int} {f : Nat → Int}
/-- So many pages are laid. -/
structure LW (P : Nat) (kd cl : Int → Int) (p : Nat) (f : Nat → Int) : Prop where
  u : ∀ j, U (f j)
  pg : ∀ q : Nat, q < P → f (1 + q) = if q < p then rwPg kd cl q else 0
  sl : ∀ q j : Nat, q < p → kd q = 1 → (j : Int) < slots (cl q) → f (1 + P + q * 16 + j) = opn (cl q)
/-- And so many of a page's slots. -/
structure LI (P : Nat) (kd cl : Int → Int) (p i : Nat) (f : Nat → Int) : Prop where
  u : ∀ j, U (f j)
  pg : ∀ q : Nat, q < P → f (1 + q) = if q < p + 1 then rwPg kd cl q else 0
  sl : ∀ q j : Nat, (q < p ∨ (q = p ∧ j < i)) → kd q = 1 → (j : Int) < slots (cl q) → f (1 + P + q * 16 + j) = opn (cl q)
theorem LW.zero (P : Nat) (kd cl : Int → Int) : LW P kd cl 0 (fun _ => 0) := ⟨fun _ => U_0, fun q h => rfl, fun q j h => by omega⟩
theorem LW.none (h : LW P kd cl p f) (h0 : kd p ≠ 0) (h1 : kd p ≠ 1) : LW P kd cl (p + 1) f := by
  refine ⟨h.u, fun q hq => ?_, fun q j hq hk hj => ?_⟩
  · rw [h.pg q hq]
    by_cases e : q = p
    · subst e; rw [if_neg (by omega), if_pos (by omega)]
      exact (rw_0 h0 h1).symm
    · by_cases e2 : q < p
      · rw [if_pos e2, if_pos (by omega)]
      · rw [if_neg e2, if_neg (by omega)]
  · by_cases e : q = p
    · subst e; exact absurd hk h1
    · exact h.sl q j (by omega) hk hj
theorem LW.full (h : LW P kd cl p f) (hp : p < P) (h0 : kd p = 0) : LW P kd cl (p + 1) (fun j => if j = 1 + p then putPg 3 1 0 else f j) := by
  refine ⟨fun j => ?_, fun q hq => ?_, fun q j hq hk hj => ?_⟩
  · show U (if _ then _ else _); split
    · exact U_putPg ..
    · exact h.u j
  · show (if _ then _ else _) = _
    by_cases e : q = p
    · subst e; rw [if_pos rfl, if_pos (by omega)]; unfold rwPg; rw [if_pos h0]
    · rw [if_neg (by omega), h.pg q hq]
      by_cases e2 : q < p
      · rw [if_pos e2, if_pos (by omega)]
      · rw [if_neg e2, if_neg (by omega)]
  · by_cases e : q = p
    · subst e; rw [h0] at hk; cases hk
    · show (if _ then _ else _) = _
      rw [if_neg (by omega)]; exact h.sl q j (by omega) hk hj
theorem LW.super (h : LW P kd cl p f) (hp : p < P) (h1 : kd p = 1) : LI P kd cl p 0 (fun j => if j = 1 + p then putPg 2 (cl p) 0 else f j) := by
  refine ⟨fun j => ?_, fun q hq => ?_, fun q j hq hk hj => ?_⟩
  · show U (if _ then _ else _); split
    · exact U_putPg ..
    · exact h.u j
  · show (if _ then _ else _) = _
    by_cases e : q = p
    · subst e; rw [if_pos rfl, if_pos (by omega)]; unfold rwPg; rw [if_neg (by omega), if_pos h1]; rfl
    · rw [if_neg (by omega), h.pg q hq]
      by_cases e2 : q < p
      · rw [if_pos e2, if_pos (by omega)]
      · rw [if_neg e2, if_neg (by omega)]
  · show (if _ then _ else _) = _
    rw [if_neg (by omega)]; exact h.sl q j (by omega) hk hj
theorem LI.next (h : LI P kd cl p i f) (hp : p < P) (hi : (i : Int) < slots (cl p)) : LI P kd cl p (i + 1) (fun j => if j = 1 + P + p * 16 + i then putSl 1 (cl p) else f j) := by
  have hb := slots_bd (cl p)
  refine ⟨fun j => ?_, fun q hq => ?_, fun q j hq hk hj => ?_⟩
  · show U (if _ then _ else _); split
    · exact U_putSl ..
    · exact h.u j
  · show (if _ then _ else _) = _
    rw [if_neg (by omega)]; exact h.pg q hq
  · have hb2 := slots_bd (cl q)
    show (if _ then _ else _) = _
    by_cases e : q = p ∧ j = i
    · obtain ⟨rfl, rfl⟩ := e; rw [if_pos rfl]; rfl
    · rw [if_neg (by omega)]; exact h.sl q j (by omega) hk hj
theorem LI.fin (h : LI P kd cl p i f) (hi : ¬ (i : Int) < slots (cl p)) : LW P kd cl (p + 1) f := by
  refine ⟨h.u, h.pg, fun q j hq hk hj => ?_⟩
  by_cases e : q = p
  · subst e; exact h.sl q j (.inr ⟨rfl, by omega⟩) hk hj
  · exact h.sl q j (.inl (by omega)) hk hj
/-- The first row of so many, as far as it is looked. -/
structure WI (n : Int) (kd : Int → Int) (p want row : Int) : Prop where
  r : 0 ≤ row ∧ row ≤ p
  rk : ∀ q, p - row ≤ q → q < p → kd q ≠ 0
  rz : row < p → kd (p - row - 1) = 0
  no : want < 0 → want = -1 ∧ ∀ h, 0 ≤ h → h + n ≤ p → ∃ q, h ≤ q ∧ q < h + n ∧ kd q = 0
  yes : 0 ≤ want → want + n ≤ p ∧ (∀ q, want ≤ q → q < want + n → kd q ≠ 0) ∧ ∀ h, 0 ≤ h → h < want → ∃ q, h ≤ q ∧ q < h + n ∧ kd q = 0
variable {n pp want row : Int}
theorem WI.zero (hn : 1 ≤ n) : WI n kd 0 (-1) 0 :=
  ⟨by omega, fun q h1 h2 => by omega, fun h => by omega, fun _ => ⟨rfl, fun h h1 h2 => by omega⟩, fun h => by omega⟩
theorem WI.full (h : WI n kd pp want row) (hn : 1 ≤ n) (hk : kd pp = 0) : WI n kd (pp + 1) want 0 := by
  obtain ⟨r1, r2⟩ := h.r
  refine ⟨by omega, fun q h1 h2 => by omega, fun _ => by rw [show pp + 1 - 0 - 1 = pp by omega]; exact hk, fun hw => ⟨(h.no hw).1, fun x h1 h2 => ?_⟩, fun hw => ?_⟩
  · by_cases e : x + n ≤ pp
    · exact (h.no hw).2 x h1 e
    · exact ⟨pp, by omega, by omega, hk⟩
  · have := h.yes hw
    exact ⟨by omega, this.2⟩
theorem WI.next (h : WI n kd pp want row) (hn : 1 ≤ n) (hk : kd pp ≠ 0) : (((row + 1 == n) = false) ∧ WI n kd (pp + 1) want (row + 1)) ∨ ((row + 1 == n) = true ∧ decide (want < 0) = false ∧ WI n kd (pp + 1) want (row + 1)) ∨
    ((row + 1 == n) = true ∧ decide (want < 0) = true ∧ 0 ≤ pp - n + 1 ∧ WI n kd (pp + 1) (pp - n + 1) (row + 1)) := by
  obtain ⟨r1, r2⟩ := h.r
  have rk : ∀ q, pp + 1 - (row + 1) ≤ q → q < pp + 1 → kd q ≠ 0 := fun q h1 h2 => by
    by_cases e : q = pp
    · subst e; exact hk
    · exact h.rk q (by omega) (by omega)
  have rz : row + 1 < pp + 1 → kd (pp + 1 - (row + 1) - 1) = 0 := fun hh => by
    rw [show pp + 1 - (row + 1) - 1 = pp - row - 1 by omega]; exact h.rz (by omega)
  have yes : 0 ≤ want → want + n ≤ pp + 1 ∧ (∀ q, want ≤ q → q < want + n → kd q ≠ 0) ∧ ∀ h, 0 ≤ h → h < want → ∃ q, h ≤ q ∧ q < h + n ∧ kd q = 0 := fun hw => by
    have := h.yes hw
    exact ⟨by omega, this.2⟩
  by_cases e : row + 1 = n
  · by_cases hw : want < 0
    · refine .inr (.inr ⟨beq_iff_eq.2 e, decide_eq_true hw, by omega, ⟨by omega, rk, rz, fun _ => by omega, fun _ => ⟨by omega, fun q h1 h2 => rk q (by omega) (by omega), fun x h1 h2 => ?_⟩⟩⟩)
      exact (h.no hw).2 x h1 (by omega)
    · exact .inr (.inl ⟨beq_iff_eq.2 e, decide_eq_false hw, ⟨by omega, rk, rz, fun hh => absurd hh hw, yes⟩⟩)
  · refine .inl ⟨beq_eq_false_iff_ne.2 e, ⟨by omega, rk, rz, fun hw => ⟨(h.no hw).1, fun x h1 h2 => ?_⟩, yes⟩⟩
    by_cases e2 : x + n ≤ pp
    · exact (h.no hw).2 x h1 e2
    · by_cases e3 : row + 1 < n
      · exact ⟨pp - row - 1, by omega, by omega, h.rz (by omega)⟩
      · obtain ⟨q, q1, q2, q3⟩ := (h.no hw).2 (pp - n) (by omega) (by omega)
        exact absurd q3 (h.rk q (by omega) (by omega))
/-- What is found is the first row. -/
theorem Rf.first {P : Int} {t : Rn} {w : Wd} (h : Rf P n kd cl t w) (hn : 1 ≤ n) (hW : WI n kd P want row) : (t.fd = true → 0 ≤ want ∧ t.hd = want) ∧ (t.fd = false → want < 0) := by
  refine ⟨fun hf => ?_, fun hf => ?_⟩
  · have hb := h.won hf
    obtain ⟨a1, a2, a3, a4, a5⟩ := hb.a
    have hw : 0 ≤ want := by
      apply Classical.byContradiction; intro hh
      obtain ⟨q, q1, q2, q3⟩ := (hW.no (by omega)).2 t.hd a1 a4
      exact (hb.own q q1 q2).1 q3
    obtain ⟨y1, y2, y3⟩ := hW.yes hw
    refine ⟨hw, ?_⟩
    apply Classical.byContradiction; intro hh
    by_cases hl : want < t.hd
    · obtain ⟨q, q1, q2, q3, q4⟩ := hb.early want hw hl
      exact y2 q q1 q2 q4
    · obtain ⟨q, q1, q2, q3⟩ := y3 t.hd a1 (by omega)
      exact (hb.own q q1 q2).1 q3
  · apply Classical.byContradiction; intro hh
    obtain ⟨y1, y2, y3⟩ := hW.yes (by omega)
    obtain ⟨l1, l2⟩ := h.lost hf
    obtain ⟨q, q1, q2, q3, q4⟩ := h.early want (by omega) (by omega)
    exact y2 q q1 q2 q4
/-- Each page's word at the end. -/
theorem Rf.word {P : Int} {t : Rn} {w : Wd} (h : Rf P n kd cl t w) (hn : 1 ≤ n) {q : Int} (h0 : 0 ≤ q) (h1 : q < P) :
    (t.fd = true → q = t.hd → w.get (1 + q) = putPg 1 0 0) ∧ (t.fd = true → t.hd < q → q < t.hd + n → w.get (1 + q) = putPg 4 t.hd 0) ∧ ((t.fd = false ∨ ¬ (t.hd ≤ q ∧ q < t.hd + n)) → w.get (1 + q) = rwPg kd cl q ∨ (w.get (1 + q) = 0 ∧ kd q = 1)) := by
  refine ⟨fun hf e => ?_, fun hf e1 e2 => ?_, fun hh => ?_⟩
  · have := ((h.won hf).own q (by omega) (by omega)).2
    rw [if_neg (by omega)] at this; exact this
  · have := ((h.won hf).own q (by omega) (by omega)).2
    rw [if_pos (by omega)] at this; exact this
  · cases hf : t.fd
    · exact (h.lost hf).2 q h0 h1
    · rcases hh with hh | hh
      · rw [hf] at hh; cases hh
      · exact (h.won hf).pw q h0 h1 hh
theorem Rw.rf {P : Int} {t : Rn} {w : Wd} (h : Rw P n kd cl t w) (hd : t.dn = true) : Rf P n kd cl t w := by
  cases h with
  | z _ h => exact h
  | a hd' => rw [hd] at hd'; cases hd'
  | b hd' => rw [hd] at hd'; cases hd'
  | c hd' => rw [hd] at hd'; cases hd'
  | d hd' => rw [hd] at hd'; cases hd'
  | e hd' => rw [hd] at hd'; cases hd'
  | f hd' => rw [hd] at hd'; cases hd'
theorem Rw.of {P : Int} {t : Rn} {w : Wd} (h : Rw P n kd cl t w) : w.of (rsh P) := by
  cases h with
  | z _ h => exact h.of
  | a _ _ _ _ h => exact h.of
  | b _ _ _ _ h => exact h.of
  | c _ _ _ _ h => exact h.of
  | d _ _ _ _ h => exact h.of
  | e _ _ _ _ h => exact h.of
  | f _ _ _ h => exact h.of
end Rn
end Go.Ma
