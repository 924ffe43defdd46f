/-
  A heap of pages bound to other classes, some with a taken slot: as it is laid; what a seeker finds there. Conditions: none.
-/
import Derived.Test.YtfopnendmcpglaaMaSeekSnd
set_option linter.unusedVariables false
set_option linter.unusedSectionVars false
set_option linter.unusedSimpArgs false
namespace Go.Ma
open Go.Pl
namespace Em
section
variable {P p i : Nat} {kq : Nat → Int} {fu : Nat → Bool} {f : Nat → Int}
/-- A slot's word. -/
def emS (kq : Nat → Int) (fu : Nat → Bool) (q j : Nat) : Int := if (j : Int) < slots (kq q) then (if j = 1 ∧ fu q = true then taken (kq q) else opn (kq q)) else 0
theorem emS_U (q j : Nat) : U (emS kq fu q j) := by
  unfold emS
  split
  · split
    · exact U_putSl ..
    · exact U_putSl ..
  · exact U_0
structure LE (P : Nat) (kq : Nat → Int) (fu : Nat → Bool) (p : Nat) (f : Nat → Int) : Prop where
  u : ∀ j, U (f j)
  z : f 0 = 0
  pg : ∀ q : Nat, q < P → f (1 + q) = if q < p then putPg 2 (kq q) 0 else 0
  sl : ∀ q j : Nat, q < P → j < 16 → f (1 + P + q * 16 + j) = if q < p then emS kq fu q j else 0
structure LJ (P : Nat) (kq : Nat → Int) (fu : Nat → Bool) (p i : Nat) (f : Nat → Int) : Prop where
  u : ∀ j, U (f j)
  z : f 0 = 0
  pg : ∀ q : Nat, q < P → f (1 + q) = if q < p + 1 then putPg 2 (kq q) 0 else 0
  sl : ∀ q j : Nat, q < P → j < 16 → f (1 + P + q * 16 + j) = if q < p ∨ (q = p ∧ j < i) then emS kq fu q j else 0
theorem LE.zero : LE P kq fu 0 (fun _ => 0) := ⟨fun _ => U_0, rfl, fun q h => by rw [if_neg (by omega)], fun q j h1 h2 => by rw [if_neg (by omega)]⟩
theorem LE.page (h : LE P kq fu p f) (hp : p < P) : LJ P kq fu p 0 (fun j => if j = 1 + p then putPg 2 (kq p) 0 else f j) := by
  refine ⟨fun j => ?_, ?_, fun q hq => ?_, fun q j hq hj => ?_⟩
  · show U (if _ then _ else _); split
    · exact U_putPg ..
    · exact h.u j
  · show (if _ then _ else _) = _; rw [if_neg (by omega)]; exact h.z
  · show (if _ then _ else _) = _
    by_cases e : q = p
    · subst e; rw [if_pos rfl, if_pos (by omega)]
    · rw [if_neg (by omega), h.pg q hq]
      by_cases e2 : q < p
      · rw [if_pos e2, if_pos (by omega)]
      · rw [if_neg e2, if_neg (by omega)]
  · show (if _ then _ else _) = _
    rw [if_neg (by omega), h.sl q j hq hj]
    by_cases e2 : q < p
    · rw [if_pos e2, if_pos (by omega)]
    · rw [if_neg e2, if_neg (by omega)]
theorem LJ.next (h : LJ P kq fu p i f) (hp : p < P) (hi : i < 16) {y : Int} (hy : y = emS kq fu p i) : LJ P kq fu p (i + 1) (fun j => if j = 1 + P + p * 16 + i then y else f j) := by
  subst hy
  refine ⟨fun j => ?_, ?_, fun q hq => ?_, fun q j hq hj => ?_⟩
  · show U (if _ then _ else _); split
    · exact emS_U ..
    · exact h.u j
  · show (if _ then _ else _) = _; rw [if_neg (by omega)]; exact h.z
  · show (if _ then _ else _) = _; rw [if_neg (by omega)]; exact h.pg q hq
  · show (if _ then _ else _) = _
    by_cases e : q = p ∧ j = i
    · obtain ⟨rfl, rfl⟩ := e; rw [if_pos rfl, if_pos (by omega)]
    · rw [if_neg (by omega), h.sl q j hq hj]
      by_cases e2 : q < p ∨ (q = p ∧ j < i)
      · rw [if_pos e2, if_pos (by omega)]
      · rw [if_neg e2, if_neg (by omega)]
theorem LJ.fin (h : LJ P kq fu p i f) (hi : slots (kq p) ≤ (i : Int)) : LE P kq fu (p + 1) f := by
  refine ⟨h.u, h.z, h.pg, fun q j hq hj => ?_⟩
  rw [h.sl q j hq hj]
  by_cases e : q < p ∨ (q = p ∧ j < i)
  · rw [if_pos e, if_pos (by omega)]
  · rw [if_neg e]
    by_cases e2 : q < p + 1
    · have : q = p := by omega
      subst this
      rw [if_pos e2]
      unfold emS
      rw [if_neg (by omega)]
    · rw [if_neg e2]
end
section
variable {P : Nat} {kq : Nat → Int} {fu : Nat → Bool} {ws : Nat → Int} {K f : Int} {t : Sk} {w : Wd}
/-- The heap that is laid. -/
structure Hp' (P : Nat) (kq : Nat → Int) (fu : Nat → Bool) (K : Int) (ws : Nat → Int) : Prop where
  p1 : 1 ≤ P ∧ P ≤ 8
  k : ∀ q, q < P → 0 ≤ kq q ∧ kq q ≤ 3 ∧ kq q ≠ K
  pg : ∀ q : Nat, q < P → ws (1 + q) = super (kq q) 0
  sl : ∀ q j : Nat, q < P → j < 16 → ws (1 + P + q * 16 + j) = emS kq fu q j
theorem may_p (h : 1 ≤ P ∧ P ≤ 8) : may P 1 0 = true := (may_iff _ _ _).2 ⟨by omega, by omega, by decide, by decide, by decide, by decide⟩
theorem Hp'.pgAt (h : Hp' P kq fu K ws) {q : Nat} (hq : q < P) : Go.Ma.pgAt ⟨P, 1, 0⟩ ws q = super (kq q) 0 := by
  show ws (page (P : Int) 1 0 q).toNat = _
  rw [page_yes (may_p h.p1) (by omega) (by omega), show (1 + (q : Int)).toNat = 1 + q by omega]; exact h.pg q hq
theorem Hp'.slAt (h : Hp' P kq fu K ws) {q j : Nat} (hq : q < P) (hj : j < 16) : Go.Ma.slAt ⟨P, 1, 0⟩ ws q j = emS kq fu q j := by
  show ws ((1 : Int) + P + q * 16 + j).toNat = _
  rw [show ((1 : Int) + P + q * 16 + j).toNat = 1 + P + q * 16 + j by omega]; exact h.sl q j hq hj
theorem Hp'.sup (h : Hp' P kq fu K ws) {q : Nat} (hq : q < P) : okPg ⟨P, 1, 0⟩ q (super (kq q) 0) = true ∧ pgK ⟨P, 1, 0⟩ q (super (kq q) 0) = 2 ∧ pgA ⟨P, 1, 0⟩ q (super (kq q) 0) = kq q :=
  Sa.super_ok (s := ⟨P, 1, 0⟩) (may_p h.p1) (by omega) (by show (q : Int) < P; omega) (h.k q hq).1 (h.k q hq).2.1 (Int.le_refl 0) (by show (0 : Int) < 1; decide)
theorem Hp'.snd (h : Hp' P kq fu K ws) : Snd ⟨P, 1, 0⟩ ws := by
  refine ⟨fun q q1 => ?_, fun c i h1 h2 => ?_, fun c i c' i' h1 h2 => ?_⟩
  · have q1 : (q : Int) < (P : Int) := q1
    have hq : q < P := by omega
    have hs := h.sup hq
    obtain ⟨k0, k1, -⟩ := h.k q hq
    rw [h.pgAt hq]
    refine ⟨hs.1, SpB.two (by rw [hs.2.1]; rfl) fun i hi => ?_⟩
    rw [hs.2.2, h.slAt hq hi]
    unfold slB emS
    by_cases e : (i : Int) < slots (kq q)
    · rw [decide_eq_true e, if_pos e]
      split
      · have := taken_ne (kq q) k0 (by omega)
        rw [this.2.1, this.2.2]; simp
      · have := opn_ne (kq q) k0 (by omega)
        rw [this.2.1, this.2.2]; simp
    · rw [decide_eq_false e, if_neg e]; rfl
  · have h2 : (i : Int) < 0 := h2
    omega
  · have h2 : (i : Int) < 0 := h2
    omega
theorem Hp'.free (h : Hp' P kq fu K ws) {q : Nat} (hq : q < P) : Rw.Free ⟨P, 1, 0⟩ ws q ↔ fu q = false := by
  have hs := h.sup hq
  obtain ⟨k0, k1, -⟩ := h.k q hq
  have hs4 := slots_four k0 k1
  unfold Rw.Free
  rw [h.pgAt hq, hs.2.1, hs.2.2]
  constructor
  · rintro (e | ⟨-, e⟩)
    · cases e
    · have e1 := e 1 (by decide) (by omega)
      have h1 : Go.Ma.slAt ⟨P, 1, 0⟩ ws q 1 = emS kq fu q 1 := h.slAt hq (j := 1) (by omega)
      rw [h1] at e1
      unfold emS at e1
      rw [if_pos (by omega)] at e1
      cases hf : fu q
      · rfl
      · rw [if_pos ⟨rfl, hf⟩, (taken_ne (kq q) k0 (by omega)).2.1] at e1; cases e1
  · intro hf
    refine .inr ⟨rfl, fun i i0 i1 => ?_⟩
    have h1 : Go.Ma.slAt ⟨P, 1, 0⟩ ws q i = emS kq fu q i.toNat := by
      have := h.slAt hq (j := i.toNat) (by omega)
      rw [show ((i.toNat : Nat) : Int) = i by omega] at this; exact this
    rw [h1]
    unfold emS
    rw [if_pos (by omega), if_neg (by rw [hf]; simp)]
    exact (opn_ne (kq q) k0 (by omega)).2.1
/-- The first page from f on that is not full. -/
def First (P : Nat) (fu : Nat → Bool) (f j : Int) : Prop := 0 ≤ j ∧ j < P ∧ fu ((f + j) % P).toNat = false ∧ ∀ q, 0 ≤ q → q < j → fu ((f + q) % P).toNat = true
theorem ends (hws : Hp' P kq fu K ws) (h : Sa.Al ⟨P, 1, 0⟩ ws 0 K f t w) (hd : t.dn = true) :
    (t.fd = false ∧ w.ws = ws ∧ ∀ q, 0 ≤ q → q < (P : Int) → fu ((f + q) % P).toNat = true) ∨
    (t.fd = true ∧ t.sl = 0 ∧ Sa.Off ⟨P, 1, 0⟩ ws w.ws t.pg ∧ Go.Ma.pgAt ⟨P, 1, 0⟩ w.ws t.pg = super K 0 ∧ ∃ j, First P fu f j ∧ t.pg = (f + j) % P) := by
  have hp1 := hws.p1
  have hfr : ∀ q, ¬ Rw.Free ⟨P, 1, 0⟩ ws ((f + q) % P) → fu ((f + q) % P).toNat = true := fun q hn => by
    have h0 : 0 ≤ (f + q) % (P : Int) := Int.emod_nonneg _ (by omega)
    have h1 : (f + q) % (P : Int) < P := Int.emod_lt_of_pos _ (by omega)
    have := hws.free (q := ((f + q) % (P : Int)).toNat) (by omega)
    rw [show ((((f + q) % (P : Int)).toNat : Nat) : Int) = (f + q) % P by omega] at this
    cases hf : fu ((f + q) % (P : Int)).toNat
    · exact absurd (this.2 hf) hn
    · rfl
  cases h.ph with
  | tk m e hd' => rw [hd] at hd'; cases hd'
  | ht m e hd' => rw [hd] at hd'; cases hd'
  | sc m e hd' => rw [hd] at hd'; cases hd'
  | pc m e hd' => rw [hd] at hd'; cases hd'
  | no e hd' => rw [hd] at hd'; cases hd'
  | st m e hd' => rw [hd] at hd'; cases hd'
  | b1 m e hd' => rw [hd] at hd'; cases hd'
  | b2 m e hd' => rw [hd] at hd'; cases hd'
  | f1 i _ hf i0 i1 =>
    have i1 : i < 0 := i1
    omega
  | f2 _ hf p0 p1 hh =>
    exfalso
    have p1 : t.pg < (P : Int) := p1
    obtain ⟨-, g2, -⟩ := hh
    have hq : t.pg.toNat < P := by omega
    have e := hws.pgAt hq
    have e2 := (hws.sup hq).2.2
    rw [show ((t.pg.toNat : Nat) : Int) = t.pg by omega] at e e2
    rw [e, e2] at g2
    exact (hws.k _ hq).2.2 g2
  | f3 _ hf p0 p1 og hl of pg =>
    right
    have p1 : t.pg < (P : Int) := p1
    obtain ⟨fr, -, -, j, j0, j1, j2, j3⟩ := og
    have j1 : j < (P : Int) := j1
    have j2 : t.pg = (f + j) % (P : Int) := j2
    have hq : t.pg.toNat < P := by omega
    have hcc : ((t.pg.toNat : Nat) : Int) = t.pg := by omega
    have hff := hws.free hq
    rw [hcc] at hff
    refine ⟨hf, hl, of, pg, j, ⟨j0, j1, by rw [← j2]; exact hff.1 fr, fun q q0 q1 => ?_⟩, j2⟩
    rcases j3 with g | g
    · exfalso
      have e := hws.pgAt hq
      rw [hcc, g] at e
      have e2 := (hws.sup hq).2.1
      rw [← e, pgK_zero] at e2; cases e2
    · exact hfr q (g q q0 q1)
  | n _ hf hw no ns nf => exact .inl ⟨hf, hw, fun q q0 q1 => hfr q (nf q q0 q1)⟩
theorem First.uniq {j j' : Int} (h : First P fu f j) (h' : First P fu f j') : j = j' := by
  rcases Int.lt_trichotomy j j' with g | g | g
  · have := h'.2.2.2 j h.1 g; rw [h.2.2.1] at this; cases this
  · exact g
  · have := h.2.2.2 j' h'.1 g; rw [h'.2.2.1] at this; cases this
end
end Em
end Go.Ma
