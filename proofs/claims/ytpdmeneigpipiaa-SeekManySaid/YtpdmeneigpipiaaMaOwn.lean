/-
  Who has what, of many: the words of a heap in which each page is whose it says; a step of one, as the others see it. Conditions: none.
-/
import Derived.Test.YtpdmeneigpipiaaMaBase
set_option linter.unusedVariables false
set_option linter.unusedSectionVars false
set_option linter.unusedSimpArgs false
namespace Go.Ma
open Go.Pl
namespace Ow

/-- A page's word of a class. -/
def Sup (s : Sh) (k x : Int) : Prop := 0 ≤ k ∧ k ≤ 3 ∧ ∃ b, 0 ≤ b ∧ b < s.c ∧ x = 2 + 16 * k + 4096 * b
/-- A slot of a class. -/
def Sl (s : Sh) (k i y : Int) : Prop := (i < slots k ∧ (y = 1 + 16 * k ∨ y = 3 + 16 * k ∨ ∃ c, 0 ≤ c ∧ c < s.c ∧ y = 2 + 16 * c)) ∨ (slots k ≤ i ∧ y = 0)
section
variable (s : Sh) (ws : Nat → Int)
/-- What a page says is so. -/
inductive Pg (q : Int) : Prop
  | e (h : pgAt s ws q = 0) (z : ∀ i, 0 ≤ i → i < 16 → slAt s ws q i = 0)
  | h (c : Int) (c0 : 0 ≤ c) (c1 : c < s.c) (h : pgAt s ws q = 1 + 16 * c) (z : ∀ i, 0 ≤ i → i < 16 → slAt s ws q i = 0 ∨ slAt s ws q i = 2 + 16 * c)
  | s (k : Int) (h : Sup s k (pgAt s ws q)) (z : ∀ i, 0 ≤ i → i < 16 → Sl s k i (slAt s ws q i))
  | l (n : Int) (n1 : 1 ≤ n) (n8 : n ≤ 8) (nq : q + n ≤ s.p) (h : pgAt s ws q = 3 + 16 * n) (z : ∀ i, 0 ≤ i → i < 16 → slAt s ws q i = 0) (b : ∀ j, 1 ≤ j → j < n → pgAt s ws (q + j) = 4 + 16 * q)
  | b (h : Int) (h0 : 0 ≤ h) (h1 : h < q) (h2 : q < h + 8) (e : pgAt s ws q = 4 + 16 * h) (z : ∀ i, 0 ≤ i → i < 16 → slAt s ws q i = 0)
      (w : (∃ c, 0 ≤ c ∧ c < s.c ∧ pgAt s ws h = 1 + 16 * c) ∨ ∃ n, 1 ≤ n ∧ n ≤ 8 ∧ q < h + n ∧ pgAt s ws h = 3 + 16 * n)
/-- An entry says so. -/
def En (c x p i k : Int) : Prop := 0 ≤ p ∧ p < s.p ∧ 0 ≤ i ∧ i < slots k ∧ x = 1 + 16 * p + 4096 * i + 1048576 * k ∧ Sup s k (pgAt s ws p) ∧ slAt s ws p i = 2 + 16 * c
/-- All is so. -/
structure Bs : Prop where
  pg : ∀ q, 0 ≤ q → q < s.p → Pg s ws q
  mg : ∀ c j, 0 ≤ c → c < s.c → 0 ≤ j → j < s.m → mgAt s ws c j ≠ 0 → ∃ p i k, En s ws c (mgAt s ws c j) p i k
  uq : ∀ c j j', 0 ≤ c → c < s.c → 0 ≤ j → j < s.m → 0 ≤ j' → j' < s.m → mgAt s ws c j ≠ 0 → mgAt s ws c j = mgAt s ws c j' → j = j'
/-- A slot is in a magazine. -/
def InM (c q i : Int) : Prop := ∃ j k, 0 ≤ j ∧ j < s.m ∧ 0 ≤ k ∧ k ≤ 3 ∧ mgAt s ws c j = 1 + 16 * q + 4096 * i + 1048576 * k
end

section
variable {s : Sh} {ws ws' : Nat → Int}
theorem Sup.bd {k x : Int} (h : Sup s k x) : 0 ≤ k ∧ k ≤ 3 := ⟨h.1, h.2.1⟩
theorem Sup.mod {k x : Int} (h : Sup s k x) : x % 16 = 2 := by
  obtain ⟨h0, h1, b, b0, b1, e⟩ := h; omega
theorem Sup.inj {k k' x : Int} (hc : s.c ≤ 12) (h : Sup s k x) (h' : Sup s k' x) : k = k' := by
  obtain ⟨h0, h1, b, b0, b1, e⟩ := h
  obtain ⟨h0', h1', b', b0', b1', e'⟩ := h'
  omega
/-- A page whose word, slots and row are the same says the same. -/
theorem Pg.tr {q : Int} (h : Pg s ws q) (hp : pgAt s ws' q = pgAt s ws q) (hs : ∀ i, 0 ≤ i → i < 16 → slAt s ws' q i = slAt s ws q i)
    (hl : ∀ n j, 1 ≤ n → n ≤ 8 → q + n ≤ s.p → pgAt s ws q = 3 + 16 * n → 1 ≤ j → j < n → pgAt s ws' (q + j) = pgAt s ws (q + j))
    (hb : ∀ h, 0 ≤ h → h < q → q < h + 8 → pgAt s ws q = 4 + 16 * h → pgAt s ws' h = pgAt s ws h ∨ (∃ c, 0 ≤ c ∧ c < s.c ∧ pgAt s ws' h = 1 + 16 * c) ∨ ∃ n, 1 ≤ n ∧ n ≤ 8 ∧ q < h + n ∧ pgAt s ws' h = 3 + 16 * n) : Pg s ws' q := by
  cases h with
  | e h z => exact .e (hp.trans h) fun i i0 i1 => (hs i i0 i1).trans (z i i0 i1)
  | h c c0 c1 h z => exact .h c c0 c1 (hp.trans h) fun i i0 i1 => by rw [hs i i0 i1]; exact z i i0 i1
  | s k h z => exact .s k (by rw [hp]; exact h) fun i i0 i1 => by rw [hs i i0 i1]; exact z i i0 i1
  | l n n1 n8 nq h z b => exact .l n n1 n8 nq (hp.trans h) (fun i i0 i1 => (hs i i0 i1).trans (z i i0 i1)) fun j j1 jn => (hl n j n1 n8 nq h j1 jn).trans (b j j1 jn)
  | b h h0 h1 h2 e z w =>
    refine .b h h0 h1 h2 (hp.trans e) (fun i i0 i1 => (hs i i0 i1).trans (z i i0 i1)) ?_
    rcases hb h h0 h1 h2 e with g | g | g
    · rw [g]; exact w
    · exact .inl g
    · exact .inr g
/-- What a page's word may be. -/
theorem Pg.word {q : Int} (hc : s.c ≤ 12) (h : Pg s ws q) : pgAt s ws q = 0 ∨ (∃ c, 0 ≤ c ∧ c < s.c ∧ pgAt s ws q = 1 + 16 * c) ∨ (∃ k, Sup s k (pgAt s ws q)) ∨ (∃ n, 1 ≤ n ∧ n ≤ 8 ∧ q + n ≤ s.p ∧ pgAt s ws q = 3 + 16 * n) ∨ ∃ h, 0 ≤ h ∧ h < q ∧ q < h + 8 ∧ pgAt s ws q = 4 + 16 * h := by
  cases h with
  | e h z => exact .inl h
  | h c c0 c1 h z => exact .inr (.inl ⟨c, c0, c1, h⟩)
  | s k h z => exact .inr (.inr (.inl ⟨k, h⟩))
  | l n n1 n8 nq h z b => exact .inr (.inr (.inr (.inl ⟨n, n1, n8, nq, h⟩)))
  | b h h0 h1 h2 e z w => exact .inr (.inr (.inr (.inr ⟨h, h0, h1, h2, e⟩)))
/-- Of a class: its slots. -/
theorem Pg.sup {q k : Int} (hc : s.c ≤ 12) (h : Pg s ws q) (hk : Sup s k (pgAt s ws q)) : ∀ i, 0 ≤ i → i < 16 → Sl s k i (slAt s ws q i) := by
  have hm := hk.mod
  cases h with
  | e h z => omega
  | h c c0 c1 h z => omega
  | s k' h z => have := Sup.inj hc h hk; subst this; exact z
  | l n n1 n8 nq h z b => omega
  | b h h0 h1 h2 e z w => omega
/-- Not of a class: no slot is open, or taken. -/
theorem Pg.open {q i k : Int} (hc : s.c ≤ 12) (k0 : 0 ≤ k) (k3 : k ≤ 3) (h : Pg s ws q) (i0 : 0 ≤ i) (i1 : i < 16) (hk : slAt s ws q i = 1 + 16 * k ∨ slAt s ws q i = 3 + 16 * k) : Sup s k (pgAt s ws q) ∧ i < slots k := by
  cases h with
  | e h z => have := z i i0 i1; omega
  | h c c0 c1 h z => have := z i i0 i1; omega
  | s k' h z =>
    have hb := h.bd
    rcases z i i0 i1 with ⟨g, g1 | g1 | ⟨c, c0, c1, g1⟩⟩ | ⟨g, g1⟩
    · have : k = k' := by omega
      subst this; exact ⟨h, g⟩
    · have : k = k' := by omega
      subst this; exact ⟨h, g⟩
    · omega
    · omega
  | l n n1 n8 nq h z b => have := z i i0 i1; omega
  | b h h0 h1 h2 e z w => have := z i i0 i1; omega

/-! ### A page's word is written -/
theorem Bs.page (hm : may s.p s.c s.m = true) (h : Bs s ws) {q y : Int} (q0 : 0 ≤ q) (q1 : q < s.p) (hn : Pg s (upW ws (page s.p s.c s.m q) y) q)
    (hb : ∀ q', 0 ≤ q' → q' < s.p → q < q' → q' < q + 8 → pgAt s ws q' = 4 + 16 * q → (∃ c, 0 ≤ c ∧ c < s.c ∧ y = 1 + 16 * c) ∨ ∃ n, 1 ≤ n ∧ n ≤ 8 ∧ q' < q + n ∧ y = 3 + 16 * n)
    (hl : ∀ h, 0 ≤ h → h < q → q < h + 8 → pgAt s ws q = 4 + 16 * h → y = 4 + 16 * h ∨ ∃ c, pgAt s ws h = 1 + 16 * c)
    (hs : ∀ c j i k, 0 ≤ c → c < s.c → 0 ≤ j → j < s.m → En s ws c (mgAt s ws c j) q i k → Sup s k y) : Bs s (upW ws (page s.p s.c s.m q) y) := by
  have hB := (may_iff _ _ _).1 hm
  have hP : ∀ q', 0 ≤ q' → q' < s.p → pgAt s (upW ws (Go.Pl.page s.p s.c s.m q) y) q' = if q' = q then y else pgAt s ws q' := fun q' a b => pg_pg hm q0 q1 a b
  have hS : ∀ q' i, 0 ≤ q' → 0 ≤ i → slAt s (upW ws (Go.Pl.page s.p s.c s.m q) y) q' i = slAt s ws q' i := fun q' i a b => sl_pg hm q0 q1 a b
  have hM : ∀ c j, 0 ≤ c → 0 ≤ j → mgAt s (upW ws (Go.Pl.page s.p s.c s.m q) y) c j = mgAt s ws c j := fun c j a b => mg_pg hm q0 q1 a b
  refine ⟨fun q' a b => ?_, fun c j c0 c1 j0 j1 hx => ?_, fun c j j' c0 c1 j0 j1 j0' j1' hx he => ?_⟩
  · by_cases e : q' = q
    · rw [e]; exact hn
    have hq := h.pg q' a b
    refine hq.tr (by rw [hP q' a b, if_neg e]) (fun i i0 i1 => hS q' i a i0) (fun n j n1 n8 nq hw j1 jn => ?_) fun h' h0 h1 h2 hw => ?_
    · rw [hP _ (by omega) (by omega)]
      split
      · rename_i e2
        have hbd : pgAt s ws q = 4 + 16 * q' := by
          rw [← e2]
          cases hq with
          | l n' n1' n8' nq' h' z b' => exact b' j j1 (by omega)
          | e h' z => omega
          | h c c0 c1 h' z => omega
          | s k h' z => have := h'.mod; omega
          | b h' h0 h1 h2 e' z w => omega
        rcases hl q' a (by omega) (by omega) hbd with g | ⟨c, g⟩
        · rw [e2, hbd]; exact g
        · omega
      · rfl
    · rw [hP h' h0 (by omega)]
      split
      · rename_i e2
        subst e2
        exact .inr (hb q' a b (by omega) (by omega) hw)
      · exact .inl rfl
  · rw [hM c j c0 j0] at hx ⊢
    obtain ⟨p, i, k, g1, g2, g3, g4, g5, g6, g7⟩ := h.mg c j c0 c1 j0 j1 hx
    refine ⟨p, i, k, g1, g2, g3, g4, g5, ?_, by rw [hS p i g1 g3]; exact g7⟩
    rw [hP p g1 g2]
    split
    · rename_i e2; subst e2; exact hs c j i k c0 c1 j0 j1 ⟨g1, g2, g3, g4, g5, g6, g7⟩
    · exact g6
  · rw [hM c j c0 j0] at hx he
    rw [hM c j' c0 j0'] at he
    exact h.uq c j j' c0 c1 j0 j1 j0' j1' hx he
/-- A slot's word is written. -/
theorem Bs.slot (hm : may s.p s.c s.m = true) (h : Bs s ws) {q i y : Int} (q0 : 0 ≤ q) (q1 : q < s.p) (i0 : 0 ≤ i) (i1 : i < 16)
    (hh : ∀ c, pgAt s ws q = 1 + 16 * c → y = 0 ∨ y = 2 + 16 * c) (hk : ∀ k, Sup s k (pgAt s ws q) → Sl s k i y) (hz : (∃ c, 0 ≤ c ∧ c < s.c ∧ pgAt s ws q = 1 + 16 * c) ∨ ∃ k, Sup s k (pgAt s ws q))
    (hs : ∀ c j k, 0 ≤ c → c < s.c → 0 ≤ j → j < s.m → mgAt s ws c j = 1 + 16 * q + 4096 * i + 1048576 * k → Sup s k (pgAt s ws q) → slAt s ws q i = 2 + 16 * c → False) : Bs s (upW ws (slot s.p s.c s.m q i) y) := by
  have hB := (may_iff _ _ _).1 hm
  have hP : ∀ q', 0 ≤ q' → q' < s.p → pgAt s (upW ws (Go.Pl.slot s.p s.c s.m q i) y) q' = pgAt s ws q' := fun q' a b => pg_sl hm q0 q1 i0 i1 a b
  have hS : ∀ q' i', 0 ≤ q' → 0 ≤ i' → i' < 16 → slAt s (upW ws (Go.Pl.slot s.p s.c s.m q i) y) q' i' = if q' = q ∧ i' = i then y else slAt s ws q' i' := fun q' i' a b c => sl_sl hm q0 q1 i0 i1 a b c
  have hM : ∀ c j, 0 ≤ c → 0 ≤ j → mgAt s (upW ws (Go.Pl.slot s.p s.c s.m q i) y) c j = mgAt s ws c j := fun c j a b => mg_sl hm q0 q1 i0 i1 a b
  refine ⟨fun q' a b => ?_, fun c j c0 c1 j0 j1 hx => ?_, fun c j j' c0 c1 j0 j1 j0' j1' hx he => ?_⟩
  · have hq := h.pg q' a b
    by_cases e : q' = q
    · subst e
      cases hq with
      | e h z =>
        rcases hz with ⟨c, -, -, g⟩ | ⟨k, g⟩
        · omega
        · have := g.mod; omega
      | h c c0 c1 h z =>
        refine .h c c0 c1 ((hP q' a b).trans h) fun j j0 j1 => ?_
        rw [hS q' j a j0 j1]
        split
        · exact hh c h
        · exact z j j0 j1
      | s k h z =>
        refine .s k (by rw [hP q' a b]; exact h) fun j j0 j1 => ?_
        rw [hS q' j a j0 j1]
        split
        · rename_i e2; rw [e2.2]; exact hk k h
        · exact z j j0 j1
      | l n n1 n8 nq h z b' =>
        rcases hz with ⟨c, -, -, g⟩ | ⟨k, g⟩
        · omega
        · have := g.mod; omega
      | b h' h0 h1 h2 e z w =>
        rcases hz with ⟨c, -, -, g⟩ | ⟨k, g⟩
        · omega
        · have := g.mod; omega
    · exact hq.tr (hP q' a b) (fun j j0 j1 => by rw [hS q' j a j0 j1, if_neg fun g => e g.1]) (fun n j n1 n8 nq hw j1 jn => hP _ (by omega) (by omega)) fun h' h0 h1 h2 hw => .inl (hP h' h0 (by omega))
  · rw [hM c j c0 j0] at hx ⊢
    obtain ⟨p, i', k, g1, g2, g3, g4, g5, g6, g7⟩ := h.mg c j c0 c1 j0 j1 hx
    have h16 : i' < 16 := by have := slots_bd k; omega
    refine ⟨p, i', k, g1, g2, g3, g4, g5, by rw [hP p g1 g2]; exact g6, ?_⟩
    rw [hS p i' g1 g3 h16]
    split
    · rename_i e2; obtain ⟨rfl, rfl⟩ := e2; exact absurd g7 (fun g => hs c j k c0 c1 j0 j1 g5 g6 g)
    · exact g7
  · rw [hM c j c0 j0] at hx he
    rw [hM c j' c0 j0'] at he
    exact h.uq c j j' c0 c1 j0 j1 j0' j1' hx he
/-- An entry is written. -/
theorem Bs.mag (hm : may s.p s.c s.m = true) (h : Bs s ws) {c j y : Int} (c0 : 0 ≤ c) (c1 : c < s.c) (j0 : 0 ≤ j) (j1 : j < s.m)
    (hy : y = 0 ∨ ((∃ p i k, En s ws c y p i k) ∧ ∀ j', 0 ≤ j' → j' < s.m → mgAt s ws c j' ≠ y)) : Bs s (upW ws (mag s.p s.c s.m c j) y) := by
  have hP : ∀ q', 0 ≤ q' → q' < s.p → pgAt s (upW ws (Go.Pl.mag s.p s.c s.m c j) y) q' = pgAt s ws q' := fun q' a b => pg_mg hm c0 c1 j0 j1 a b
  have hS : ∀ q' i', 0 ≤ q' → q' < s.p → 0 ≤ i' → i' < 16 → slAt s (upW ws (Go.Pl.mag s.p s.c s.m c j) y) q' i' = slAt s ws q' i' := fun q' i' a b d e => sl_mg hm c0 c1 j0 j1 a b d e
  have hM : ∀ c' j', 0 ≤ c' → 0 ≤ j' → j' < s.m → mgAt s (upW ws (Go.Pl.mag s.p s.c s.m c j) y) c' j' = if c' = c ∧ j' = j then y else mgAt s ws c' j' := fun c' j' a b d => mg_mg hm c0 c1 j0 j1 a b d
  have tr : ∀ c' x p i k, En s ws c' x p i k → En s (upW ws (Go.Pl.mag s.p s.c s.m c j) y) c' x p i k := fun c' x p i k ⟨g1, g2, g3, g4, g5, g6, g7⟩ =>
    ⟨g1, g2, g3, g4, g5, by rw [hP p g1 g2]; exact g6, by rw [hS p i g1 g2 g3 (by have := slots_bd k; omega)]; exact g7⟩
  refine ⟨fun q' a b => ?_, fun c' j' a0 a1 b0 b1 hx => ?_, fun c' j' j'' a0 a1 b0 b1 d0 d1 hx he => ?_⟩
  · exact (h.pg q' a b).tr (hP q' a b) (fun i i0 i1 => hS q' i a b i0 i1) (fun n j' n1 n8 nq hw j1' jn => hP _ (by omega) (by omega)) fun h' h0 h1 h2 hw => .inl (hP h' h0 (by omega))
  · rw [hM c' j' a0 b0 b1] at hx ⊢
    by_cases e : c' = c ∧ j' = j
    · rw [if_pos e] at hx ⊢
      rcases hy with g | ⟨⟨p, i, k, g⟩, -⟩
      · exact absurd g hx
      · rw [e.1]; exact ⟨p, i, k, tr _ _ _ _ _ g⟩
    · rw [if_neg e] at hx ⊢
      obtain ⟨p, i, k, g⟩ := h.mg c' j' a0 a1 b0 b1 hx
      exact ⟨p, i, k, tr _ _ _ _ _ g⟩
  · rw [hM c' j' a0 b0 b1] at hx he
    rw [hM c' j'' a0 d0 d1] at he
    by_cases e : c' = c ∧ j' = j <;> by_cases e2 : c' = c ∧ j'' = j
    · omega
    · rw [if_pos e, if_neg e2] at he
      rw [if_pos e] at hx
      rcases hy with g | ⟨-, g⟩
      · exact absurd g hx
      · exact absurd (by rw [← e.1]; exact he.symm) (g j'' d0 d1)
    · rw [if_neg e, if_pos e2] at he
      rw [if_neg e] at hx
      rcases hy with g | ⟨-, g⟩
      · rw [g] at he; exact absurd he hx
      · exact absurd (by rw [← e2.1]; exact he) (g j' b0 b1)
    · rw [if_neg e, if_neg e2] at he
      rw [if_neg e] at hx
      exact h.uq c' j' j'' a0 a1 b0 b1 d0 d1 hx he
theorem Bs.zero (hz : ∀ j, ws j = 0) : Bs s ws :=
  ⟨fun q _ _ => .e (hz _) fun i _ _ => hz _, fun c j _ _ _ _ hx => absurd (hz _) hx, fun c j j' _ _ _ _ _ _ hx _ => absurd (hz _) hx⟩
end

/-! ### Who has what -/
/-- What one has: pages, bodies of them, slots on their way that are in no magazine. -/
structure Ho where
  hp : Int → Prop
  hb : Int → Int → Prop
  hs : Int → Int → Prop
structure Own (s : Sh) (ws : Nat → Int) (c : Int) (o : Ho) : Prop where
  pg : ∀ q, 0 ≤ q → q < s.p → (pgAt s ws q = 1 + 16 * c ↔ o.hp q)
  bd : ∀ q h, 0 ≤ q → q < s.p → 0 ≤ h → h < s.p → ((pgAt s ws q = 4 + 16 * h ∧ pgAt s ws h = 1 + 16 * c) ↔ o.hb q h)
  sl : ∀ q i, 0 ≤ q → q < s.p → 0 ≤ i → i < 16 → (((∃ k, Sup s k (pgAt s ws q)) ∧ slAt s ws q i = 2 + 16 * c) ↔ (o.hs q i ∨ InM s ws c q i))
  dj : ∀ q i, 0 ≤ q → q < s.p → 0 ≤ i → i < 16 → o.hs q i → ¬ InM s ws c q i
/-- What one sees of another one's step. -/
structure Rel (s : Sh) (c : Int) (ws ws' : Nat → Int) : Prop where
  pg : ∀ q, 0 ≤ q → q < s.p → (pgAt s ws' q = 1 + 16 * c ↔ pgAt s ws q = 1 + 16 * c)
  hs : ∀ q i, 0 ≤ q → q < s.p → 0 ≤ i → i < 16 → pgAt s ws q = 1 + 16 * c → slAt s ws' q i = slAt s ws q i
  bd : ∀ q h, 0 ≤ q → q < s.p → 0 ≤ h → h < s.p → pgAt s ws h = 1 + 16 * c → (pgAt s ws' q = 4 + 16 * h ↔ pgAt s ws q = 4 + 16 * h)
  sl : ∀ q i, 0 ≤ q → q < s.p → 0 ≤ i → i < 16 → (((∃ k, Sup s k (pgAt s ws' q)) ∧ slAt s ws' q i = 2 + 16 * c) ↔ ((∃ k, Sup s k (pgAt s ws q)) ∧ slAt s ws q i = 2 + 16 * c))
  sp : ∀ q i, 0 ≤ q → q < s.p → 0 ≤ i → i < 16 → (∃ k, Sup s k (pgAt s ws q)) → slAt s ws q i = 2 + 16 * c → pgAt s ws' q = pgAt s ws q
  mg : ∀ j, 0 ≤ j → j < s.m → mgAt s ws' c j = mgAt s ws c j
theorem InM.congr {s : Sh} {ws ws' : Nat → Int} {c q i : Int} (h : ∀ j, 0 ≤ j → j < s.m → mgAt s ws' c j = mgAt s ws c j) : InM s ws' c q i ↔ InM s ws c q i := by
  constructor
  · rintro ⟨j, k, j0, j1, k0, k1, e⟩; exact ⟨j, k, j0, j1, k0, k1, by rw [← h j j0 j1]; exact e⟩
  · rintro ⟨j, k, j0, j1, k0, k1, e⟩; exact ⟨j, k, j0, j1, k0, k1, by rw [h j j0 j1]; exact e⟩
theorem Rel.refl (s : Sh) (c : Int) (ws : Nat → Int) : Rel s c ws ws :=
  ⟨fun _ _ _ => Iff.rfl, fun _ _ _ _ _ _ _ => rfl, fun _ _ _ _ _ _ _ => Iff.rfl, fun _ _ _ _ _ _ => Iff.rfl, fun _ _ _ _ _ _ _ _ => rfl, fun _ _ _ => rfl⟩
theorem Own.rel {s : Sh} {ws ws' : Nat → Int} {c : Int} {o : Ho} (h : Own s ws c o) (r : Rel s c ws ws') : Own s ws' c o := by
  refine ⟨fun q a b => (r.pg q a b).trans (h.pg q a b), fun q h' a b a' b' => ?_, fun q i a b i0 i1 => ?_, fun q i a b i0 i1 hx => ?_⟩
  · rw [← h.bd q h' a b a' b', r.pg h' a' b']
    constructor
    · rintro ⟨x, y⟩; exact ⟨(r.bd q h' a b a' b' y).1 x, y⟩
    · rintro ⟨x, y⟩; exact ⟨(r.bd q h' a b a' b' y).2 x, y⟩
  · rw [InM.congr r.mg, ← h.sl q i a b i0 i1]; exact r.sl q i a b i0 i1
  · rw [InM.congr r.mg]; exact h.dj q i a b i0 i1 hx
/-- Behind a step of c: all is so, it has what it has, and so do the others. -/
structure Nx (s : Sh) (c : Int) (ws ws' : Nat → Int) (o : Ho) : Prop where
  bs : Bs s ws'
  ow : Own s ws' c o
  re : ∀ c', 0 ≤ c' → c' < s.c → c' ≠ c → Rel s c' ws ws'
section
variable {s : Sh} {ws : Nat → Int} {c q y : Int} {o o' : Ho}
theorem Nx.id (h : Bs s ws) (ho : Own s ws c o) : Nx s c ws ws o := ⟨h, ho, fun c' _ _ _ => Rel.refl s c' ws⟩
theorem Rel.page (hm : may s.p s.c s.m = true) (q0 : 0 ≤ q) (q1 : q < s.p) {c' : Int} (c0 : 0 ≤ c') (h1 : pgAt s ws q ≠ 1 + 16 * c') (h2 : y ≠ 1 + 16 * c')
    (h3 : ∀ i, 0 ≤ i → i < 16 → slAt s ws q i = 2 + 16 * c' → (∀ k, ¬ Sup s k (pgAt s ws q)) ∧ ∀ k, ¬ Sup s k y)
    (h4 : ∀ h, 0 ≤ h → h < s.p → pgAt s ws h = 1 + 16 * c' → (y = 4 + 16 * h ↔ pgAt s ws q = 4 + 16 * h)) : Rel s c' ws (upW ws (page s.p s.c s.m q) y) := by
  have hP : ∀ q', 0 ≤ q' → q' < s.p → pgAt s (upW ws (Go.Pl.page s.p s.c s.m q) y) q' = if q' = q then y else pgAt s ws q' := fun q' a b => pg_pg hm q0 q1 a b
  have hS : ∀ q' i, 0 ≤ q' → 0 ≤ i → slAt s (upW ws (Go.Pl.page s.p s.c s.m q) y) q' i = slAt s ws q' i := fun q' i a b => sl_pg hm q0 q1 a b
  have hM : ∀ c j, 0 ≤ c → 0 ≤ j → mgAt s (upW ws (Go.Pl.page s.p s.c s.m q) y) c j = mgAt s ws c j := fun c j a b => mg_pg hm q0 q1 a b
  refine ⟨fun q' a b => ?_, fun q' i a b i0 i1 _ => hS q' i a i0, fun q' h a b a' b' hh => ?_, fun q' i a b i0 i1 => ?_, fun q' i a b i0 i1 hk hw => ?_, fun j j0 j1 => hM c' j c0 j0⟩
  · rw [hP q' a b]; split
    · rename_i e; rw [e]; exact ⟨fun g => absurd g h2, fun g => absurd g h1⟩
    · exact Iff.rfl
  · rw [hP q' a b]; split
    · rename_i e; rw [e]; exact h4 h a' b' hh
    · exact Iff.rfl
  · rw [hP q' a b, hS q' i a i0]; split
    · rename_i e
      rw [e]
      constructor
      · rintro ⟨⟨k, g⟩, g2⟩; exact absurd g ((h3 i i0 i1 g2).2 k)
      · rintro ⟨⟨k, g⟩, g2⟩; exact absurd g ((h3 i i0 i1 g2).1 k)
    · exact Iff.rfl
  · rw [hP q' a b]; split
    · rename_i e; rw [e] at hw hk; obtain ⟨k, hk⟩ := hk; exact absurd hk ((h3 i i0 i1 hw).1 k)
    · rfl
theorem Rel.slot (hm : may s.p s.c s.m = true) (q0 : 0 ≤ q) (q1 : q < s.p) {c' i : Int} (i0 : 0 ≤ i) (i1 : i < 16) (c0 : 0 ≤ c') (h1 : pgAt s ws q ≠ 1 + 16 * c')
    (h2 : (∃ k, Sup s k (pgAt s ws q)) → slAt s ws q i ≠ 2 + 16 * c' ∧ y ≠ 2 + 16 * c') : Rel s c' ws (upW ws (slot s.p s.c s.m q i) y) := by
  have hP : ∀ q', 0 ≤ q' → q' < s.p → pgAt s (upW ws (Go.Pl.slot s.p s.c s.m q i) y) q' = pgAt s ws q' := fun q' a b => pg_sl hm q0 q1 i0 i1 a b
  have hS : ∀ q' i', 0 ≤ q' → 0 ≤ i' → i' < 16 → slAt s (upW ws (Go.Pl.slot s.p s.c s.m q i) y) q' i' = if q' = q ∧ i' = i then y else slAt s ws q' i' := fun q' i' a b c => sl_sl hm q0 q1 i0 i1 a b c
  have hM : ∀ c j, 0 ≤ c → 0 ≤ j → mgAt s (upW ws (Go.Pl.slot s.p s.c s.m q i) y) c j = mgAt s ws c j := fun c j a b => mg_sl hm q0 q1 i0 i1 a b
  refine ⟨fun q' a b => by rw [hP q' a b], fun q' i' a b a0 a1 hh => ?_, fun q' h a b a' b' hh => by rw [hP q' a b], fun q' i' a b a0 a1 => ?_, fun q' i' a b a0 a1 hk hw => hP q' a b, fun j j0 j1 => hM c' j c0 j0⟩
  · rw [hS q' i' a a0 a1, if_neg]; rintro ⟨rfl, -⟩; exact h1 hh
  · rw [hP q' a b, hS q' i' a a0 a1]; split
    · rename_i e
      obtain ⟨rfl, rfl⟩ := e
      constructor
      · rintro ⟨g, g2⟩; exact absurd g2 (h2 g).2
      · rintro ⟨g, g2⟩; exact absurd g2 (h2 g).1
    · exact Iff.rfl
theorem Rel.mag (hm : may s.p s.c s.m = true) {c' j : Int} (c0 : 0 ≤ c) (c1 : c < s.c) (j0 : 0 ≤ j) (j1 : j < s.m) (a0 : 0 ≤ c') (hc : c' ≠ c) : Rel s c' ws (upW ws (mag s.p s.c s.m c j) y) := by
  have hP : ∀ q', 0 ≤ q' → q' < s.p → pgAt s (upW ws (Go.Pl.mag s.p s.c s.m c j) y) q' = pgAt s ws q' := fun q' a b => pg_mg hm c0 c1 j0 j1 a b
  have hS : ∀ q' i', 0 ≤ q' → q' < s.p → 0 ≤ i' → i' < 16 → slAt s (upW ws (Go.Pl.mag s.p s.c s.m c j) y) q' i' = slAt s ws q' i' := fun q' i' a b d e => sl_mg hm c0 c1 j0 j1 a b d e
  refine ⟨fun q' a b => by rw [hP q' a b], fun q' i a b i0 i1 _ => hS q' i a b i0 i1, fun q' h a b a' b' hh => by rw [hP q' a b], fun q' i a b i0 i1 => by rw [hP q' a b, hS q' i a b i0 i1], fun q' i a b i0 i1 _ _ => hP q' a b, fun j' d0 d1 => ?_⟩
  rw [mg_mg hm c0 c1 j0 j1 a0 d0 d1, if_neg fun e => hc e.1]

/-! ### The steps -/
variable (hm : may s.p s.c s.m = true) (h : Bs s ws) (ho : Own s ws c o) (c0 : 0 ≤ c) (c1 : c < s.c) (q0 : 0 ≤ q) (q1 : q < s.p)
include hm h ho c0 c1 q0 q1
theorem own_page (hp : ∀ x, 0 ≤ x → x < s.p → (o'.hp x ↔ if x = q then y = 1 + 16 * c else o.hp x))
    (hb : ∀ x h', 0 ≤ x → x < s.p → 0 ≤ h' → h' < s.p → (o'.hb x h' ↔ (if x = q then y = 4 + 16 * h' else pgAt s ws x = 4 + 16 * h') ∧ (if h' = q then y = 1 + 16 * c else pgAt s ws h' = 1 + 16 * c)))
    (hs : ∀ x i, 0 ≤ x → x < s.p → 0 ≤ i → i < 16 → (if x = q then ((o'.hs x i ∨ InM s ws c x i) ↔ ((∃ k, Sup s k y) ∧ slAt s ws x i = 2 + 16 * c)) ∧ (o'.hs x i → ¬ InM s ws c x i) else (o'.hs x i ↔ o.hs x i))) : Own s (upW ws (page s.p s.c s.m q) y) c o' := by
  have hP : ∀ q', 0 ≤ q' → q' < s.p → pgAt s (upW ws (Go.Pl.page s.p s.c s.m q) y) q' = if q' = q then y else pgAt s ws q' := fun q' a b => pg_pg hm q0 q1 a b
  have hS : ∀ q' i, 0 ≤ q' → 0 ≤ i → slAt s (upW ws (Go.Pl.page s.p s.c s.m q) y) q' i = slAt s ws q' i := fun q' i a b => sl_pg hm q0 q1 a b
  have hM : ∀ q' i', InM s (upW ws (Go.Pl.page s.p s.c s.m q) y) c q' i' ↔ InM s ws c q' i' := fun q' i' => InM.congr fun j j0 j1 => mg_pg hm q0 q1 c0 j0
  refine ⟨fun x a b => ?_, fun x h' a b a' b' => ?_, fun x i a b i0 i1 => ?_, fun x i a b i0 i1 => ?_⟩
  · rw [hP x a b, hp x a b]; split
    · exact Iff.rfl
    · exact ho.pg x a b
  · rw [hP x a b, hP h' a' b', hb x h' a b a' b']
    split <;> split <;> exact Iff.rfl
  · have g := hs x i a b i0 i1
    rw [hP x a b, hS x i a i0, hM x i]
    split at g
    · rename_i e; rw [if_pos e]; exact g.1.symm
    · rename_i e; rw [if_neg e, g]; exact ho.sl x i a b i0 i1
  · have g := hs x i a b i0 i1
    rw [hM x i]
    split at g
    · exact g.2
    · rw [g]; exact ho.dj x i a b i0 i1
/-- An empty page is claimed. -/
theorem claimE (he : pgAt s ws q = 0) (hp : ∀ x, o'.hp x ↔ o.hp x ∨ x = q) (hb : o'.hb = o.hb) (hs : o'.hs = o.hs) : Nx s c ws (upW ws (page s.p s.c s.m q) (1 + 16 * c)) o' := by
  have hB := (may_iff _ _ _).1 hm
  have hq := h.pg q q0 q1
  have hz : ∀ i, 0 ≤ i → i < 16 → slAt s ws q i = 0 := by
    cases hq with
    | e h z => exact z
    | h c c0 c1 h z => omega
    | s k h z => have := h.mod; omega
    | l n n1 n8 nq h z b => omega
    | b h h0 h1 h2 e z w => omega
  have nb : ∀ x, 0 ≤ x → x < s.p → pgAt s ws x ≠ 4 + 16 * q := fun x a b e => by
    cases h.pg x a b with
    | e h z => omega
    | h c c0 c1 h z => omega
    | s k h z => have := h.mod; omega
    | l n n1 n8 nq h z b => omega
    | b h h0 h1 h2 e' z w =>
      have : h = q := by omega
      subst this
      rcases w with ⟨c, -, -, w⟩ | ⟨n, -, -, -, w⟩ <;> omega
  refine ⟨h.page hm q0 q1 (.h c c0 c1 (by rw [pg_pg hm q0 q1 q0 q1, if_pos rfl]) fun i i0 i1 => .inl (by rw [sl_pg hm q0 q1 q0 i0]; exact hz i i0 i1)) (fun q' a b _ _ e => absurd e (nb q' a b)) (fun h' _ _ _ e => by omega)
      (fun c' j i k _ _ _ _ g => by have := g.2.2.2.2.2.1.mod; omega), ?_, fun c' a b hne => ?_⟩
  · refine own_page hm h ho c0 c1 q0 q1 (fun x a b => ?_) (fun x h' a b a' b' => ?_) fun x i a b i0 i1 => ?_
    · rw [hp x]; split
      · rename_i e; exact ⟨fun _ => rfl, fun _ => .inr e⟩
      · rename_i e; exact ⟨fun g => g.resolve_right e, .inl⟩
    · rw [hb, ← ho.bd x h' a b a' b']
      by_cases e : x = q <;> by_cases e2 : h' = q
      · subst e; subst e2; simp; omega
      · subst e; simp only [if_true, if_neg e2]; constructor <;> rintro ⟨g, -⟩ <;> omega
      · subst e2; simp only [if_neg e, if_true]; constructor <;> rintro ⟨g, g2⟩
        · omega
        · exact absurd g (nb x a b)
      · simp only [if_neg e, if_neg e2]
    · split
      · rename_i e
        subst e
        have g := ho.sl x i a b i0 i1
        have e1 : ¬ ((∃ k, Sup s k (pgAt s ws x)) ∧ slAt s ws x i = 2 + 16 * c) := by rintro ⟨⟨k, g⟩, -⟩; have := g.mod; omega
        have e2 : ¬ (o.hs x i ∨ InM s ws c x i) := fun g2 => e1 (g.2 g2)
        rw [hs]
        exact ⟨⟨fun g => absurd g e2, fun ⟨⟨k, g⟩, _⟩ => by have := g.mod; omega⟩, fun g => absurd (.inl g) e2⟩
      · rw [hs]
  · exact Rel.page hm q0 q1 a (by omega) (by omega) (fun i i0 i1 g => by have := hz i i0 i1; omega) fun h' _ _ _ => by omega
/-- The head of a great block is claimed. -/
theorem claimL {n : Int} (he : pgAt s ws q = 3 + 16 * n) (hp : ∀ x, o'.hp x ↔ o.hp x ∨ x = q) (hb : ∀ x h', o'.hb x h' ↔ o.hb x h' ∨ (h' = q ∧ q < x ∧ x < q + n)) (hs : o'.hs = o.hs) : Nx s c ws (upW ws (page s.p s.c s.m q) (1 + 16 * c)) o' := by
  have hB := (may_iff _ _ _).1 hm
  have hq := h.pg q q0 q1
  have hz : (∀ i, 0 ≤ i → i < 16 → slAt s ws q i = 0) ∧ 1 ≤ n ∧ n ≤ 8 ∧ q + n ≤ s.p ∧ ∀ j, 1 ≤ j → j < n → pgAt s ws (q + j) = 4 + 16 * q := by
    cases hq with
    | e h z => omega
    | h c c0 c1 h z => omega
    | s k h z => have := h.mod; omega
    | l n' n1 n8 nq h z b => have : n' = n := by omega
                             subst this; exact ⟨z, n1, n8, nq, b⟩
    | b h h0 h1 h2 e z w => omega
  obtain ⟨hz, n1, n8, nq, hr⟩ := hz
  have nb : ∀ x, 0 ≤ x → x < s.p → (pgAt s ws x = 4 + 16 * q ↔ q < x ∧ x < q + n) := fun x a b => by
    constructor
    · intro e
      cases h.pg x a b with
      | e h z => omega
      | h c c0 c1 h z => omega
      | s k h z => have := h.mod; omega
      | l n n1 n8 nq h z b => omega
      | b h h0 h1 h2 e' z w =>
        have : h = q := by omega
        subst this
        rcases w with ⟨c, -, -, w⟩ | ⟨n', -, -, g, w⟩ <;> omega
    · rintro ⟨g1, g2⟩
      have := hr (x - q) (by omega) (by omega)
      rwa [show q + (x - q) = x by omega] at this
  refine ⟨h.page hm q0 q1 (.h c c0 c1 (by rw [pg_pg hm q0 q1 q0 q1, if_pos rfl]) fun i i0 i1 => .inl (by rw [sl_pg hm q0 q1 q0 i0]; exact hz i i0 i1)) (fun q' a b _ _ e => .inl ⟨c, c0, c1, rfl⟩) (fun h' _ _ _ e => by omega)
      (fun c' j i k _ _ _ _ g => by have := g.2.2.2.2.2.1.mod; omega), ?_, fun c' a b hne => ?_⟩
  · refine own_page hm h ho c0 c1 q0 q1 (fun x a b => ?_) (fun x h' a b a' b' => ?_) fun x i a b i0 i1 => ?_
    · rw [hp x]; split
      · rename_i e; exact ⟨fun _ => rfl, fun _ => .inr e⟩
      · rename_i e; exact ⟨fun g => g.resolve_right e, .inl⟩
    · rw [hb x h', ← ho.bd x h' a b a' b']
      have := nb x a b
      by_cases e : x = q <;> by_cases e2 : h' = q
      · subst e; subst e2; simp; omega
      · subst e; simp only [if_true, if_neg e2]; constructor
        · rintro (⟨g, -⟩ | ⟨g, -⟩) <;> omega
        · rintro ⟨g, -⟩; omega
      · subst e2; simp only [if_neg e, if_true, true_and]; constructor
        · rintro (⟨g, g2⟩ | g)
          · omega
          · exact ⟨this.2 g, trivial⟩
        · rintro ⟨g, -⟩; exact .inr (this.1 g)
      · simp only [if_neg e, if_neg e2]; constructor
        · rintro (g | ⟨g, -⟩)
          · exact g
          · exact absurd g e2
        · exact .inl
    · split
      · rename_i e
        subst e
        have g := ho.sl x i a b i0 i1
        have e1 : ¬ ((∃ k, Sup s k (pgAt s ws x)) ∧ slAt s ws x i = 2 + 16 * c) := by rintro ⟨⟨k, g⟩, -⟩; have := g.mod; omega
        have e2 : ¬ (o.hs x i ∨ InM s ws c x i) := fun g2 => e1 (g.2 g2)
        rw [hs]
        exact ⟨⟨fun g => absurd g e2, fun ⟨⟨k, g⟩, _⟩ => by have := g.mod; omega⟩, fun g => absurd (.inl g) e2⟩
      · rw [hs]
  · exact Rel.page hm q0 q1 a (by omega) (by omega) (fun i i0 i1 g => by have := hz i i0 i1; omega) fun h' _ _ _ => by omega
/-- A page all of whose slots are its own is claimed. -/
theorem claimS {k : Int} (hk : Sup s k (pgAt s ws q)) (hall : ∀ i, 0 ≤ i → i < slots k → o.hs q i) (hp : ∀ x, o'.hp x ↔ o.hp x ∨ x = q) (hb : o'.hb = o.hb) (hs : ∀ x i, o'.hs x i ↔ o.hs x i ∧ x ≠ q) : Nx s c ws (upW ws (page s.p s.c s.m q) (1 + 16 * c)) o' := by
  have hB := (may_iff _ _ _).1 hm
  have hmo := hk.mod
  have hsl := slots_bd k
  have h2 : 0 < slots k := by have := hk.bd; have := slots_four this.1 this.2; omega
  have hz := (h.pg q q0 q1).sup (by omega) hk
  have hw : ∀ i, 0 ≤ i → i < slots k → slAt s ws q i = 2 + 16 * c := fun i i0 i1 => ((ho.sl q i q0 q1 i0 (by omega)).2 (.inl (hall i i0 i1))).2
  have hz' : ∀ i, 0 ≤ i → i < 16 → slAt s ws q i = 0 ∨ slAt s ws q i = 2 + 16 * c := fun i i0 i1 => by
    by_cases g : i < slots k
    · exact .inr (hw i i0 g)
    · rcases hz i i0 i1 with ⟨g2, -⟩ | ⟨-, g2⟩
      · omega
      · exact .inl g2
  have nb : ∀ x, 0 ≤ x → x < s.p → pgAt s ws x ≠ 4 + 16 * q := fun x a b e => by
    cases h.pg x a b with
    | e h z => omega
    | h c c0 c1 h z => omega
    | s k h z => have := h.mod; omega
    | l n n1 n8 nq h z b => omega
    | b h h0 h1 h2 e' z w =>
      have : h = q := by omega
      subst this
      rcases w with ⟨c, -, -, w⟩ | ⟨n, -, -, -, w⟩ <;> omega
  have nm : ∀ i, 0 ≤ i → i < 16 → ¬ InM s ws c q i := fun i i0 i1 g => by
    have hi : i < slots k := by
      have := ((ho.sl q i q0 q1 i0 i1).2 (.inr g)).2
      rcases hz i i0 i1 with ⟨g2, -⟩ | ⟨-, g2⟩ <;> omega
    exact ho.dj q i q0 q1 i0 i1 (hall i i0 hi) g
  refine ⟨h.page hm q0 q1 (.h c c0 c1 (by rw [pg_pg hm q0 q1 q0 q1, if_pos rfl]) fun i i0 i1 => by rw [sl_pg hm q0 q1 q0 i0]; exact hz' i i0 i1) (fun q' a b _ _ e => absurd e (nb q' a b)) (fun h' _ _ _ e => by omega)
      (fun c' j i k' a b d e g => ?_), ?_, fun c' a b hne => ?_⟩
  · exfalso
    obtain ⟨g1, g2, g3, g4, g5, g6, g7⟩ := g
    have hk2 := Sup.inj (by omega) g6 hk
    subst hk2
    have := hw i g3 g4
    have hc : c' = c := by omega
    subst hc
    exact nm i g3 (by omega) ⟨j, k', d, e, hk.1, hk.2.1, g5⟩
  · refine own_page hm h ho c0 c1 q0 q1 (fun x a b => ?_) (fun x h' a b a' b' => ?_) fun x i a b i0 i1 => ?_
    · rw [hp x]; split
      · rename_i e; exact ⟨fun _ => rfl, fun _ => .inr e⟩
      · rename_i e; exact ⟨fun g => g.resolve_right e, .inl⟩
    · rw [hb, ← ho.bd x h' a b a' b']
      by_cases e : x = q <;> by_cases e2 : h' = q
      · subst e; subst e2; simp; omega
      · subst e; simp only [if_true, if_neg e2]; constructor <;> rintro ⟨g, -⟩ <;> omega
      · subst e2; simp only [if_neg e, if_true]; constructor <;> rintro ⟨g, g2⟩
        · omega
        · exact absurd g (nb x a b)
      · simp only [if_neg e, if_neg e2]
    · split
      · rename_i e
        subst e
        have e1 : ¬ o'.hs x i := fun g => ((hs x i).1 g).2 rfl
        exact ⟨⟨fun g => by rcases g with g | g; exact absurd g e1; exact absurd g (nm i i0 i1), fun ⟨⟨k, g⟩, _⟩ => by have := g.mod; omega⟩, fun g => absurd g e1⟩
      · rename_i e
        rw [hs x i]; exact ⟨fun g => g.1, fun g => ⟨g, e⟩⟩
  · refine Rel.page hm q0 q1 a (by omega) (by omega) (fun i i0 i1 g => by have := hz' i i0 i1; omega) fun h' _ _ _ => by omega
/-- A page of its own, bare, is given back. -/
theorem free (he : o.hp q) (hz : ∀ i, 0 ≤ i → i < 16 → slAt s ws q i = 0) (hnb : ∀ x, 0 ≤ x → x < s.p → ¬ o.hb x q) (hp : ∀ x, o'.hp x ↔ o.hp x ∧ x ≠ q) (hb : o'.hb = o.hb) (hs : o'.hs = o.hs) : Nx s c ws (upW ws (page s.p s.c s.m q) 0) o' := by
  have hB := (may_iff _ _ _).1 hm
  have he := (ho.pg q q0 q1).2 he
  have nb : ∀ x, 0 ≤ x → x < s.p → pgAt s ws x ≠ 4 + 16 * q := fun x a b e => hnb x a b ((ho.bd x q a b q0 q1).1 ⟨e, he⟩)
  refine ⟨h.page hm q0 q1 (.e (by rw [pg_pg hm q0 q1 q0 q1, if_pos rfl]) fun i i0 i1 => by rw [sl_pg hm q0 q1 q0 i0]; exact hz i i0 i1) (fun q' a b _ _ e => absurd e (nb q' a b)) (fun h' _ _ _ e => by omega)
      (fun c' j i k _ _ _ _ g => by have := g.2.2.2.2.2.1.mod; omega), ?_, fun c' a b hne => ?_⟩
  · refine own_page hm h ho c0 c1 q0 q1 (fun x a b => ?_) (fun x h' a b a' b' => ?_) fun x i a b i0 i1 => ?_
    · rw [hp x]; split
      · rename_i e; exact ⟨fun g => absurd e g.2, fun g => by omega⟩
      · rename_i e; exact ⟨fun g => g.1, fun g => ⟨g, e⟩⟩
    · rw [hb, ← ho.bd x h' a b a' b']
      by_cases e : x = q <;> by_cases e2 : h' = q
      · subst e; subst e2; simp; omega
      · subst e; simp only [if_true, if_neg e2]; constructor <;> rintro ⟨g, -⟩ <;> omega
      · subst e2; simp only [if_neg e, if_true]; constructor <;> rintro ⟨g, g2⟩
        · exact absurd g (nb x a b)
        · exact absurd g (nb x a b)
      · simp only [if_neg e, if_neg e2]
    · split
      · rename_i e
        subst e
        have g := ho.sl x i a b i0 i1
        have e1 : ¬ ((∃ k, Sup s k (pgAt s ws x)) ∧ slAt s ws x i = 2 + 16 * c) := by rintro ⟨⟨k, g⟩, -⟩; have := g.mod; omega
        have e2 : ¬ (o.hs x i ∨ InM s ws c x i) := fun g2 => e1 (g.2 g2)
        rw [hs]
        exact ⟨⟨fun g => absurd g e2, fun ⟨⟨k, g⟩, _⟩ => by have := g.mod; omega⟩, fun g => absurd (.inl g) e2⟩
      · rw [hs]
  · refine Rel.page hm q0 q1 a (by omega) (by omega) (fun i i0 i1 g => by have := hz i i0 i1; omega) fun h' _ _ _ => by omega
/-- A page of its own is bound. -/
theorem bind {k : Int} (k0 : 0 ≤ k) (k3 : k ≤ 3) (he : o.hp q) (hz : ∀ i, 0 ≤ i → i < 16 → slAt s ws q i = if i < slots k then 2 + 16 * c else 0) (hnb : ∀ x, 0 ≤ x → x < s.p → ¬ o.hb x q) (hp : ∀ x, o'.hp x ↔ o.hp x ∧ x ≠ q) (hb : o'.hb = o.hb)
    (hs : ∀ x i, o'.hs x i ↔ o.hs x i ∨ (x = q ∧ 0 ≤ i ∧ i < slots k)) : Nx s c ws (upW ws (page s.p s.c s.m q) (2 + 16 * k + 4096 * c)) o' := by
  have hB := (may_iff _ _ _).1 hm
  have hsb := slots_bd k
  have he := (ho.pg q q0 q1).2 he
  have nb : ∀ x, 0 ≤ x → x < s.p → pgAt s ws x ≠ 4 + 16 * q := fun x a b e => hnb x a b ((ho.bd x q a b q0 q1).1 ⟨e, he⟩)
  have hsup : Sup s k (2 + 16 * k + 4096 * c) := ⟨k0, k3, c, c0, c1, rfl⟩
  have e2 : ∀ i, 0 ≤ i → i < 16 → ¬ (o.hs q i ∨ InM s ws c q i) := fun i i0 i1 g2 => by
    obtain ⟨⟨k, g⟩, -⟩ := (ho.sl q i q0 q1 i0 i1).2 g2
    have := g.mod; omega
  refine ⟨h.page hm q0 q1 (.s k (by rw [pg_pg hm q0 q1 q0 q1, if_pos rfl]; exact hsup) fun i i0 i1 => ?_) (fun q' a b _ _ e => absurd e (nb q' a b)) (fun h' _ _ _ e => by omega)
      (fun c' j i k _ _ _ _ g => by have := g.2.2.2.2.2.1.mod; omega), ?_, fun c' a b hne => ?_⟩
  · rw [sl_pg hm q0 q1 q0 i0, hz i i0 i1]
    split
    · rename_i e; exact .inl ⟨e, .inr (.inr ⟨c, c0, c1, rfl⟩)⟩
    · rename_i e; exact .inr ⟨by omega, rfl⟩
  · refine own_page hm h ho c0 c1 q0 q1 (fun x a b => ?_) (fun x h' a b a' b' => ?_) fun x i a b i0 i1 => ?_
    · rw [hp x]; split
      · rename_i e; exact ⟨fun g => absurd e g.2, fun g => by omega⟩
      · rename_i e; exact ⟨fun g => g.1, fun g => ⟨g, e⟩⟩
    · rw [hb, ← ho.bd x h' a b a' b']
      by_cases e : x = q <;> by_cases e2 : h' = q
      · subst e; subst e2; simp; omega
      · subst e; simp only [if_true, if_neg e2]; constructor <;> rintro ⟨g, -⟩ <;> omega
      · subst e2; simp only [if_neg e, if_true]; constructor <;> rintro ⟨g, g2⟩
        · exact absurd g (nb x a b)
        · exact absurd g (nb x a b)
      · simp only [if_neg e, if_neg e2]
    · split
      · rename_i e
        subst e
        have e2 := e2 i i0 i1
        have hz := hz i i0 i1
        rw [hs]
        refine ⟨⟨fun g => ⟨⟨k, hsup⟩, ?_⟩, fun ⟨_, g⟩ => .inl (.inr ⟨rfl, i0, ?_⟩)⟩, fun g => ?_⟩
        · rcases g with (g | ⟨-, -, g⟩) | g
          · exact absurd (.inl g) e2
          · rw [hz, if_pos g]
          · exact absurd (.inr g) e2
        · rw [hz] at g; split at g
          · assumption
          · omega
        · exact fun g => e2 (.inr g)
      · rename_i e
        rw [hs]; exact ⟨fun g => g.resolve_right fun g => e g.1, .inl⟩
  · refine Rel.page hm q0 q1 a (by omega) (by omega) (fun i i0 i1 g => ?_) fun h' _ _ _ => by omega
    rw [hz i i0 i1] at g; split at g <;> omega
/-- A page of its own becomes a body of another one of its own. -/
theorem body {d : Int} (he : o.hp q) (hd : o.hp d) (d0 : 0 ≤ d) (d1 : d < q) (d8 : q < d + 8) (hz : ∀ i, 0 ≤ i → i < 16 → slAt s ws q i = 0) (hnb : ∀ x, 0 ≤ x → x < s.p → ¬ o.hb x q) (hp : ∀ x, o'.hp x ↔ o.hp x ∧ x ≠ q)
    (hb : ∀ x h', o'.hb x h' ↔ o.hb x h' ∨ (x = q ∧ h' = d)) (hs : o'.hs = o.hs) : Nx s c ws (upW ws (page s.p s.c s.m q) (4 + 16 * d)) o' := by
  have hB := (may_iff _ _ _).1 hm
  have he := (ho.pg q q0 q1).2 he
  have hd := (ho.pg d d0 (by omega)).2 hd
  have nb : ∀ x, 0 ≤ x → x < s.p → pgAt s ws x ≠ 4 + 16 * q := fun x a b e => hnb x a b ((ho.bd x q a b q0 q1).1 ⟨e, he⟩)
  refine ⟨h.page hm q0 q1 (.b d d0 d1 d8 (by rw [pg_pg hm q0 q1 q0 q1, if_pos rfl]) (fun i i0 i1 => by rw [sl_pg hm q0 q1 q0 i0]; exact hz i i0 i1) (.inl ⟨c, c0, c1, by rw [pg_pg hm q0 q1 d0 (by omega), if_neg (by omega)]; exact hd⟩)) (fun q' a b _ _ e => absurd e (nb q' a b)) (fun h' _ _ _ e => by omega)
      (fun c' j i k _ _ _ _ g => by have := g.2.2.2.2.2.1.mod; omega), ?_, fun c' a b hne => ?_⟩
  · refine own_page hm h ho c0 c1 q0 q1 (fun x a b => ?_) (fun x h' a b a' b' => ?_) fun x i a b i0 i1 => ?_
    · rw [hp x]; split
      · rename_i e; exact ⟨fun g => absurd e g.2, fun g => by omega⟩
      · rename_i e; exact ⟨fun g => g.1, fun g => ⟨g, e⟩⟩
    · rw [hb, ← ho.bd x h' a b a' b']
      by_cases e : x = q <;> by_cases e2 : h' = q
      · subst e; subst e2; simp; omega
      · subst e; simp only [if_true, if_neg e2, true_and]; constructor
        · rintro (⟨g, -⟩ | g)
          · omega
          · subst g; exact ⟨rfl, hd⟩
        · rintro ⟨g, -⟩; exact .inr (by omega)
      · subst e2; simp only [if_neg e, if_true]; constructor
        · rintro (⟨g, -⟩ | ⟨g, -⟩)
          · exact absurd g (nb x a b)
          · exact absurd g e
        · rintro ⟨g, -⟩; exact absurd g (nb x a b)
      · simp only [if_neg e, if_neg e2]; constructor
        · rintro (g | ⟨g, -⟩)
          · exact g
          · exact absurd g e
        · exact .inl
    · split
      · rename_i e
        subst e
        have g := ho.sl x i a b i0 i1
        have e1 : ¬ ((∃ k, Sup s k (pgAt s ws x)) ∧ slAt s ws x i = 2 + 16 * c) := by rintro ⟨⟨k, g⟩, -⟩; have := g.mod; omega
        have e2 : ¬ (o.hs x i ∨ InM s ws c x i) := fun g2 => e1 (g.2 g2)
        rw [hs]
        exact ⟨⟨fun g => absurd g e2, fun ⟨⟨k, g⟩, _⟩ => by have := g.mod; omega⟩, fun g => absurd (.inl g) e2⟩
      · rw [hs]
  · refine Rel.page hm q0 q1 a (by omega) (by omega) (fun i i0 i1 g => by have := hz i i0 i1; omega) fun h' a' b' e' => ⟨fun g => ?_, fun g => by omega⟩
    have : h' = d := by omega
    subst this; omega
/-- A row of its own becomes a block. -/
theorem large {n : Int} (he : o.hp q) (n1 : 1 ≤ n) (n8 : n ≤ 8) (nq : q + n ≤ s.p) (hz : ∀ i, 0 ≤ i → i < 16 → slAt s ws q i = 0) (hr : ∀ x, 0 ≤ x → x < s.p → (o.hb x q ↔ q < x ∧ x < q + n)) (hp : ∀ x, o'.hp x ↔ o.hp x ∧ x ≠ q)
    (hb : ∀ x h', o'.hb x h' ↔ o.hb x h' ∧ h' ≠ q) (hs : o'.hs = o.hs) : Nx s c ws (upW ws (page s.p s.c s.m q) (3 + 16 * n)) o' := by
  have hB := (may_iff _ _ _).1 hm
  have he := (ho.pg q q0 q1).2 he
  have nb : ∀ x, 0 ≤ x → x < s.p → (pgAt s ws x = 4 + 16 * q ↔ q < x ∧ x < q + n) := fun x a b => by
    rw [← hr x a b, ← ho.bd x q a b q0 q1]; exact ⟨fun e => ⟨e, he⟩, fun e => e.1⟩
  refine ⟨h.page hm q0 q1 (.l n n1 n8 nq (by rw [pg_pg hm q0 q1 q0 q1, if_pos rfl]) (fun i i0 i1 => by rw [sl_pg hm q0 q1 q0 i0]; exact hz i i0 i1) fun j j0 j1 => by rw [pg_pg hm q0 q1 (by omega) (by omega), if_neg (by omega)]; exact (nb _ (by omega) (by omega)).2 (by omega))
      (fun q' a b _ _ e => .inr ⟨n, n1, n8, ((nb q' a b).1 e).2, rfl⟩) (fun h' _ _ _ e => by omega)
      (fun c' j i k _ _ _ _ g => by have := g.2.2.2.2.2.1.mod; omega), ?_, fun c' a b hne => ?_⟩
  · refine own_page hm h ho c0 c1 q0 q1 (fun x a b => ?_) (fun x h' a b a' b' => ?_) fun x i a b i0 i1 => ?_
    · rw [hp x]; split
      · rename_i e; exact ⟨fun g => absurd e g.2, fun g => by omega⟩
      · rename_i e; exact ⟨fun g => g.1, fun g => ⟨g, e⟩⟩
    · rw [hb, ← ho.bd x h' a b a' b']
      by_cases e : x = q <;> by_cases e2 : h' = q
      · subst e; subst e2; simp; omega
      · subst e; simp only [if_true, if_neg e2]; constructor
        · rintro ⟨⟨g, -⟩, -⟩; omega
        · rintro ⟨g, -⟩; omega
      · subst e2; simp only [if_neg e, if_true]; constructor
        · rintro ⟨-, g⟩; exact absurd rfl g
        · rintro ⟨-, g⟩; omega
      · simp only [if_neg e, if_neg e2]; exact ⟨fun g => g.1, fun g => ⟨g, e2⟩⟩
    · split
      · rename_i e
        subst e
        have g := ho.sl x i a b i0 i1
        have e1 : ¬ ((∃ k, Sup s k (pgAt s ws x)) ∧ slAt s ws x i = 2 + 16 * c) := by rintro ⟨⟨k, g⟩, -⟩; have := g.mod; omega
        have e2 : ¬ (o.hs x i ∨ InM s ws c x i) := fun g2 => e1 (g.2 g2)
        rw [hs]
        exact ⟨⟨fun g => absurd g e2, fun ⟨⟨k, g⟩, _⟩ => by have := g.mod; omega⟩, fun g => absurd (.inl g) e2⟩
      · rw [hs]
  · refine Rel.page hm q0 q1 a (by omega) (by omega) (fun i i0 i1 g => by have := hz i i0 i1; omega) fun h' a' b' e' => by omega
/-- A body of its own is emptied. -/
theorem unbody {d : Int} (he : o.hb q d) (d0 : 0 ≤ d) (d1 : d < s.p) (hp : o'.hp = o.hp) (hb : ∀ x h', o'.hb x h' ↔ o.hb x h' ∧ x ≠ q) (hs : o'.hs = o.hs) : Nx s c ws (upW ws (page s.p s.c s.m q) 0) o' := by
  have hB := (may_iff _ _ _).1 hm
  obtain ⟨he, hd⟩ := (ho.bd q d q0 q1 d0 d1).2 he
  have hz : (∀ i, 0 ≤ i → i < 16 → slAt s ws q i = 0) ∧ d < q := by
    cases h.pg q q0 q1 with
    | e h z => omega
    | h c c0 c1 h z => omega
    | s k h z => have := h.mod; omega
    | l n' n1 n8 nq h z b => omega
    | b h h0 h1 h2 e z w => exact ⟨z, by omega⟩
  obtain ⟨hz, hdq⟩ := hz
  have nb : ∀ x, 0 ≤ x → x < s.p → pgAt s ws x ≠ 4 + 16 * q := fun x a b e => by
    cases h.pg x a b with
    | e h z => omega
    | h c c0 c1 h z => omega
    | s k h z => have := h.mod; omega
    | l n n1 n8 nq h z b => omega
    | b h h0 h1 h2 e' z w =>
      have : h = q := by omega
      subst this
      rcases w with ⟨c, -, -, w⟩ | ⟨n, -, -, -, w⟩ <;> omega
  refine ⟨h.page hm q0 q1 (.e (by rw [pg_pg hm q0 q1 q0 q1, if_pos rfl]) fun i i0 i1 => by rw [sl_pg hm q0 q1 q0 i0]; exact hz i i0 i1) (fun q' a b _ _ e => absurd e (nb q' a b)) (fun h' _ _ _ e => .inr ⟨c, by rw [show h' = d by omega]; exact hd⟩)
      (fun c' j i k _ _ _ _ g => by have := g.2.2.2.2.2.1.mod; omega), ?_, fun c' a b hne => ?_⟩
  · refine own_page hm h ho c0 c1 q0 q1 (fun x a b => ?_) (fun x h' a b a' b' => ?_) fun x i a b i0 i1 => ?_
    · rw [hp]; split
      · rename_i e; rw [e, ← ho.pg q q0 q1]; constructor <;> intro g <;> omega
      · exact Iff.rfl
    · rw [hb, ← ho.bd x h' a b a' b']
      by_cases e : x = q <;> by_cases e2 : h' = q
      · subst e; subst e2; simp; omega
      · subst e; simp only [if_true, if_neg e2]; constructor
        · rintro ⟨-, g⟩; exact absurd rfl g
        · rintro ⟨g, -⟩; omega
      · subst e2; simp only [if_neg e, if_true]; constructor
        · rintro ⟨⟨g, -⟩, -⟩; exact absurd g (nb x a b)
        · rintro ⟨g, -⟩; exact absurd g (nb x a b)
      · simp only [if_neg e, if_neg e2]; exact ⟨fun g => g.1, fun g => ⟨g, e⟩⟩
    · split
      · rename_i e
        subst e
        have g := ho.sl x i a b i0 i1
        have e1 : ¬ ((∃ k, Sup s k (pgAt s ws x)) ∧ slAt s ws x i = 2 + 16 * c) := by rintro ⟨⟨k, g⟩, -⟩; have := g.mod; omega
        have e2 : ¬ (o.hs x i ∨ InM s ws c x i) := fun g2 => e1 (g.2 g2)
        rw [hs]
        exact ⟨⟨fun g => absurd g e2, fun ⟨⟨k, g⟩, _⟩ => by have := g.mod; omega⟩, fun g => absurd (.inl g) e2⟩
      · rw [hs]
  · refine Rel.page hm q0 q1 a (by omega) (by omega) (fun i i0 i1 g => by have := hz i i0 i1; omega) fun h' a' b' e' => ⟨fun g => by omega, fun g => ?_⟩
    have : h' = d := by omega
    subst this; omega
/-- A slot of a page of its own is written. -/
theorem hslot {i : Int} (i0 : 0 ≤ i) (i1 : i < 16) (he : o.hp q) (hy : y = 0 ∨ y = 2 + 16 * c) : Nx s c ws (upW ws (slot s.p s.c s.m q i) y) o := by
  have hB := (may_iff _ _ _).1 hm
  have he := (ho.pg q q0 q1).2 he
  have hP : ∀ q', 0 ≤ q' → q' < s.p → pgAt s (upW ws (Go.Pl.slot s.p s.c s.m q i) y) q' = pgAt s ws q' := fun q' a b => pg_sl hm q0 q1 i0 i1 a b
  have hS : ∀ q' i', 0 ≤ q' → 0 ≤ i' → i' < 16 → slAt s (upW ws (Go.Pl.slot s.p s.c s.m q i) y) q' i' = if q' = q ∧ i' = i then y else slAt s ws q' i' := fun q' i' a b c => sl_sl hm q0 q1 i0 i1 a b c
  have hM : ∀ q' i', InM s (upW ws (Go.Pl.slot s.p s.c s.m q i) y) c q' i' ↔ InM s ws c q' i' := fun q' i' => InM.congr fun j j0 j1 => mg_sl hm q0 q1 i0 i1 c0 j0
  refine ⟨h.slot hm q0 q1 i0 i1 (fun c' g => by have : c' = c := by omega
                                                subst this; exact hy) (fun k g => by have := g.mod; omega) (.inl ⟨c, c0, c1, he⟩) (fun c' j k _ _ _ _ _ g => by have := g.mod; omega),
    ⟨fun x a b => by rw [hP x a b]; exact ho.pg x a b, fun x h' a b a' b' => by rw [hP x a b, hP h' a' b']; exact ho.bd x h' a b a' b', fun x j a b j0 j1 => ?_, fun x j a b j0 j1 g => by rw [hM]; exact ho.dj x j a b j0 j1 g⟩,
    fun c' a b hne => Rel.slot hm q0 q1 i0 i1 a (by omega) fun ⟨k, g⟩ => by have := g.mod; omega⟩
  rw [hP x a b, hS x j a j0 j1, hM, ← ho.sl x j a b j0 j1]
  split
  · rename_i e
    obtain ⟨rfl, rfl⟩ := e
    constructor <;> rintro ⟨⟨k, g⟩, -⟩ <;> have := g.mod <;> omega
  · exact Iff.rfl
/-- A slot, open or taken, is claimed. -/
theorem claimO {i k : Int} (i0 : 0 ≤ i) (i1 : i < 16) (k0 : 0 ≤ k) (k3 : k ≤ 3) (hy : slAt s ws q i = 1 + 16 * k ∨ slAt s ws q i = 3 + 16 * k) (hp : o'.hp = o.hp) (hb : o'.hb = o.hb) (hs : ∀ x j, o'.hs x j ↔ o.hs x j ∨ (x = q ∧ j = i)) :
    Nx s c ws (upW ws (slot s.p s.c s.m q i) (2 + 16 * c)) o' := by
  have hB := (may_iff _ _ _).1 hm
  obtain ⟨hsup, hik⟩ := (h.pg q q0 q1).open (by omega) k0 k3 i0 i1 hy
  have hmo := hsup.mod
  have hP : ∀ q', 0 ≤ q' → q' < s.p → pgAt s (upW ws (Go.Pl.slot s.p s.c s.m q i) (2 + 16 * c)) q' = pgAt s ws q' := fun q' a b => pg_sl hm q0 q1 i0 i1 a b
  have hS : ∀ q' i', 0 ≤ q' → 0 ≤ i' → i' < 16 → slAt s (upW ws (Go.Pl.slot s.p s.c s.m q i) (2 + 16 * c)) q' i' = if q' = q ∧ i' = i then (2 + 16 * c) else slAt s ws q' i' := fun q' i' a b c => sl_sl hm q0 q1 i0 i1 a b c
  have hM : ∀ q' i', InM s (upW ws (Go.Pl.slot s.p s.c s.m q i) (2 + 16 * c)) c q' i' ↔ InM s ws c q' i' := fun q' i' => InM.congr fun j j0 j1 => mg_sl hm q0 q1 i0 i1 c0 j0
  have nm : ¬ InM s ws c q i := fun g => by
    have := ((ho.sl q i q0 q1 i0 i1).2 (.inr g)).2; omega
  have hsl : ∀ k', Sup s k' (pgAt s ws q) → Sl s k' i (2 + 16 * c) := fun k' g => by
    rw [Sup.inj (by omega) g hsup]; exact .inl ⟨hik, .inr (.inr ⟨c, c0, c1, rfl⟩)⟩
  refine ⟨h.slot hm q0 q1 i0 i1 (fun c' g => by omega) hsl (.inr ⟨k, hsup⟩) (fun c' j k _ _ _ _ _ _ g => by omega),
    ⟨fun x a b => by rw [hP x a b, hp]; exact ho.pg x a b, fun x h' a b a' b' => by rw [hP x a b, hP h' a' b', hb]; exact ho.bd x h' a b a' b', fun x j a b j0 j1 => ?_, fun x j a b j0 j1 g => ?_⟩,
    fun c' a b hne => Rel.slot hm q0 q1 i0 i1 a (by omega) fun _ => by omega⟩
  · rw [hP x a b, hS x j a j0 j1, hM, hs]
    have g := ho.sl x j a b j0 j1
    split
    · rename_i e
      obtain ⟨rfl, rfl⟩ := e
      exact ⟨fun _ => .inl (.inr ⟨rfl, rfl⟩), fun _ => ⟨⟨k, hsup⟩, rfl⟩⟩
    · rename_i e
      rw [g]
      constructor
      · rintro (g | g)
        · exact .inl (.inl g)
        · exact .inr g
      · rintro ((g | g) | g)
        · exact .inl g
        · exact absurd g e
        · exact .inr g
  · rw [hM]
    rcases (hs x j).1 g with g | ⟨rfl, rfl⟩
    · exact ho.dj x j a b j0 j1 g
    · exact nm
/-- A slot of its own is let go. -/
theorem freeO {i k : Int} (i0 : 0 ≤ i) (i1 : i < 16) (hk : Sup s k (pgAt s ws q)) (he : o.hs q i) (hy : y = 1 + 16 * k ∨ y = 3 + 16 * k) (hp : o'.hp = o.hp) (hb : o'.hb = o.hb) (hs : ∀ x j, o'.hs x j ↔ o.hs x j ∧ ¬ (x = q ∧ j = i)) :
    Nx s c ws (upW ws (slot s.p s.c s.m q i) y) o' := by
  have hB := (may_iff _ _ _).1 hm
  have hmo := hk.mod
  have hkb := hk.bd
  have hw := ((ho.sl q i q0 q1 i0 i1).2 (.inl he)).2
  have nm := ho.dj q i q0 q1 i0 i1 he
  have hik : i < slots k := by
    rcases (h.pg q q0 q1).sup (by omega) hk i i0 i1 with ⟨g, -⟩ | ⟨-, g⟩
    · exact g
    · omega
  have hP : ∀ q', 0 ≤ q' → q' < s.p → pgAt s (upW ws (Go.Pl.slot s.p s.c s.m q i) y) q' = pgAt s ws q' := fun q' a b => pg_sl hm q0 q1 i0 i1 a b
  have hS : ∀ q' i', 0 ≤ q' → 0 ≤ i' → i' < 16 → slAt s (upW ws (Go.Pl.slot s.p s.c s.m q i) y) q' i' = if q' = q ∧ i' = i then y else slAt s ws q' i' := fun q' i' a b c => sl_sl hm q0 q1 i0 i1 a b c
  have hM : ∀ q' i', InM s (upW ws (Go.Pl.slot s.p s.c s.m q i) y) c q' i' ↔ InM s ws c q' i' := fun q' i' => InM.congr fun j j0 j1 => mg_sl hm q0 q1 i0 i1 c0 j0
  have hsl : ∀ k', Sup s k' (pgAt s ws q) → Sl s k' i y := fun k' g => by
    rw [Sup.inj (by omega) g hk]; exact .inl ⟨hik, hy.elim .inl fun g => .inr (.inl g)⟩
  refine ⟨h.slot hm q0 q1 i0 i1 (fun c' g => by omega) hsl (.inr ⟨k, hk⟩) (fun c' j k' a b d e g1 g2 g3 => ?_),
    ⟨fun x a b => by rw [hP x a b, hp]; exact ho.pg x a b, fun x h' a b a' b' => by rw [hP x a b, hP h' a' b', hb]; exact ho.bd x h' a b a' b', fun x j a b j0 j1 => ?_, fun x j a b j0 j1 g => ?_⟩,
    fun c' a b hne => Rel.slot hm q0 q1 i0 i1 a (by omega) fun _ => by omega⟩
  · have hc : c' = c := by omega
    subst hc
    exact nm ⟨j, k', d, e, g2.1, g2.2.1, g1⟩
  · rw [hP x a b, hS x j a j0 j1, hM, hs]
    have g := ho.sl x j a b j0 j1
    split
    · rename_i e
      obtain ⟨rfl, rfl⟩ := e
      constructor
      · rintro ⟨-, g⟩; omega
      · rintro (⟨-, g⟩ | g)
        · exact absurd ⟨rfl, rfl⟩ g
        · exact absurd g nm
    · rename_i e
      rw [g]
      constructor
      · rintro (g | g)
        · exact .inl ⟨g, e⟩
        · exact .inr g
      · rintro (⟨g, -⟩ | g)
        · exact .inl g
        · exact .inr g
  · rw [hM]; exact ho.dj x j a b j0 j1 ((hs x j).1 g).1
omit q0 q1
/-- An entry is taken out. -/
theorem take {j i k : Int} (j0 : 0 ≤ j) (j1 : j < s.m) (i0 : 0 ≤ i) (i1 : i < 16) (q0 : 0 ≤ q) (q1 : q < 64) (k0 : 0 ≤ k) (k3 : k ≤ 3) (he : mgAt s ws c j = 1 + 16 * q + 4096 * i + 1048576 * k) (hp : o'.hp = o.hp) (hb : o'.hb = o.hb) (hs : ∀ x i', o'.hs x i' ↔ o.hs x i' ∨ (x = q ∧ i' = i)) :
    Nx s c ws (upW ws (mag s.p s.c s.m c j) 0) o' := by
  have hB := (may_iff _ _ _).1 hm
  have hP : ∀ q', 0 ≤ q' → q' < s.p → pgAt s (upW ws (Go.Pl.mag s.p s.c s.m c j) 0) q' = pgAt s ws q' := fun q' a b => pg_mg hm c0 c1 j0 j1 a b
  have hS : ∀ q' i', 0 ≤ q' → q' < s.p → 0 ≤ i' → i' < 16 → slAt s (upW ws (Go.Pl.mag s.p s.c s.m c j) 0) q' i' = slAt s ws q' i' := fun q' i' a b d e => sl_mg hm c0 c1 j0 j1 a b d e
  have hM : ∀ x i', 0 ≤ x → x < s.p → 0 ≤ i' → i' < 16 → (InM s (upW ws (Go.Pl.mag s.p s.c s.m c j) 0) c x i' ↔ InM s ws c x i' ∧ ¬ (x = q ∧ i' = i)) := fun x i' a b a' b' => by
    constructor
    · rintro ⟨j', k', d0, d1, e0, e1, g⟩
      rw [mg_mg hm c0 c1 j0 j1 c0 d0 d1] at g
      split at g
      · omega
      · rename_i e2
        refine ⟨⟨j', k', d0, d1, e0, e1, g⟩, fun e3 => e2 ⟨rfl, ?_⟩⟩
        obtain ⟨rfl, rfl⟩ := e3
        have hx : mgAt s ws c j' ≠ 0 := by omega
        have hx2 : mgAt s ws c j ≠ 0 := by omega
        obtain ⟨p1, i1', k1, g1, g2, g3, g4, g5, g6, g7⟩ := h.mg c j' c0 c1 d0 d1 hx
        obtain ⟨p2, i2', k2, g1', g2', g3', g4', g5', g6', g7'⟩ := h.mg c j c0 c1 j0 j1 hx2
        have := slots_bd k1
        have := slots_bd k2
        have hp1 : p1 = x := by have := g6.bd; omega
        have hp2 : p2 = x := by have := g6'.bd; omega
        subst hp1
        subst hp2
        have := Sup.inj (by omega) g6 g6'
        subst this
        have := g6.bd
        exact h.uq c j' j c0 c1 d0 d1 j0 j1 hx (by omega)
    · rintro ⟨⟨j', k', d0, d1, e0, e1, g⟩, e2⟩
      refine ⟨j', k', d0, d1, e0, e1, ?_⟩
      rw [mg_mg hm c0 c1 j0 j1 c0 d0 d1, if_neg]
      · exact g
      · rintro ⟨-, rfl⟩
        exact e2 (by omega)
  refine ⟨h.mag hm c0 c1 j0 j1 (.inl rfl), ⟨fun x a b => by rw [hP x a b, hp]; exact ho.pg x a b, fun x h' a b a' b' => by rw [hP x a b, hP h' a' b', hb]; exact ho.bd x h' a b a' b', fun x i' a b a' b' => ?_, fun x i' a b a' b' g => ?_⟩, fun c' a b hne => Rel.mag hm c0 c1 j0 j1 a hne⟩
  · rw [hP x a b, hS x i' a b a' b', hM x i' a b a' b', hs, ho.sl x i' a b a' b']
    constructor
    · rintro (g | g)
      · exact .inl (.inl g)
      · by_cases e : x = q ∧ i' = i
        · exact .inl (.inr e)
        · exact .inr ⟨g, e⟩
    · rintro ((g | ⟨rfl, rfl⟩) | g)
      · exact .inl g
      · exact .inr ⟨j, k, j0, j1, k0, k3, he⟩
      · exact .inr g.1
  · rw [hM x i' a b a' b']
    rintro ⟨g2, g3⟩
    rcases (hs x i').1 g with g | g
    · exact ho.dj x i' a b a' b' g g2
    · exact g3 g
/-- An entry is put in. -/
theorem put {j i k : Int} (j0 : 0 ≤ j) (j1 : j < s.m) (q0 : 0 ≤ q) (q1 : q < s.p) (i0 : 0 ≤ i) (i1 : i < 16) (he : mgAt s ws c j = 0) (hk : Sup s k (pgAt s ws q)) (hq : o.hs q i) (hp : o'.hp = o.hp) (hb : o'.hb = o.hb) (hs : ∀ x i', o'.hs x i' ↔ o.hs x i' ∧ ¬ (x = q ∧ i' = i)) :
    Nx s c ws (upW ws (mag s.p s.c s.m c j) (1 + 16 * q + 4096 * i + 1048576 * k)) o' := by
  have hB := (may_iff _ _ _).1 hm
  have hkb := hk.bd
  have hw := ((ho.sl q i q0 q1 i0 i1).2 (.inl hq)).2
  have nm := ho.dj q i q0 q1 i0 i1 hq
  have hik : i < slots k := by
    rcases (h.pg q q0 q1).sup (by omega) hk i i0 i1 with ⟨g, -⟩ | ⟨-, g⟩
    · exact g
    · omega
  have hP : ∀ q', 0 ≤ q' → q' < s.p → pgAt s (upW ws (Go.Pl.mag s.p s.c s.m c j) (1 + 16 * q + 4096 * i + 1048576 * k)) q' = pgAt s ws q' := fun q' a b => pg_mg hm c0 c1 j0 j1 a b
  have hS : ∀ q' i', 0 ≤ q' → q' < s.p → 0 ≤ i' → i' < 16 → slAt s (upW ws (Go.Pl.mag s.p s.c s.m c j) (1 + 16 * q + 4096 * i + 1048576 * k)) q' i' = slAt s ws q' i' := fun q' i' a b d e => sl_mg hm c0 c1 j0 j1 a b d e
  have hM : ∀ x i', 0 ≤ x → x < s.p → 0 ≤ i' → i' < 16 → (InM s (upW ws (Go.Pl.mag s.p s.c s.m c j) (1 + 16 * q + 4096 * i + 1048576 * k)) c x i' ↔ InM s ws c x i' ∨ (x = q ∧ i' = i)) := fun x i' a b a' b' => by
    constructor
    · rintro ⟨j', k', d0, d1, e0, e1, g⟩
      rw [mg_mg hm c0 c1 j0 j1 c0 d0 d1] at g
      split at g
      · exact .inr (by omega)
      · exact .inl ⟨j', k', d0, d1, e0, e1, g⟩
    · rintro (⟨j', k', d0, d1, e0, e1, g⟩ | ⟨rfl, rfl⟩)
      · refine ⟨j', k', d0, d1, e0, e1, ?_⟩
        rw [mg_mg hm c0 c1 j0 j1 c0 d0 d1, if_neg]
        · exact g
        · rintro ⟨-, rfl⟩; omega
      · exact ⟨j, k, j0, j1, hkb.1, hkb.2, by rw [mg_mg hm c0 c1 j0 j1 c0 j0 j1, if_pos ⟨rfl, rfl⟩]⟩
  refine ⟨h.mag hm c0 c1 j0 j1 (.inr ⟨⟨q, i, k, q0, q1, i0, hik, rfl, hk, hw⟩, fun j' a b g => nm ⟨j', k, a, b, hkb.1, hkb.2, g⟩⟩),
    ⟨fun x a b => by rw [hP x a b, hp]; exact ho.pg x a b, fun x h' a b a' b' => by rw [hP x a b, hP h' a' b', hb]; exact ho.bd x h' a b a' b', fun x i' a b a' b' => ?_, fun x i' a b a' b' g => ?_⟩, fun c' a b hne => Rel.mag hm c0 c1 j0 j1 a hne⟩
  · rw [hP x a b, hS x i' a b a' b', hM x i' a b a' b', hs, ho.sl x i' a b a' b']
    constructor
    · rintro (g | g)
      · by_cases e : x = q ∧ i' = i
        · exact .inr (.inr e)
        · exact .inl ⟨g, e⟩
      · exact .inr (.inl g)
    · rintro (g | g | ⟨rfl, rfl⟩)
      · exact .inl g.1
      · exact .inr g
      · exact .inl hq
  · obtain ⟨g, g3⟩ := (hs x i').1 g
    rw [hM x i' a b a' b']
    rintro (g2 | g2)
    · exact ho.dj x i' a b a' b' g g2
    · exact g3 g2
end
end Ow
end Go.Ma
