/-
  A dead one is adopted, in a heap that was sound, alone: what is touched on the way, and what stands at the end. Conditions: none.
-/
import Derived.Test.YtfopnendmcpglaaMaFr
import Derived.Test.YtfopnendmcpglaaMaAdoptTwo
set_option linter.unusedVariables false
set_option linter.unusedSectionVars false
set_option linter.unusedSimpArgs false
namespace Go.Ma
open Go.Pl

section
variable (s : Sh) (ws0 : Nat → Int) (d : Int)
/-- The dead one holds a page; it is a body of one that it holds. -/
def HeldBy (q : Int) : Prop := pgK s q (pgAt s ws0 q) = 1 ∧ pgA s q (pgAt s ws0 q) = d
def BodyOf (q : Int) : Prop := pgK s q (pgAt s ws0 q) = 4 ∧ HeldBy s ws0 d (pgA s q (pgAt s ws0 q))
/-- What is touched, on the way. -/
structure Pt (ws : Nat → Int) : Prop where
  np : ∀ q, 0 ≤ q → q < s.p → ¬ HeldBy s ws0 d q → ¬ BodyOf s ws0 d q → pgAt s ws q = pgAt s ws0 q
  bd : ∀ q, 0 ≤ q → q < s.p → BodyOf s ws0 d q → pgAt s ws q = 0 ∨ (pgAt s ws q = pgAt s ws0 q ∧ pgAt s ws (pgA s q (pgAt s ws0 q)) = pgAt s ws0 (pgA s q (pgAt s ws0 q)))
  hd : ∀ q, 0 ≤ q → q < s.p → HeldBy s ws0 d q → pgAt s ws q = pgAt s ws0 q ∨ (pgAt s ws q = 0 ∧ ∀ i, 0 ≤ i → i < 16 → slAt s ws q i = 0)
  sb : ∀ q, 0 ≤ q → q < s.p → ¬ HeldBy s ws0 d q → ∀ i, 0 ≤ i → i < 16 → slAt s ws q i = slAt s ws0 q i ∨ (pgK s q (pgAt s ws0 q) = 2 ∧ slAt s ws0 q i = way d ∧ slAt s ws q i = opn (pgA s q (pgAt s ws0 q)))
  mo : ∀ c i, 0 ≤ c → c < s.c → c ≠ d → 0 ≤ i → i < s.m → mgAt s ws c i = mgAt s ws0 c i
  md : ∀ i, 0 ≤ i → i < s.m → mgAt s ws d i = mgAt s ws0 d i ∨ mgAt s ws d i = 0
def BD (ws : Nat → Int) (n : Int) : Prop := ∀ q, 0 ≤ q → q < n → BodyOf s ws0 d q → pgAt s ws q = 0
def HD (ws : Nat → Int) (n : Int) : Prop := ∀ q, 0 ≤ q → q < n → HeldBy s ws0 d q → pgAt s ws q = 0
def MD (ws : Nat → Int) (n : Int) : Prop := ∀ i, 0 ≤ i → i < n → mgAt s ws d i = 0
def SD (ws : Nat → Int) (n : Int) : Prop := ∀ q, 0 ≤ q → q < n → pgK s q (pgAt s ws0 q) = 2 → ∀ i, 0 ≤ i → i < 16 → slAt s ws q i ≠ way d
end
/-- What is left untouched by reading. -/
theorem Pt.self (s : Sh) (ws0 : Nat → Int) (d : Int) : Pt s ws0 d ws0 :=
  ⟨fun _ _ _ _ _ => rfl, fun _ _ _ _ => .inr ⟨rfl, rfl⟩, fun _ _ _ _ => .inl rfl, fun _ _ _ _ _ _ _ => .inl rfl, fun _ _ _ _ _ _ _ => rfl, fun _ _ _ => .inl rfl⟩

section
variable {s : Sh} {ws0 ws : Nat → Int} {d q i n y : Int}
theorem body_bd (h : BodyOf s ws0 d q) : 0 ≤ pgA s q (pgAt s ws0 q) ∧ pgA s q (pgAt s ws0 q) < q := by
  have := Ad.ok_body (pgK_ne (by rw [h.1]; decide)) h.1
  omega
theorem not_both (h : HeldBy s ws0 d q) : ¬ BodyOf s ws0 d q := fun h2 => by have := h.1; rw [h2.1] at this; cases this

section
variable (hm : may s.p s.c s.m = true)
include hm
/-- A body is emptied. -/
theorem Pt.cut (h : Pt s ws0 d ws) (h0 : 0 ≤ q) (h1 : q < s.p) (hb : BodyOf s ws0 d q) : Pt s ws0 d (upW ws (page s.p s.c s.m q) 0) := by
  refine ⟨fun r r0 r1 n1 n2 => ?_, fun r r0 r1 hr => ?_, fun r r0 r1 hr => ?_, fun r r0 r1 hr j j0 j1 => ?_, fun c j c0 c1 hc j0 j1 => ?_, fun j j0 j1 => ?_⟩
  · rw [pg_pg hm h0 h1 r0 r1, if_neg (fun e => by subst e; exact n2 hb)]; exact h.np r r0 r1 n1 n2
  · have hx := body_bd hr
    rw [pg_pg hm h0 h1 r0 r1]
    by_cases e : r = q
    · rw [if_pos e]; exact .inl rfl
    · rw [if_neg e, pg_pg hm h0 h1 hx.1 (by omega), if_neg (fun e2 => by have h2 := hr.2; rw [e2] at h2; exact not_both h2 hb)]
      exact h.bd r r0 r1 hr
  · rw [pg_pg hm h0 h1 r0 r1, if_neg (fun e => by subst e; exact not_both hr hb)]
    rcases h.hd r r0 r1 hr with e | ⟨e, f⟩
    · exact .inl e
    · exact .inr ⟨e, fun j j0 j1 => (sl_pg hm h0 h1 r0 j0).trans (f j j0 j1)⟩
  · rw [sl_pg hm h0 h1 r0 j0]; exact h.sb r r0 r1 hr j j0 j1
  · rw [mg_pg hm h0 h1 c0 j0]; exact h.mo c j c0 c1 hc j0 j1
  · by_cases hd0 : 0 ≤ d
    · rw [mg_pg hm h0 h1 hd0 j0]; exact h.md j j0 j1
    · have hx := hb.2
      have hk := hx.2
      have : 0 ≤ pgA s (pgA s q (pgAt s ws0 q)) (pgAt s ws0 (pgA s q (pgAt s ws0 q))) := by unfold pgA; split <;> (try (unfold pt; omega)) <;> omega
      omega
theorem pgA_nn (s : Sh) (q x : Int) : 0 ≤ pgA s q x := by
  unfold pgA
  split
  · unfold pt; omega
  · omega
/-- A page's slot is cleared. -/
theorem Pt.clr (h : Pt s ws0 d ws) (h0 : 0 ≤ q) (h1 : q < s.p) (hh : HeldBy s ws0 d q) (i0 : 0 ≤ i) (i1 : i < 16) : Pt s ws0 d (upW ws (slot s.p s.c s.m q i) 0) := by
  have hd0 : 0 ≤ d := by have := hh.2; have := pgA_nn hm s q (pgAt s ws0 q); omega
  refine ⟨fun r r0 r1 n1 n2 => ?_, fun r r0 r1 hr => ?_, fun r r0 r1 hr => ?_, fun r r0 r1 hr j j0 j1 => ?_, fun c j c0 c1 hc j0 j1 => ?_, fun j j0 j1 => ?_⟩
  · rw [pg_sl hm h0 h1 i0 i1 r0 r1]; exact h.np r r0 r1 n1 n2
  · have hx := body_bd hr
    rw [pg_sl hm h0 h1 i0 i1 r0 r1, pg_sl hm h0 h1 i0 i1 hx.1 (by omega)]; exact h.bd r r0 r1 hr
  · rw [pg_sl hm h0 h1 i0 i1 r0 r1]
    rcases h.hd r r0 r1 hr with e | ⟨e, f⟩
    · exact .inl e
    · refine .inr ⟨e, fun j j0 j1 => ?_⟩
      rw [sl_sl hm h0 h1 i0 i1 r0 j0 j1]
      split
      · rfl
      · exact f j j0 j1
  · rw [sl_sl hm h0 h1 i0 i1 r0 j0 j1, if_neg (fun e => hr (by rw [e.1]; exact hh))]; exact h.sb r r0 r1 hr j j0 j1
  · rw [mg_sl hm h0 h1 i0 i1 c0 j0]; exact h.mo c j c0 c1 hc j0 j1
  · rw [mg_sl hm h0 h1 i0 i1 hd0 j0]; exact h.md j j0 j1
/-- A page that is held is emptied. -/
theorem Pt.emp (h : Pt s ws0 d ws) (h0 : 0 ≤ q) (h1 : q < s.p) (hh : HeldBy s ws0 d q) (hb : BD s ws0 d ws s.p) (hz : ∀ i, 0 ≤ i → i < 16 → slAt s ws q i = 0) : Pt s ws0 d (upW ws (page s.p s.c s.m q) 0) := by
  have hd0 : 0 ≤ d := by have := hh.2; have := pgA_nn hm s q (pgAt s ws0 q); omega
  refine ⟨fun r r0 r1 n1 n2 => ?_, fun r r0 r1 hr => ?_, fun r r0 r1 hr => ?_, fun r r0 r1 hr j j0 j1 => ?_, fun c j c0 c1 hc j0 j1 => ?_, fun j j0 j1 => ?_⟩
  · rw [pg_pg hm h0 h1 r0 r1, if_neg (fun e => by subst e; exact n1 hh)]; exact h.np r r0 r1 n1 n2
  · left
    rw [pg_pg hm h0 h1 r0 r1]
    split
    · rfl
    · exact hb r r0 r1 hr
  · rw [pg_pg hm h0 h1 r0 r1]
    by_cases e : r = q
    · rw [if_pos e]; subst e; exact .inr ⟨rfl, fun j j0 j1 => (sl_pg hm h0 h1 r0 j0).trans (hz j j0 j1)⟩
    · rw [if_neg e]
      rcases h.hd r r0 r1 hr with e | ⟨e, f⟩
      · exact .inl e
      · exact .inr ⟨e, fun j j0 j1 => (sl_pg hm h0 h1 r0 j0).trans (f j j0 j1)⟩
  · rw [sl_pg hm h0 h1 r0 j0]; exact h.sb r r0 r1 hr j j0 j1
  · rw [mg_pg hm h0 h1 c0 j0]; exact h.mo c j c0 c1 hc j0 j1
  · rw [mg_pg hm h0 h1 hd0 j0]; exact h.md j j0 j1
/-- An entry is emptied. -/
theorem Pt.mag (h : Pt s ws0 d ws) (d0 : 0 ≤ d) (d1 : d < s.c) (i0 : 0 ≤ i) (i1 : i < s.m) : Pt s ws0 d (upW ws (mag s.p s.c s.m d i) 0) := by
  refine ⟨fun r r0 r1 n1 n2 => ?_, fun r r0 r1 hr => ?_, fun r r0 r1 hr => ?_, fun r r0 r1 hr j j0 j1 => ?_, fun c j c0 c1 hc j0 j1 => ?_, fun j j0 j1 => ?_⟩
  · rw [pg_mg hm d0 d1 i0 i1 r0 r1]; exact h.np r r0 r1 n1 n2
  · have hx := body_bd hr
    rw [pg_mg hm d0 d1 i0 i1 r0 r1, pg_mg hm d0 d1 i0 i1 hx.1 (by omega)]; exact h.bd r r0 r1 hr
  · rw [pg_mg hm d0 d1 i0 i1 r0 r1]
    rcases h.hd r r0 r1 hr with e | ⟨e, f⟩
    · exact .inl e
    · exact .inr ⟨e, fun j j0 j1 => (sl_mg hm d0 d1 i0 i1 r0 r1 j0 j1).trans (f j j0 j1)⟩
  · rw [sl_mg hm d0 d1 i0 i1 r0 r1 j0 j1]; exact h.sb r r0 r1 hr j j0 j1
  · rw [mg_mg hm d0 d1 i0 i1 c0 j0 j1, if_neg (fun e => hc e.1)]; exact h.mo c j c0 c1 hc j0 j1
  · rw [mg_mg hm d0 d1 i0 i1 d0 j0 j1]
    split
    · exact .inr rfl
    · exact h.md j j0 j1
/-- A slot is opened. -/
theorem Pt.opn (h : Pt s ws0 d ws) (d0 : 0 ≤ d) (h0 : 0 ≤ q) (h1 : q < s.p) (hk : pgK s q (pgAt s ws0 q) = 2) (i0 : 0 ≤ i) (i1 : i < 16) (hw : slAt s ws q i = way d) (hd1 : d ≤ 255) (ha : pgA s q (pgAt s ws0 q) ≤ 255) : Pt s ws0 d (upW ws (slot s.p s.c s.m q i) (Ma.opn (pgA s q (pgAt s ws0 q)))) := by
  have nh : ¬ HeldBy s ws0 d q := fun h2 => by have := h2.1; rw [hk] at this; cases this
  refine ⟨fun r r0 r1 n1 n2 => ?_, fun r r0 r1 hr => ?_, fun r r0 r1 hr => ?_, fun r r0 r1 hr j j0 j1 => ?_, fun c j c0 c1 hc j0 j1 => ?_, fun j j0 j1 => ?_⟩
  · rw [pg_sl hm h0 h1 i0 i1 r0 r1]; exact h.np r r0 r1 n1 n2
  · have hx := body_bd hr
    rw [pg_sl hm h0 h1 i0 i1 r0 r1, pg_sl hm h0 h1 i0 i1 hx.1 (by omega)]; exact h.bd r r0 r1 hr
  · rw [pg_sl hm h0 h1 i0 i1 r0 r1]
    rcases h.hd r r0 r1 hr with e | ⟨e, f⟩
    · exact .inl e
    · exact .inr ⟨e, fun j j0 j1 => by rw [sl_sl hm h0 h1 i0 i1 r0 j0 j1, if_neg (fun e => nh (by rw [← e.1]; exact hr))]; exact f j j0 j1⟩
  · rw [sl_sl hm h0 h1 i0 i1 r0 j0 j1]
    by_cases e : r = q ∧ j = i
    · rw [if_pos e]
      obtain ⟨rfl, rfl⟩ := e
      rcases h.sb r r0 r1 hr j j0 j1 with e | ⟨-, e, e2⟩
      · exact .inr ⟨hk, e ▸ hw, rfl⟩
      · exact .inr ⟨hk, e, rfl⟩
    · rw [if_neg e]; exact h.sb r r0 r1 hr j j0 j1
  · rw [mg_sl hm h0 h1 i0 i1 c0 j0]; exact h.mo c j c0 c1 hc j0 j1
  · rw [mg_sl hm h0 h1 i0 i1 d0 j0]; exact h.md j j0 j1
/-- A status is written. -/
theorem Pt.sta (h : Pt s ws0 d ws) (d0 : 0 ≤ d) {c : Int} (h0 : 0 ≤ c) (h1 : c < s.c) : Pt s ws0 d (upW ws (status s.p s.c s.m c) y) := by
  refine ⟨fun r r0 r1 n1 n2 => ?_, fun r r0 r1 hr => ?_, fun r r0 r1 hr => ?_, fun r r0 r1 hr j j0 j1 => ?_, fun c j c0 c1 hc j0 j1 => ?_, fun j j0 j1 => ?_⟩
  · rw [pg_st hm h0 h1 r0 r1]; exact h.np r r0 r1 n1 n2
  · have hx := body_bd hr
    rw [pg_st hm h0 h1 r0 r1, pg_st hm h0 h1 hx.1 (by omega)]; exact h.bd r r0 r1 hr
  · rw [pg_st hm h0 h1 r0 r1]
    rcases h.hd r r0 r1 hr with e | ⟨e, f⟩
    · exact .inl e
    · exact .inr ⟨e, fun j j0 j1 => (sl_st hm h0 h1 r0 j0).trans (f j j0 j1)⟩
  · rw [sl_st hm h0 h1 r0 j0]; exact h.sb r r0 r1 hr j j0 j1
  · rw [mg_st hm h0 h1 c0 j0]; exact h.mo c j c0 c1 hc j0 j1
  · rw [mg_st hm h0 h1 d0 j0]; exact h.md j j0 j1
end
end
end Go.Ma
