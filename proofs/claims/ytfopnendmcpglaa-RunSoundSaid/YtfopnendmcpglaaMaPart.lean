/-
  A dead one is adopted, in a heap that was sound, alone: what is touched on the way, each step, and what stands at the end. Conditions: none.
-/
import Derived.Test.YtfopnendmcpglaaMaAdoptTwo
import Derived.Test.YtfopnendmcpglaaMaFr
set_option linter.unusedVariables false
set_option linter.unusedSectionVars false
set_option linter.unusedSimpArgs false
namespace Go.Ma
open Go.Pl

section
variable (s : Sh) (ws0 : Nat → Int) (d : Int)
/-- The dead one holds a page; it is a body of one that it holds. -/
def HeldBy (q : Int) : Prop := pgK s q (pgAt s ws0 q) = 1 ∧ pgA s q (pgAt s ws0 q) = d
def BodyOf (q : Int) : Prop := pgK s q (pgAt s ws0 q) = 4 ∧ HeldBy s ws0 d (pgA s q (pgAt s ws0 q))
/-- What is touched, on the way. -/
structure Pt (ws : Nat → Int) : Prop where
  np : ∀ q, 0 ≤ q → q < s.p → ¬ HeldBy s ws0 d q → ¬ BodyOf s ws0 d q → pgAt s ws q = pgAt s ws0 q
  bd : ∀ q, 0 ≤ q → q < s.p → BodyOf s ws0 d q → pgAt s ws q = 0 ∨ (pgAt s ws q = pgAt s ws0 q ∧ pgAt s ws (pgA s q (pgAt s ws0 q)) = pgAt s ws0 (pgA s q (pgAt s ws0 q)))
  hd : ∀ q, 0 ≤ q → q < s.p → HeldBy s ws0 d q → pgAt s ws q = pgAt s ws0 q ∨ (pgAt s ws q = 0 ∧ ∀ i, 0 ≤ i → i < 16 → slAt s ws q i = 0)
  sb : ∀ q, 0 ≤ q → q < s.p → ¬ HeldBy s ws0 d q → ∀ i, 0 ≤ i → i < 16 → slAt s ws q i = slAt s ws0 q i ∨ (pgK s q (pgAt s ws0 q) = 2 ∧ slAt s ws0 q i = way d ∧ slAt s ws q i = opn (pgA s q (pgAt s ws0 q)))
  mo : ∀ c i, 0 ≤ c → c < s.c → c ≠ d → 0 ≤ i → i < s.m → mgAt s ws c i = mgAt s ws0 c i
  md : ∀ i, 0 ≤ i → i < s.m → mgAt s ws d i = mgAt s ws0 d i ∨ mgAt s ws d i = 0
def BD (ws : Nat → Int) (n : Int) : Prop := ∀ q, 0 ≤ q → q < n → BodyOf s ws0 d q → pgAt s ws q = 0
def HD (ws : Nat → Int) (n : Int) : Prop := ∀ q, 0 ≤ q → q < n → HeldBy s ws0 d q → pgAt s ws q = 0
def MD (ws : Nat → Int) (n : Int) : Prop := ∀ i, 0 ≤ i → i < n → mgAt s ws d i = 0
def SD (ws : Nat → Int) (n : Int) : Prop := ∀ q, 0 ≤ q → q < n → pgK s q (pgAt s ws0 q) = 2 → ∀ i, 0 ≤ i → i < 16 → slAt s ws q i ≠ way d
end
/-- What is left untouched by reading. -/
theorem Pt.self (s : Sh) (ws0 : Nat → Int) (d : Int) : Pt s ws0 d ws0 :=
  ⟨fun _ _ _ _ _ => rfl, fun _ _ _ _ => .inr ⟨rfl, rfl⟩, fun _ _ _ _ => .inl rfl, fun _ _ _ _ _ _ _ => .inl rfl, fun _ _ _ _ _ _ _ => rfl, fun _ _ _ => .inl rfl⟩

section
variable {s : Sh} {ws0 ws : Nat → Int} {d q i n y : Int}
theorem body_bd (h : BodyOf s ws0 d q) : 0 ≤ pgA s q (pgAt s ws0 q) ∧ pgA s q (pgAt s ws0 q) < q := by
  have := Ad.ok_body (pgK_ne (by rw [h.1]; decide)) h.1
  omega
theorem not_both (h : HeldBy s ws0 d q) : ¬ BodyOf s ws0 d q := fun h2 => by have := h.1; rw [h2.1] at this; cases this

section
variable (hm : may s.p s.c s.m = true)
include hm
/-- A body is emptied. -/
theorem Pt.cut (h : Pt s ws0 d ws) (h0 : 0 ≤ q) (h1 : q < s.p) (hb : BodyOf s ws0 d q) : Pt s ws0 d (upW ws (page s.p s.c s.m q) 0) := by
  refine ⟨fun r r0 r1 n1 n2 => ?_, fun r r0 r1 hr => ?_, fun r r0 r1 hr => ?_, fun r r0 r1 hr j j0 j1 => ?_, fun c j c0 c1 hc j0 j1 => ?_, fun j j0 j1 => ?_⟩
  · rw [pg_pg hm h0 h1 r0 r1, if_neg (fun e => by subst e; exact n2 hb)]; exact h.np r r0 r1 n1 n2
  · have hx := body_bd hr
    rw [pg_pg hm h0 h1 r0 r1]
    by_cases e : r = q
    · rw [if_pos e]; exact .inl rfl
    · rw [if_neg e, pg_pg hm h0 h1 hx.1 (by omega), if_neg (fun e2 => by have h2 := hr.2; rw [e2] at h2; exact not_both h2 hb)]
      exact h.bd r r0 r1 hr
  · rw [pg_pg hm h0 h1 r0 r1, if_neg (fun e => by subst e; exact not_both hr hb)]
    rcases h.hd r r0 r1 hr with e | ⟨e, f⟩
    · exact .inl e
    · exact .inr ⟨e, fun j j0 j1 => (sl_pg hm h0 h1 r0 j0).trans (f j j0 j1)⟩
  · rw [sl_pg hm h0 h1 r0 j0]; exact h.sb r r0 r1 hr j j0 j1
  · rw [mg_pg hm h0 h1 c0 j0]; exact h.mo c j c0 c1 hc j0 j1
  · by_cases hd0 : 0 ≤ d
    · rw [mg_pg hm h0 h1 hd0 j0]; exact h.md j j0 j1
    · have hx := hb.2
      have hk := hx.2
      have : 0 ≤ pgA s (pgA s q (pgAt s ws0 q)) (pgAt s ws0 (pgA s q (pgAt s ws0 q))) := by unfold pgA; split <;> (try (unfold pt; omega)) <;> omega
      omega
theorem pgA_nn (s : Sh) (q x : Int) : 0 ≤ pgA s q x := by
  unfold pgA
  split
  · unfold pt; omega
  · omega
/-- A page's slot is cleared. -/
theorem Pt.clr (h : Pt s ws0 d ws) (h0 : 0 ≤ q) (h1 : q < s.p) (hh : HeldBy s ws0 d q) (i0 : 0 ≤ i) (i1 : i < 16) : Pt s ws0 d (upW ws (slot s.p s.c s.m q i) 0) := by
  have hd0 : 0 ≤ d := by have := hh.2; have := pgA_nn hm s q (pgAt s ws0 q); omega
  refine ⟨fun r r0 r1 n1 n2 => ?_, fun r r0 r1 hr => ?_, fun r r0 r1 hr => ?_, fun r r0 r1 hr j j0 j1 => ?_, fun c j c0 c1 hc j0 j1 => ?_, fun j j0 j1 => ?_⟩
  · rw [pg_sl hm h0 h1 i0 i1 r0 r1]; exact h.np r r0 r1 n1 n2
  · have hx := body_bd hr
    rw [pg_sl hm h0 h1 i0 i1 r0 r1, pg_sl hm h0 h1 i0 i1 hx.1 (by omega)]; exact h.bd r r0 r1 hr
  · rw [pg_sl hm h0 h1 i0 i1 r0 r1]
    rcases h.hd r r0 r1 hr with e | ⟨e, f⟩
    · exact .inl e
    · refine .inr ⟨e, fun j j0 j1 => ?_⟩
      rw [sl_sl hm h0 h1 i0 i1 r0 j0 j1]
      split
      · rfl
      · exact f j j0 j1
  · rw [sl_sl hm h0 h1 i0 i1 r0 j0 j1, if_neg (fun e => hr (by rw [e.1]; exact hh))]; exact h.sb r r0 r1 hr j j0 j1
  · rw [mg_sl hm h0 h1 i0 i1 c0 j0]; exact h.mo c j c0 c1 hc j0 j1
  · rw [mg_sl hm h0 h1 i0 i1 hd0 j0]; exact h.md j j0 j1
/-- A page that is held is emptied. -/
theorem Pt.emp (h : Pt s ws0 d ws) (h0 : 0 ≤ q) (h1 : q < s.p) (hh : HeldBy s ws0 d q) (hb : BD s ws0 d ws s.p) (hz : ∀ i, 0 ≤ i → i < 16 → slAt s ws q i = 0) : Pt s ws0 d (upW ws (page s.p s.c s.m q) 0) := by
  have hd0 : 0 ≤ d := by have := hh.2; have := pgA_nn hm s q (pgAt s ws0 q); omega
  refine ⟨fun r r0 r1 n1 n2 => ?_, fun r r0 r1 hr => ?_, fun r r0 r1 hr => ?_, fun r r0 r1 hr j j0 j1 => ?_, fun c j c0 c1 hc j0 j1 => ?_, fun j j0 j1 => ?_⟩
  · rw [pg_pg hm h0 h1 r0 r1, if_neg (fun e => by subst e; exact n1 hh)]; exact h.np r r0 r1 n1 n2
  · left
    rw [pg_pg hm h0 h1 r0 r1]
    split
    · rfl
    · exact hb r r0 r1 hr
  · rw [pg_pg hm h0 h1 r0 r1]
    by_cases e : r = q
    · rw [if_pos e]; subst e; exact .inr ⟨rfl, fun j j0 j1 => (sl_pg hm h0 h1 r0 j0).trans (hz j j0 j1)⟩
    · rw [if_neg e]
      rcases h.hd r r0 r1 hr with e | ⟨e, f⟩
      · exact .inl e
      · exact .inr ⟨e, fun j j0 j1 => (sl_pg hm h0 h1 r0 j0).trans (f j j0 j1)⟩
  · rw [sl_pg hm h0 h1 r0 j0]; exact h.sb r r0 r1 hr j j0 j1
  · rw [mg_pg hm h0 h1 c0 j0]; exact h.mo c j c0 c1 hc j0 j1
  · rw [mg_pg hm h0 h1 hd0 j0]; exact h.md j j0 j1
/-- An entry is emptied. -/
theorem Pt.mag (h : Pt s ws0 d ws) (d0 : 0 ≤ d) (d1 : d < s.c) (i0 : 0 ≤ i) (i1 : i < s.m) : Pt s ws0 d (upW ws (mag s.p s.c s.m d i) 0) := by
  refine ⟨fun r r0 r1 n1 n2 => ?_, fun r r0 r1 hr => ?_, fun r r0 r1 hr => ?_, fun r r0 r1 hr j j0 j1 => ?_, fun c j c0 c1 hc j0 j1 => ?_, fun j j0 j1 => ?_⟩
  · rw [pg_mg hm d0 d1 i0 i1 r0 r1]; exact h.np r r0 r1 n1 n2
  · have hx := body_bd hr
    rw [pg_mg hm d0 d1 i0 i1 r0 r1, pg_mg hm d0 d1 i0 i1 hx.1 (by omega)]; exact h.bd r r0 r1 hr
  · rw [pg_mg hm d0 d1 i0 i1 r0 r1]
    rcases h.hd r r0 r1 hr with e | ⟨e, f⟩
    · exact .inl e
    · exact .inr ⟨e, fun j j0 j1 => (sl_mg hm d0 d1 i0 i1 r0 r1 j0 j1).trans (f j j0 j1)⟩
  · rw [sl_mg hm d0 d1 i0 i1 r0 r1 j0 j1]; exact h.sb r r0 r1 hr j j0 j1
  · rw [mg_mg hm d0 d1 i0 i1 c0 j0 j1, if_neg (fun e => hc e.1)]; exact h.mo c j c0 c1 hc j0 j1
  · rw [mg_mg hm d0 d1 i0 i1 d0 j0 j1]
    split
    · exact .inr rfl
    · exact h.md j j0 j1
/-- A slot is opened. -/
theorem Pt.opn (h : Pt s ws0 d ws) (d0 : 0 ≤ d) (h0 : 0 ≤ q) (h1 : q < s.p) (hk : pgK s q (pgAt s ws0 q) = 2) (i0 : 0 ≤ i) (i1 : i < 16) (hw : slAt s ws q i = way d) (hd1 : d ≤ 255) (ha : pgA s q (pgAt s ws0 q) ≤ 255) : Pt s ws0 d (upW ws (slot s.p s.c s.m q i) (Ma.opn (pgA s q (pgAt s ws0 q)))) := by
  have nh : ¬ HeldBy s ws0 d q := fun h2 => by have := h2.1; rw [hk] at this; cases this
  refine ⟨fun r r0 r1 n1 n2 => ?_, fun r r0 r1 hr => ?_, fun r r0 r1 hr => ?_, fun r r0 r1 hr j j0 j1 => ?_, fun c j c0 c1 hc j0 j1 => ?_, fun j j0 j1 => ?_⟩
  · rw [pg_sl hm h0 h1 i0 i1 r0 r1]; exact h.np r r0 r1 n1 n2
  · have hx := body_bd hr
    rw [pg_sl hm h0 h1 i0 i1 r0 r1, pg_sl hm h0 h1 i0 i1 hx.1 (by omega)]; exact h.bd r r0 r1 hr
  · rw [pg_sl hm h0 h1 i0 i1 r0 r1]
    rcases h.hd r r0 r1 hr with e | ⟨e, f⟩
    · exact .inl e
    · exact .inr ⟨e, fun j j0 j1 => by rw [sl_sl hm h0 h1 i0 i1 r0 j0 j1, if_neg (fun e => nh (by rw [← e.1]; exact hr))]; exact f j j0 j1⟩
  · rw [sl_sl hm h0 h1 i0 i1 r0 j0 j1]
    by_cases e : r = q ∧ j = i
    · rw [if_pos e]
      obtain ⟨rfl, rfl⟩ := e
      rcases h.sb r r0 r1 hr j j0 j1 with e | ⟨-, e, e2⟩
      · exact .inr ⟨hk, e ▸ hw, rfl⟩
      · exact .inr ⟨hk, e, rfl⟩
    · rw [if_neg e]; exact h.sb r r0 r1 hr j j0 j1
  · rw [mg_sl hm h0 h1 i0 i1 c0 j0]; exact h.mo c j c0 c1 hc j0 j1
  · rw [mg_sl hm h0 h1 i0 i1 d0 j0]; exact h.md j j0 j1
/-- A status is written. -/
theorem Pt.sta (h : Pt s ws0 d ws) (d0 : 0 ≤ d) {c : Int} (h0 : 0 ≤ c) (h1 : c < s.c) : Pt s ws0 d (upW ws (status s.p s.c s.m c) y) := by
  refine ⟨fun r r0 r1 n1 n2 => ?_, fun r r0 r1 hr => ?_, fun r r0 r1 hr => ?_, fun r r0 r1 hr j j0 j1 => ?_, fun c j c0 c1 hc j0 j1 => ?_, fun j j0 j1 => ?_⟩
  · rw [pg_st hm h0 h1 r0 r1]; exact h.np r r0 r1 n1 n2
  · have hx := body_bd hr
    rw [pg_st hm h0 h1 r0 r1, pg_st hm h0 h1 hx.1 (by omega)]; exact h.bd r r0 r1 hr
  · rw [pg_st hm h0 h1 r0 r1]
    rcases h.hd r r0 r1 hr with e | ⟨e, f⟩
    · exact .inl e
    · exact .inr ⟨e, fun j j0 j1 => (sl_st hm h0 h1 r0 j0).trans (f j j0 j1)⟩
  · rw [sl_st hm h0 h1 r0 j0]; exact h.sb r r0 r1 hr j j0 j1
  · rw [mg_st hm h0 h1 c0 j0]; exact h.mo c j c0 c1 hc j0 j1
  · rw [mg_st hm h0 h1 d0 j0]; exact h.md j j0 j1
end
end
end Go.Ma

namespace Go.Ma
open Go.Pl
section
variable {s : Sh} {ws0 ws : Nat → Int} {d q i n y : Int}
theorem Pt.or0 (h : Pt s ws0 d ws) (h0 : 0 ≤ q) (h1 : q < s.p) : pgAt s ws q = pgAt s ws0 q ∨ pgAt s ws q = 0 := by
  by_cases hh : HeldBy s ws0 d q
  · exact (h.hd q h0 h1 hh).imp_right fun e => e.1
  · by_cases hb : BodyOf s ws0 d q
    · rcases h.bd q h0 h1 hb with e | e
      · exact .inr e
      · exact .inl e.1
    · exact .inl (h.np q h0 h1 hh hb)
theorem Pt.cur (h : Pt s ws0 d ws) (h0 : 0 ≤ q) (h1 : q < s.p) (hk : pgK s q (pgAt s ws q) ≠ 0) : pgAt s ws q = pgAt s ws0 q := by
  rcases h.or0 h0 h1 with e | e
  · exact e
  · rw [e, pgK_zero] at hk; exact absurd rfl hk
theorem BD.next (h : BD s ws0 d ws n) (hn : BodyOf s ws0 d n → pgAt s ws n = 0) : BD s ws0 d ws (n + 1) := fun q h0 h1 hb => by
  by_cases e : q = n
  · subst e; exact hn hb
  · exact h q h0 (by omega) hb
theorem HD.next (h : HD s ws0 d ws n) (hn : HeldBy s ws0 d n → pgAt s ws n = 0) : HD s ws0 d ws (n + 1) := fun q h0 h1 hb => by
  by_cases e : q = n
  · subst e; exact hn hb
  · exact h q h0 (by omega) hb
theorem SD.next (h : SD s ws0 d ws n) (hn : pgK s n (pgAt s ws0 n) = 2 → ∀ i, 0 ≤ i → i < 16 → slAt s ws n i ≠ way d) : SD s ws0 d ws (n + 1) := fun q h0 h1 hb => by
  by_cases e : q = n
  · subst e; exact hn hb
  · exact h q h0 (by omega) hb
/-- Slots behind the last one are 0. -/
theorem Snd.behind (h : Snd s ws0) (h0 : 0 ≤ q) (h1 : q < s.p) (hk : pgK s q (pgAt s ws0 q) = 2) (i0 : slots (pgA s q (pgAt s ws0 q)) ≤ i) (i1 : i < 16) : slAt s ws0 q i = 0 := by
  have hb := slots_bd (pgA s q (pgAt s ws0 q))
  have e := (h.pg q.toNat (by omega)).2.sup (by rw [show ((q.toNat : Nat) : Int) = q by omega]; exact beq_iff_eq.2 hk) i.toNat (by omega)
  rw [show ((q.toNat : Nat) : Int) = q by omega, show ((i.toNat : Nat) : Int) = i by omega] at e
  unfold slB at e
  rw [decide_eq_false (by omega)] at e
  simpa using e
end

namespace Ad
/-- How far it is. -/
inductive Pa (s : Sh) (ws0 : Nat → Int) (d : Int) (g0 : Int → Int) (t : Ad) (w : Wd) : Prop
  | p0 (hd : t.dn = false) (hn : t.nx = 0) (hx : w.get d = g0 d)
  | p1 (hd : t.dn = false) (hn : t.nx = 1) (hx : w.get d = g0 d) (hw : t.was = g0 d) (hk : stK (g0 d) = 3) (hb : t.by' = stB (g0 d))
  | p2 (hd : t.dn = false) (hn : t.nx = 2) (hx : w.get d = g0 d) (hw : t.was = g0 d)
  | p3 (hd : t.dn = false) (hn : t.nx = 3) (b : BD s ws0 d w.ws t.at')
  | p4 (hd : t.dn = false) (hn : t.nx = 4) (b : BD s ws0 d w.ws t.at') (hk : pgK s t.at' (pgAt s w.ws t.at') = 4) (hA : t.pA = pgA s t.at' (pgAt s w.ws t.at'))
  | p5 (hd : t.dn = false) (hn : t.nx = 5) (b : BD s ws0 d w.ws t.at') (ho : BodyOf s ws0 d t.at')
  | p6 (hd : t.dn = false) (hn : t.nx = 6) (b : BD s ws0 d w.ws s.p) (h : HD s ws0 d w.ws t.at')
  | p7 (hd : t.dn = false) (hn : t.nx = 7) (b : BD s ws0 d w.ws s.p) (h : HD s ws0 d w.ws t.at') (ho : HeldBy s ws0 d t.at') (z : ∀ j, 0 ≤ j → j < t.i → slAt s w.ws t.at' j = 0)
  | p8 (hd : t.dn = false) (hn : t.nx = 8) (b : BD s ws0 d w.ws s.p) (h : HD s ws0 d w.ws t.at') (ho : HeldBy s ws0 d t.at') (z : ∀ j, 0 ≤ j → j < 16 → slAt s w.ws t.at' j = 0)
  | p9 (hd : t.dn = false) (hn : t.nx = 9) (b : BD s ws0 d w.ws s.p) (h : HD s ws0 d w.ws s.p) (m : MD s d w.ws t.i) (ha : t.at' = 0)
  | p10 (hd : t.dn = false) (hn : t.nx = 10) (b : BD s ws0 d w.ws s.p) (h : HD s ws0 d w.ws s.p) (m : MD s d w.ws s.m) (x : SD s ws0 d w.ws t.at')
  | p11 (hd : t.dn = false) (hn : t.nx = 11) (b : BD s ws0 d w.ws s.p) (h : HD s ws0 d w.ws s.p) (m : MD s d w.ws s.m) (x : SD s ws0 d w.ws t.at') (hk : pgK s t.at' (pgAt s ws0 t.at') = 2) (hA : t.pA = pgA s t.at' (pgAt s ws0 t.at')) (z : ∀ j, 0 ≤ j → j < t.i → slAt s w.ws t.at' j ≠ way d)
  | p12 (hd : t.dn = false) (hn : t.nx = 12) (b : BD s ws0 d w.ws s.p) (h : HD s ws0 d w.ws s.p) (m : MD s d w.ws s.m) (x : SD s ws0 d w.ws t.at') (hk : pgK s t.at' (pgAt s ws0 t.at') = 2) (hA : t.pA = pgA s t.at' (pgAt s ws0 t.at')) (z : ∀ j, 0 ≤ j → j < t.i → slAt s w.ws t.at' j ≠ way d) (hw : slAt s w.ws t.at' t.i = way d)
  | p13 (hd : t.dn = false) (hn : t.nx = 13) (b : BD s ws0 d w.ws s.p) (h : HD s ws0 d w.ws s.p) (m : MD s d w.ws s.m) (x : SD s ws0 d w.ws s.p)
  | en (hd : t.dn = true) (he : t.err = 0) (hx : w.get d = putSt 4 0) (b : BD s ws0 d w.ws s.p) (h : HD s ws0 d w.ws s.p) (m : MD s d w.ws s.m) (x : SD s ws0 d w.ws s.p)
/-- Whom it adopts is dead, or was adopted by one who is dead. -/
def Win (s : Sh) (g0 : Int → Int) (d : Int) : Prop := stK (g0 d) = 2 ∨ (stK (g0 d) = 3 ∧ 0 ≤ stB (g0 d) ∧ stB (g0 d) < s.c ∧ stB (g0 d) ≠ d ∧ stK (g0 (stB (g0 d))) ≠ 1)
structure Adp (s : Sh) (ws0 : Nat → Int) (c d : Int) (g0 : Int → Int) (t : Ad) (w : Wd) : Prop where
  of : w.of s
  ok : may s.p s.c s.m = true
  wf : t.wf ∧ t.s = s ∧ t.c = c ∧ t.d = d
  cd : 0 ≤ d ∧ d < s.c
  wi : Win s g0 d
  snd : Snd s ws0
  pt : Pt s ws0 d w.ws
  st : ∀ x, 0 ≤ x → x < s.c → x ≠ d → w.get x = g0 x
  ph : Pa s ws0 d g0 t w
variable {s : Sh} {ws0 : Nat → Int} {c d : Int} {g0 : Int → Int} {t : Ad} {w : Wd}
theorem turn_or (t : Ad) (a b : Int) : (t.turn a b).dn = t.dn ∧ (t.turn a b).pA = t.pA ∧ ((t.at' + 1 = t.s.p ∧ (t.turn a b).at' = 0 ∧ (t.turn a b).i = 0 ∧ (t.turn a b).nx = if b = 9 ∧ t.s.m = 0 then 10 else b) ∨ (t.at' + 1 ≠ t.s.p ∧ (t.turn a b).at' = t.at' + 1 ∧ (t.turn a b).nx = a)) := by
  unfold turn
  by_cases h : t.at' + 1 = t.s.p
  · rw [if_pos h]; exact ⟨rfl, rfl, .inl ⟨h, rfl, rfl, rfl⟩⟩
  · rw [if_neg h]; exact ⟨rfl, rfl, .inr ⟨h, rfl, rfl⟩⟩
theorem own_of {q x : Int} (h : pgK s q x = 1) (h2 : pgA s q x = t.d) (hs : t.s = s) : t.own q x = true := by
  unfold own; rw [hs, pgK_ne (by rw [h]; decide), decide_eq_true h, decide_eq_true h2]; rfl
theorem own_is {q x : Int} (h : t.own q x = true) (hs : t.s = s) : pgK s q x = 1 ∧ pgA s q x = t.d := by
  unfold own at h; rw [hs] at h
  simp only [Bool.and_eq_true, decide_eq_true_eq] at h
  exact h.2
section
variable (hts : t.s = s) (hd : t.dn = false)
include hts hd
/-- Behind a page, while bodies are looked at. -/
theorem to3 {u : Ad} (hu : u = t.turn 3 6) (b : BD s ws0 d w.ws (t.at' + 1)) (w' : Wd) (hw : w'.ws = w.ws) : Pa s ws0 d g0 u w' := by
  subst hu
  obtain ⟨e1, e2, ⟨h1, e3, e4, e5⟩ | ⟨h1, e3, e5⟩⟩ := turn_or t 3 6
  · rw [if_neg (by omega)] at e5
    exact .p6 (e1.trans hd) e5 (by rw [hw]; rw [← hts, ← h1]; rw [hts]; exact b) (by rw [e3]; intro q h0 h1; omega)
  · exact .p3 (e1.trans hd) e5 (by rw [e3, hw]; exact b)
theorem to6 {u : Ad} (hu : u = t.turn 6 9) (b : BD s ws0 d w.ws s.p) (h : HD s ws0 d w.ws (t.at' + 1)) (w' : Wd) (hw : w'.ws = w.ws) : Pa s ws0 d g0 u w' := by
  subst hu
  obtain ⟨e1, e2, ⟨h1, e3, e4, e5⟩ | ⟨h1, e3, e5⟩⟩ := turn_or t 6 9
  · have h' : HD s ws0 d w'.ws s.p := by rw [hw]; rw [← hts, ← h1]; rw [hts]; exact h
    by_cases hm : t.s.m = 0
    · rw [if_pos ⟨rfl, hm⟩] at e5
      exact .p10 (e1.trans hd) e5 (by rw [hw]; exact b) h' (by rw [← hts, hm]; intro q h0 h1; omega) (by rw [e3]; intro q h0 h1; omega)
    · rw [if_neg (fun x => hm x.2)] at e5
      exact .p9 (e1.trans hd) e5 (by rw [hw]; exact b) h' (by rw [e4]; intro q h0 h1; omega) e3
  · exact .p6 (e1.trans hd) e5 (by rw [hw]; exact b) (by rw [e3, hw]; exact h)
theorem to10 {u : Ad} (hu : u = t.turn 10 13) (b : BD s ws0 d w.ws s.p) (h : HD s ws0 d w.ws s.p) (m : MD s d w.ws s.m) (x : SD s ws0 d w.ws (t.at' + 1)) (w' : Wd) (hw : w'.ws = w.ws) : Pa s ws0 d g0 u w' := by
  subst hu
  obtain ⟨e1, e2, ⟨h1, e3, e4, e5⟩ | ⟨h1, e3, e5⟩⟩ := turn_or t 10 13
  · rw [if_neg (by omega)] at e5
    exact .p13 (e1.trans hd) e5 (by rw [hw]; exact b) (by rw [hw]; exact h) (by rw [hw]; exact m) (by rw [hw]; rw [← hts, ← h1]; rw [hts]; exact x)
  · exact .p10 (e1.trans hd) e5 (by rw [hw]; exact b) (by rw [hw]; exact h) (by rw [hw]; exact m) (by rw [e3, hw]; exact x)
end
theorem slot_to (hts : t.s = s) (hd : t.dn = false) (hsn : Snd s ws0) (hpt : Pt s ws0 d w.ws) (hat : 0 ≤ t.at' ∧ t.at' < s.p) (hdd : 0 ≤ d ∧ d ≤ 255) (b : BD s ws0 d w.ws s.p) (h : HD s ws0 d w.ws s.p) (m : MD s d w.ws s.m) (x : SD s ws0 d w.ws t.at') (hk : pgK s t.at' (pgAt s ws0 t.at') = 2)
    (hA : t.pA = pgA s t.at' (pgAt s ws0 t.at')) (z : ∀ j, 0 ≤ j → j < t.i + 1 → slAt s w.ws t.at' j ≠ way d) (w' : Wd) (hw : w'.ws = w.ws) : Pa s ws0 d g0 t.slot w' := by
  unfold slot
  by_cases e : t.i + 1 = slots t.pA
  · rw [if_pos e]
    refine to10 (t := { t with i := 0, di := t.di + 1, nx := 11 }) hts hd rfl b h m (x.next fun _ j j0 j1 => ?_) w' hw
    by_cases hj : j < t.i + 1
    · exact z j j0 hj
    · have hz := hsn.behind hat.1 hat.2 hk (i := j) (by rw [← hA]; omega) j1
      have wn := (way_ne d hdd.1 hdd.2).1
      rcases hpt.sb t.at' hat.1 hat.2 (fun h2 => by have := h2.1; rw [hk] at this; cases this) j j0 j1 with e2 | ⟨-, e2, -⟩
      · show slAt s w.ws t.at' j ≠ way d; rw [e2, hz]; exact fun e => wn e.symm
      · rw [hz] at e2; exact absurd e2.symm wn
  · rw [if_neg e]
    exact .p11 hd rfl (by rw [hw]; exact b) (by rw [hw]; exact h) (by rw [hw]; exact m) (by rw [hw]; exact x) hk hA (by rw [hw]; exact z)
end Ad
end Go.Ma

namespace Go.Ma
open Go.Pl
namespace Ad
variable {s : Sh} {ws0 : Nat → Int} {c d : Int} {g0 : Int → Int} {t : Ad} {w : Wd}
theorem get_far {w : Wd} {c a y x : Int} (h0 : 0 ≤ x) (h1 : x < a) : (w.store c a y).get x = w.get x := by rw [get_store (by omega) h0, if_neg (by omega)]
set_option maxHeartbeats 1000000 in
theorem Adp.step (h : Adp s ws0 c d g0 t w) : Adp s ws0 c d g0 (t.step w).1 (t.step w).2 := by
  obtain ⟨w1, w2, w3, w4⟩ := h.wf
  have hm := h.ok
  have hkp := step_k t w
  have hb := (may_iff _ _ _).1 hm
  have hcd := h.cd
  have hpt := h.pt
  have hdat : t.dat = d := by unfold dat; rw [w2, w4]; exact st_place hm hcd.1 hcd.2
  suffices hh : Pt s ws0 d (t.step w).2.ws ∧ (∀ x, 0 ≤ x → x < s.c → x ≠ d → (t.step w).2.get x = w.get x) ∧ Pa s ws0 d g0 (t.step w).1 (t.step w).2 from
    ⟨step_of h.of, hm, ⟨step_wf w1 h.of.u, hkp.1.trans w2, hkp.2.1.trans w3, hkp.2.2.trans w4⟩, hcd, h.wi, h.snd, hh.1, fun x x0 x1 x2 => (hh.2.1 x x0 x1 x2).trans (h.st x x0 x1 x2), hh.2.2⟩
  have bnd : t.dn = false → 0 ≤ t.at' ∧ t.at' < s.p ∧ 0 ≤ t.i ∧ t.i ≤ 16 ∧ (t.nx = 7 → t.i < 16) ∧ (t.nx = 9 → t.i < s.m) ∧ (t.nx = 11 ∨ t.nx = 12 → t.i < slots t.pA) ∧ (t.nx = 4 → 0 ≤ t.pA ∧ t.pA < t.at') := fun hd => by
    obtain ⟨a1, a2, a3, a4⟩ := w1.of hd
    unfold Ar at a4
    rw [w2] at a4
    exact ⟨by omega, by omega, by omega, by omega, fun e => by have := a4; omega, fun e => by have := a4; omega, fun e => by have := a4; omega, fun e => by have := a4; omega⟩
  have hpat : t.pat = page s.p s.c s.m t.at' := by unfold pat; rw [w2]
  have hgp : w.get t.pat = pgAt s w.ws t.at' := by rw [hpat]; rfl
  have hsat : t.sat = Pl.slot s.p s.c s.m t.at' t.i := by unfold sat; rw [w2]
  cases h.ph with
  | p0 hd hn hx =>
    rw [s0 hd hn]
    refine ⟨hpt, fun x _ _ _ => rfl, ?_⟩
    show Pa s ws0 d g0 (t.ask (w.get t.dat)) (w.load t.c t.dat)
    rw [hdat, hx]
    unfold ask
    rcases h.wi with h2 | ⟨h3, k0, k1, k2, k3⟩
    · rw [if_pos h2]; exact .p2 hd rfl hx rfl
    · rw [if_neg (by omega), if_pos h3, w2, st_place hm k0 k1, if_neg (by omega)]
      exact .p1 hd rfl hx rfl h3 rfl
  | p1 hd hn hx hw hk hb' =>
    rw [s1 hd hn]
    refine ⟨hpt, fun x _ _ _ => rfl, ?_⟩
    show Pa s ws0 d g0 (t.other (w.get t.bat)) (w.load t.c t.bat)
    rcases h.wi with h2 | ⟨h3, k0, k1, k2, k3⟩
    · omega
    · have hbat : t.bat = stB (g0 d) := by unfold bat; rw [w2, hb']; exact st_place hm k0 k1
      rw [hbat, h.st _ k0 k1 k2]
      unfold other
      rw [if_neg k3]
      exact .p2 hd rfl hx hw
  | p2 hd hn hx hw =>
    have hsw : (w.swap t.c t.dat t.was (putSt 3 t.c)).ws = upW w.ws (status s.p s.c s.m d) (putSt 3 t.c) := by
      rw [swap_yes (by rw [hdat, hw]; exact hx)]; unfold dat; rw [w2, w4]
    rw [s2 hd hn]
    refine ⟨?_, fun x x0 x1 x2 => ?_, ?_⟩
    · show Pt s ws0 d (w.swap t.c t.dat t.was (putSt 3 t.c)).ws
      rw [hsw]; exact hpt.sta hm hcd.1 hcd.1 hcd.2
    · show (w.swap t.c t.dat t.was (putSt 3 t.c)).get x = _
      rw [hdat, get_swap hcd.1 x0, if_neg x2]
    · show Pa s ws0 d g0 (t.claim (w.get t.dat)) _
      unfold claim
      rw [if_pos (by rw [hdat, hw]; exact hx)]
      refine .p3 hd rfl ?_
      have ha : t.at' = 0 := by
        obtain ⟨a1, a2, a3, a4⟩ := w1.of hd
        unfold Ar at a4; omega
      show BD s ws0 d _ t.at'
      rw [ha]; intro q q0 q1; omega
  | p3 hd hn b =>
    obtain ⟨a0, a1, -⟩ := bnd hd
    rw [s3 hd hn]
    refine ⟨hpt, fun x _ _ _ => rfl, ?_⟩
    show Pa s ws0 d g0 (t.bodies (w.get t.pat)) (w.load t.c t.pat)
    rw [hgp]
    unfold bodies
    by_cases e : t.isB (pgAt s w.ws t.at') = true
    · rw [if_pos e]
      unfold isB at e
      rw [w2] at e
      simp only [Bool.and_eq_true, decide_eq_true_eq] at e
      exact .p4 hd rfl b e.2 (by show pgA t.s t.at' (pgAt s w.ws t.at') = pgA s t.at' (pgAt s w.ws t.at'); rw [w2])
    · rw [if_neg e]
      refine to3 (t := t.read (pgAt s w.ws t.at')) w2 hd rfl (b.next fun ho => ?_) _ rfl
      rcases hpt.bd t.at' a0 a1 ho with e2 | ⟨e2, -⟩
      · exact e2
      · refine absurd ?_ e
        unfold isB
        rw [w2, e2, pgK_ne (by rw [ho.1]; decide), decide_eq_true ho.1]; rfl
  | p4 hd hn b hk hA =>
    obtain ⟨a0, a1, -, -, -, -, -, q4⟩ := bnd hd
    obtain ⟨q0, q1⟩ := q4 hn
    have hhat : t.hat = page s.p s.c s.m t.pA := by unfold hat; rw [w2]
    have hgh : w.get t.hat = pgAt s w.ws t.pA := by rw [hhat]; rfl
    have hcur := hpt.cur a0 a1 (by rw [hk]; decide)
    rw [s4 hd hn]
    refine ⟨hpt, fun x _ _ _ => rfl, ?_⟩
    show Pa s ws0 d g0 (t.head (w.get t.hat)) (w.load t.c t.hat)
    rw [hgh]
    unfold head
    by_cases e : t.own t.pA (pgAt s w.ws t.pA) = true
    · rw [if_pos e]
      obtain ⟨e1, e2⟩ := own_is e w2
      have hc2 := hpt.cur q0 (by omega) (by rw [e1]; decide)
      refine .p5 hd rfl b ⟨by rw [← hcur]; exact hk, ?_⟩
      show HeldBy s ws0 d (pgA s t.at' (pgAt s ws0 t.at'))
      rw [← hcur, ← hA]
      exact ⟨by rw [← hc2]; exact e1, by rw [← hc2, e2]; exact w4⟩
    · rw [if_neg e]
      refine to3 (t := t) w2 hd rfl (b.next fun ho => ?_) _ rfl
      rcases hpt.bd t.at' a0 a1 ho with e2 | ⟨e2, e3⟩
      · exact e2
      · refine absurd ?_ e
        rw [e2] at hA
        rw [← hA] at e3
        have h1 := ho.2
        rw [← hA] at h1
        rw [e3]
        exact own_of h1.1 (h1.2.trans w4.symm) w2
  | p5 hd hn b ho =>
    obtain ⟨a0, a1, -⟩ := bnd hd
    rw [s5 hd hn]
    have hc1 := hpt.cut hm a0 a1 ho
    refine ⟨?_, fun x x0 x1 x2 => ?_, ?_⟩
    · show Pt s ws0 d (upW w.ws t.pat 0); rw [hpat]; exact hc1
    · exact get_far x0 (by rw [hpat, page_yes hm a0 a1]; omega)
    · refine to3 (t := t) w2 hd rfl ?_ _ rfl
      show BD s ws0 d (upW w.ws t.pat 0) (t.at' + 1)
      rw [hpat]
      intro q q0 q1 hq
      rw [pg_pg hm a0 a1 q0 (by omega)]
      split
      · rfl
      · exact b q q0 (by omega) hq
  | p6 hd hn b hh =>
    obtain ⟨a0, a1, -⟩ := bnd hd
    rw [s6 hd hn]
    refine ⟨hpt, fun x _ _ _ => rfl, ?_⟩
    show Pa s ws0 d g0 (t.pages (w.get t.pat)) (w.load t.c t.pat)
    rw [hgp]
    unfold pages
    by_cases e : t.own t.at' (pgAt s w.ws t.at') = true
    · rw [if_pos e]
      obtain ⟨e1, e2⟩ := own_is e w2
      have hc2 := hpt.cur a0 a1 (by rw [e1]; decide)
      exact .p7 hd rfl b hh ⟨by rw [← hc2]; exact e1, by rw [← hc2, e2]; exact w4⟩ (fun j j0 j1 => by have j1 : j < 0 := j1; omega)
    · rw [if_neg e]
      refine to6 (t := t) w2 hd rfl b (hh.next fun ho => ?_) _ rfl
      rcases hpt.hd t.at' a0 a1 ho with e2 | ⟨e2, -⟩
      · refine absurd ?_ e
        rw [e2]; exact own_of ho.1 (ho.2.trans w4.symm) w2
      · exact e2
  | p7 hd hn b hh ho z =>
    obtain ⟨a0, a1, i0, -, i7, -⟩ := bnd hd
    have i1 := i7 hn
    rw [s7 hd hn]
    have hc1 := hpt.clr hm a0 a1 ho i0 i1
    have tb : ∀ n, n ≤ s.p → BD s ws0 d w.ws n → BD s ws0 d (upW w.ws t.sat 0) n := fun n hn b q q0 q1 hq => by
      rw [hsat, pg_sl hm a0 a1 i0 i1 q0 (by omega)]; exact b q q0 q1 hq
    have th : ∀ n, n ≤ s.p → HD s ws0 d w.ws n → HD s ws0 d (upW w.ws t.sat 0) n := fun n hn b q q0 q1 hq => by
      rw [hsat, pg_sl hm a0 a1 i0 i1 q0 (by omega)]; exact b q q0 q1 hq
    have hz : ∀ j, 0 ≤ j → j < t.i + 1 → slAt s (upW w.ws t.sat 0) t.at' j = 0 := fun j j0 j1 => by
      rw [hsat, sl_sl hm a0 a1 i0 i1 a0 j0 (by omega)]
      split
      · rfl
      · exact z j j0 (by omega)
    refine ⟨?_, fun x x0 x1 x2 => ?_, ?_⟩
    · show Pt s ws0 d (upW w.ws t.sat 0); rw [hsat]; exact hc1
    · exact get_far x0 (by rw [hsat, slot_yes hm a0 a1 i0 i1]; omega)
    · show Pa s ws0 d g0 t.clear _
      by_cases e : t.i + 1 = 16
      · exact .p8 hd (by show (if t.i + 1 = 16 then (8 : Int) else 7) = 8; rw [if_pos e]) (tb _ (Int.le_refl _) b) (th _ (by show t.at' ≤ s.p; omega) hh) ho (fun j j0 j1 => hz j j0 (by omega))
      · exact .p7 hd (by show (if t.i + 1 = 16 then (8 : Int) else 7) = 7; rw [if_neg e]) (tb _ (Int.le_refl _) b) (th _ (by show t.at' ≤ s.p; omega) hh) ho hz
  | p8 hd hn b hh ho z =>
    obtain ⟨a0, a1, -⟩ := bnd hd
    rw [s8 hd hn]
    have hc1 := hpt.emp hm a0 a1 ho b z
    refine ⟨?_, fun x x0 x1 x2 => ?_, ?_⟩
    · show Pt s ws0 d (upW w.ws t.pat 0); rw [hpat]; exact hc1
    · exact get_far x0 (by rw [hpat, page_yes hm a0 a1]; omega)
    · refine to6 (t := t) w2 hd rfl ?_ ?_ _ rfl
      · show BD s ws0 d (upW w.ws t.pat 0) s.p
        rw [hpat]
        intro q q0 q1 hq
        rw [pg_pg hm a0 a1 q0 (by omega)]
        split
        · rfl
        · exact b q q0 (by omega) hq
      · show HD s ws0 d (upW w.ws t.pat 0) (t.at' + 1)
        rw [hpat]
        intro q q0 q1 hq
        rw [pg_pg hm a0 a1 q0 (by omega)]
        split
        · rfl
        · exact hh q q0 (by omega) hq
  | p9 hd hn b hh m ha =>
    obtain ⟨a0, a1, i0, -, -, i9, -⟩ := bnd hd
    have i1 := i9 hn
    have hmat : t.mat = mag s.p s.c s.m d t.i := by unfold mat; rw [w2, w4]
    rw [s9 hd hn]
    have hc1 := hpt.mag hm hcd.1 hcd.2 i0 i1
    have tb : BD s ws0 d (upW w.ws t.mat 0) s.p := fun q q0 q1 hq => by
      rw [hmat, pg_mg hm hcd.1 hcd.2 i0 i1 q0 q1]; exact b q q0 q1 hq
    have th : HD s ws0 d (upW w.ws t.mat 0) s.p := fun q q0 q1 hq => by
      rw [hmat, pg_mg hm hcd.1 hcd.2 i0 i1 q0 q1]; exact hh q q0 q1 hq
    have hz : MD s d (upW w.ws t.mat 0) (t.i + 1) := fun j j0 j1 => by
      rw [hmat, mg_mg hm hcd.1 hcd.2 i0 i1 hcd.1 j0 (by omega)]
      split
      · rfl
      · exact m j j0 (by omega)
    refine ⟨?_, fun x x0 x1 x2 => ?_, ?_⟩
    · show Pt s ws0 d (upW w.ws t.mat 0); rw [hmat]; exact hc1
    · have := Int.mul_nonneg hcd.1 (by omega : 0 ≤ s.m)
      exact get_far x0 (by rw [hmat, mag_yes hm hcd.1 hcd.2 i0 i1]; omega)
    · show Pa s ws0 d g0 t.entry _
      unfold entry
      by_cases e : t.i + 1 = t.s.m
      · rw [if_pos e]
        refine .p10 hd rfl tb th (by rw [← w2, ← e]; rw [w2]; exact hz) ?_
        show SD s ws0 d _ t.at'
        rw [ha]; intro q q0 q1; omega
      · rw [if_neg e]
        exact .p9 hd hn tb th hz ha
  | p10 hd hn b hh m x =>
    obtain ⟨a0, a1, -⟩ := bnd hd
    rw [s10 hd hn]
    refine ⟨hpt, fun x _ _ _ => rfl, ?_⟩
    show Pa s ws0 d g0 (t.supers (w.get t.pat)) (w.load t.c t.pat)
    rw [hgp]
    unfold supers
    by_cases e : t.isS (pgAt s w.ws t.at') = true
    · rw [if_pos e]
      unfold isS at e
      rw [w2] at e
      simp only [Bool.and_eq_true, decide_eq_true_eq] at e
      have hc2 := hpt.cur a0 a1 (by rw [e.2]; decide)
      exact .p11 hd rfl b hh m x (by show pgK s t.at' (pgAt s ws0 t.at') = 2; rw [← hc2]; exact e.2) (by show pgA t.s t.at' (pgAt s w.ws t.at') = pgA s t.at' (pgAt s ws0 t.at'); rw [w2, hc2]) (fun j j0 j1 => by have j1 : j < 0 := j1; omega)
    · rw [if_neg e]
      refine to10 (t := t.read (pgAt s w.ws t.at')) w2 hd rfl b hh m (x.next fun hk => ?_) _ rfl
      exfalso
      have e2 := hpt.np t.at' a0 a1 (fun h2 => by have := h2.1; rw [hk] at this; cases this) (fun h2 => by have := h2.1; rw [hk] at this; cases this)
      refine e ?_
      unfold isS
      rw [w2, e2, pgK_ne (by rw [hk]; decide), decide_eq_true hk]; rfl
  | p11 hd hn b hh m x hk hA z =>
    obtain ⟨a0, a1, i0, i16, -, -, i11, -⟩ := bnd hd
    have i1 := i11 (.inl hn)
    have sb := slots_bd t.pA
    have hgs : w.get t.sat = slAt s w.ws t.at' t.i := by rw [hsat]; exact slot_at hm a0 a1 i0 (by omega)
    rw [s11 hd hn]
    refine ⟨hpt, fun x _ _ _ => rfl, ?_⟩
    show Pa s ws0 d g0 (t.slots' (w.get t.sat)) (w.load t.c t.sat)
    rw [hgs]
    unfold slots'
    by_cases e : slAt s w.ws t.at' t.i = way t.d
    · rw [if_pos e]
      exact .p12 hd rfl b hh m x hk hA z (by rw [← w4]; exact e)
    · rw [if_neg e]
      refine slot_to w2 hd h.snd hpt ⟨a0, a1⟩ ⟨hcd.1, by omega⟩ b hh m x hk hA (fun j j0 j1 => ?_) _ rfl
      by_cases ej : j = t.i
      · subst ej; rw [← w4]; exact e
      · exact z j j0 (by omega)
  | p12 hd hn b hh m x hk hA z hw =>
    obtain ⟨a0, a1, i0, i16, -, -, i11, -⟩ := bnd hd
    have i1 := i11 (.inr hn)
    have sb := slots_bd t.pA
    have hAb := Gv.ok_super (pgK_ne (by rw [hk]; decide)) hk
    rw [s12 hd hn]
    have hc1 := hpt.opn hm hcd.1 a0 a1 hk i0 (by omega) hw (by omega) (by omega)
    have hsl : (w.store t.c t.sat (Ma.opn t.pA)).ws = upW w.ws (Pl.slot s.p s.c s.m t.at' t.i) (Ma.opn (pgA s t.at' (pgAt s ws0 t.at'))) := by rw [store_ws, hsat, hA]
    have wn := way_ne d hcd.1 (by omega)
    have on := opn_ne (pgA s t.at' (pgAt s ws0 t.at')) hAb.1 (by omega)
    have now : Ma.opn (pgA s t.at' (pgAt s ws0 t.at')) ≠ way d := fun e => by
      have := congrArg slK e; rw [on.2.1, wn.2.1] at this; cases this
    refine ⟨?_, fun x x0 x1 x2 => ?_, ?_⟩
    · show Pt s ws0 d (w.store t.c t.sat (Ma.opn t.pA)).ws; rw [hsl]; exact hc1
    · exact get_far x0 (by rw [hsat, slot_yes hm a0 a1 i0 (by omega)]; omega)
    · show Pa s ws0 d g0 t.slot (w.store t.c t.sat (Ma.opn t.pA))
      refine slot_to (w := w.store t.c t.sat (Ma.opn t.pA)) w2 hd h.snd (by rw [hsl]; exact hc1) ⟨a0, a1⟩ ⟨hcd.1, by omega⟩ ?_ ?_ ?_ ?_ hk hA ?_ _ rfl
      · rw [hsl]; intro q q0 q1 hq; rw [pg_sl hm a0 a1 i0 (by omega) q0 q1]; exact b q q0 q1 hq
      · rw [hsl]; intro q q0 q1 hq; rw [pg_sl hm a0 a1 i0 (by omega) q0 q1]; exact hh q q0 q1 hq
      · rw [hsl]; intro j j0 j1; rw [mg_sl hm a0 a1 i0 (by omega) hcd.1 j0]; exact m j j0 j1
      · rw [hsl]; intro q q0 q1 hq j j0 j1
        rw [sl_sl hm a0 a1 i0 (by omega) q0 j0 j1, if_neg (by omega)]; exact x q q0 q1 hq j j0 j1
      · rw [hsl]; intro j j0 j1
        rw [sl_sl hm a0 a1 i0 (by omega) a0 j0 (by omega)]
        split
        · exact now
        · exact z j j0 (by omega)
  | p13 hd hn b hh m x =>
    obtain ⟨a0, a1, -⟩ := bnd hd
    have hst : (w.store t.c t.dat (putSt 4 0)).ws = upW w.ws (status s.p s.c s.m d) (putSt 4 0) := by rw [store_ws]; unfold dat; rw [w2, w4]
    have he := (w1.of hd).2.1
    rw [s13 hd hn]
    refine ⟨?_, fun x x0 x1 x2 => ?_, ?_⟩
    · show Pt s ws0 d (w.store t.c t.dat (putSt 4 0)).ws; rw [hst]; exact hpt.sta hm hcd.1 hcd.1 hcd.2
    · show (w.store t.c t.dat (putSt 4 0)).get x = _
      rw [hdat, get_store hcd.1 x0, if_neg x2]
    · refine .en rfl rfl ?_ ?_ ?_ ?_ ?_
      · show (w.store t.c t.dat (putSt 4 0)).get d = _
        rw [hdat, get_store hcd.1 hcd.1, if_pos rfl]
      · show BD s ws0 d (w.store t.c t.dat (putSt 4 0)).ws s.p
        rw [hst]; intro q q0 q1 hq; rw [pg_st hm hcd.1 hcd.2 q0 q1]; exact b q q0 q1 hq
      · show HD s ws0 d (w.store t.c t.dat (putSt 4 0)).ws s.p
        rw [hst]; intro q q0 q1 hq; rw [pg_st hm hcd.1 hcd.2 q0 q1]; exact hh q q0 q1 hq
      · show MD s d (w.store t.c t.dat (putSt 4 0)).ws s.m
        rw [hst]; intro j j0 j1; rw [mg_st hm hcd.1 hcd.2 hcd.1 j0]; exact m j j0 j1
      · show SD s ws0 d (w.store t.c t.dat (putSt 4 0)).ws s.p
        rw [hst]; intro q q0 q1 hq j j0 j1; rw [sl_st hm hcd.1 hcd.2 q0 j0]; exact x q q0 q1 hq j j0 j1
  | en hd he hx b hh m x =>
    rw [step_dn hd]
    exact ⟨hpt, fun _ _ _ _ => rfl, .en hd he hx b hh m x⟩
end Ad
end Go.Ma

namespace Go.Ma
open Go.Pl
section
variable {s : Sh} {ws0 ws : Nat → Int} {d q i n y : Int}
/-- What is sound hangs on pages, slots and entries alone. -/
theorem Snd.congr (hm : may s.p s.c s.m = true) (h : Snd s ws0) (hp : ∀ q, 0 ≤ q → q < s.p → pgAt s ws q = pgAt s ws0 q) (hs : ∀ q i, 0 ≤ q → q < s.p → 0 ≤ i → i < 16 → slAt s ws q i = slAt s ws0 q i)
    (hg : ∀ c i, 0 ≤ c → c < s.c → 0 ≤ i → i < s.m → mgAt s ws c i = mgAt s ws0 c i) : Snd s ws := by
  refine ⟨fun p h1 => ?_, fun c i h1 h2 hx => ?_, fun c i c' i' h1 h2 h3 ha hx hy => ?_⟩
  · obtain ⟨e1, e2⟩ := h.pg p h1
    rw [hp p (by omega) h1]
    refine ⟨e1, ⟨fun k i hi => ?_, fun k k' i hi => ?_, fun k k' k4 => ?_, fun k k' k4 k3 i i1 i2 => ?_⟩⟩
    · rw [hs p i (by omega) h1 (by omega) (by omega)]; exact e2.sup k i hi
    · rw [hs p i (by omega) h1 (by omega) (by omega)]; exact e2.emp k k' i hi
    · have hb := Ad.ok_body e1 (beq_iff_eq.1 k4)
      rw [hp _ hb.1 (by omega)]; exact e2.bod k k' k4
    · have he := e2.lar k k' k4 k3 i i1 i2
      have hpi : (p : Int) + i < s.p := by
        have hk := beq_iff_eq.1 k3
        have hf : okPg s p (pgAt s ws0 p) = true := e1
        have hk' : pgAt s ws0 p % 16 = 3 := by unfold pgK at hk; rw [if_pos hf] at hk; exact hk
        have hA : pgA s p (pgAt s ws0 p) = pt (pgAt s ws0 p) 16 := by unfold pgA; rw [if_pos hf]
        unfold okPg at hf
        simp only [Bool.and_eq_true, decide_eq_true_eq] at hf
        obtain ⟨-, -, hf⟩ := hf
        rw [hk'] at hf
        unfold fits at hf
        simp at hf
        omega
      rw [hp _ (by omega) hpi]; exact he
  · rw [hg c i (by omega) h1 (by omega) h2] at hx ⊢
    obtain ⟨e1, e2, e3, e4⟩ := h.en c i h1 h2 hx
    have hE : 0 ≤ enP s (mgAt s ws0 c i) ∧ enP s (mgAt s ws0 c i) < s.p ∧ 0 ≤ enS s (mgAt s ws0 c i) ∧ enS s (mgAt s ws0 c i) < 16 := by
      have ho := e1
      unfold okEn at ho
      simp only [Bool.and_eq_true, decide_eq_true_eq] at ho
      have h5 := page_of (s := s) (p := pt (mgAt s ws0 c i) 16) (decide_eq_true ho.2.1)
      have sb := slots_bd (pt (mgAt s ws0 c i) 1048576)
      have : 0 ≤ pt (mgAt s ws0 c i) 4096 := by unfold pt; omega
      unfold enP enS; rw [if_pos e1, if_pos e1]; omega
    refine ⟨e1, ?_, ?_, ?_⟩
    · rw [hp _ hE.1 hE.2.1]; exact e2
    · rw [hp _ hE.1 hE.2.1]; exact e3
    · rw [hs _ _ hE.1 hE.2.1 hE.2.2.1 hE.2.2.2]; exact e4
  · have hc' : (c' : Int) < s.c := by unfold ahead at ha; omega
    rw [hg c i (by omega) h1 (by omega) h2] at hx ⊢
    rw [hg c' i' (by omega) hc' (by omega) h3] at hy ⊢
    exact h.dj c i c' i' h1 h2 h3 ha hx hy
theorem Snd.sta (hm : may s.p s.c s.m = true) (h : Snd s ws0) {c : Int} (h0 : 0 ≤ c) (h1 : c < s.c) : Snd s (upW ws0 (status s.p s.c s.m c) y) :=
  h.congr hm (fun q q0 q1 => pg_st hm h0 h1 q0 q1) (fun q i q0 q1 i0 i1 => sl_st hm h0 h1 q0 i0) (fun c i c0 c1 i0 i1 => mg_st hm h0 h1 c0 i0)
theorem en_bd (e1 : okEn s y = true) : 0 ≤ enP s y ∧ enP s y < s.p ∧ 0 ≤ enS s y ∧ enS s y < 16 := by
  have ho := e1
  unfold okEn at ho
  simp only [Bool.and_eq_true, decide_eq_true_eq] at ho
  have h5 := page_of (s := s) (p := pt y 16) (decide_eq_true ho.2.1)
  have sb := slots_bd (pt y 1048576)
  have : 0 ≤ pt y 4096 := by unfold pt; omega
  unfold enP enS; rw [if_pos e1, if_pos e1]; omega
theorem large_bd (e1 : okPg s q y = true) (hk : pgK s q y = 3) : 1 ≤ pgA s q y ∧ pgA s q y ≤ 8 ∧ q + pgA s q y ≤ s.p := by
  have hk' : y % 16 = 3 := by unfold pgK at hk; rw [if_pos e1] at hk; exact hk
  have hA : pgA s q y = pt y 16 := by unfold pgA; rw [if_pos e1]
  have hf := e1
  unfold okPg at hf
  simp only [Bool.and_eq_true, decide_eq_true_eq] at hf
  obtain ⟨-, -, hf⟩ := hf
  rw [hk'] at hf
  unfold fits at hf
  simp at hf
  omega
/-- All of the dead one is gone. -/
structure Gn (s : Sh) (ws0 : Nat → Int) (d : Int) (ws : Nat → Int) : Prop where
  pt : Pt s ws0 d ws
  b : BD s ws0 d ws s.p
  h : HD s ws0 d ws s.p
  m : MD s d ws s.m
  x : SD s ws0 d ws s.p
section
variable (hm : may s.p s.c s.m = true) (hsn : Snd s ws0) (d0 : 0 ≤ d) (d1 : d < s.c) (g : Gn s ws0 d ws)
include hm hsn d0 d1 g
/-- A page is as it was, or it was the dead one's, and is empty. -/
theorem Gn.page (h0 : 0 ≤ q) (h1 : q < s.p) : (¬ HeldBy s ws0 d q ∧ ¬ BodyOf s ws0 d q ∧ pgAt s ws q = pgAt s ws0 q) ∨ ((HeldBy s ws0 d q ∨ BodyOf s ws0 d q) ∧ pgAt s ws q = 0 ∧ pgAt s ws0 q ≠ 0) := by
  by_cases hh : HeldBy s ws0 d q
  · refine .inr ⟨.inl hh, g.h q h0 h1 hh, fun e => ?_⟩
    have := hh.1; rw [e, pgK_zero] at this; cases this
  · by_cases hb : BodyOf s ws0 d q
    · refine .inr ⟨.inr hb, g.b q h0 h1 hb, fun e => ?_⟩
      have := hb.1; rw [e, pgK_zero] at this; cases this
    · exact .inl ⟨hh, hb, g.pt.np q h0 h1 hh hb⟩
/-- A slot is as it was, or it was on the dead one's way, and is open; or in a page that it held, and is 0. -/
theorem Gn.slot (h0 : 0 ≤ q) (h1 : q < s.p) (i0 : 0 ≤ i) (i1 : i < 16) : (¬ HeldBy s ws0 d q ∧ slAt s ws q i = slAt s ws0 q i ∧ ¬ (pgK s q (pgAt s ws0 q) = 2 ∧ slAt s ws0 q i = way d)) ∨ (¬ HeldBy s ws0 d q ∧ pgK s q (pgAt s ws0 q) = 2 ∧ slAt s ws0 q i = way d ∧ slAt s ws q i = opn (pgA s q (pgAt s ws0 q))) ∨ (HeldBy s ws0 d q ∧ slAt s ws q i = 0) := by
  by_cases hh : HeldBy s ws0 d q
  · refine .inr (.inr ⟨hh, ?_⟩)
    rcases g.pt.hd q h0 h1 hh with e | ⟨-, e⟩
    · have e2 := g.h q h0 h1 hh
      rw [e] at e2
      have := hh.1; rw [e2, pgK_zero] at this; cases this
    · exact e i i0 i1
  · rcases g.pt.sb q h0 h1 hh i i0 i1 with e | ⟨e1, e2, e3⟩
    · refine .inl ⟨hh, e, fun ⟨e1, e2⟩ => ?_⟩
      exact g.x q h0 h1 e1 i i0 i1 (e.trans e2)
    · exact .inr (.inl ⟨hh, e1, e2, e3⟩)
/-- The heap is sound. -/
theorem Gn.snd : Snd s ws := by
  have hb := (may_iff _ _ _).1 hm
  have dw := way_ne d d0 (by omega)
  refine ⟨fun p h1 => ?_, fun c i h1 h2 hx => ?_, fun c i c' i' h1 h2 h3 ha hx hy => ?_⟩
  · obtain ⟨e1, e2⟩ := hsn.pg p h1
    rcases Gn.page hm hsn d0 d1 g (q := p) (by omega) h1 with ⟨n1, n2, e⟩ | ⟨hx, e, -⟩
    · rw [e]
      refine ⟨e1, ⟨fun k i hi => ?_, fun k k' i hi => ?_, fun k k' k4 => ?_, fun k k' k4 k3 i i1 i2 => ?_⟩⟩
      · rcases Gn.slot hm hsn d0 d1 g (q := p) (i := i) (by omega) h1 (by omega) (by omega) with ⟨-, e3, -⟩ | ⟨-, -, e4, e3⟩ | ⟨hh, -⟩
        · rw [e3]; exact e2.sup k i hi
        · have hA := Gv.ok_super e1 (beq_iff_eq.1 k)
          have on := opn_ne (pgA s p (pgAt s ws0 p)) hA.1 (by omega)
          have hs := e2.sup k i hi
          rw [e4] at hs
          unfold slB at hs ⊢
          rw [e3, on.2.1, on.2.2]
          by_cases hi2 : ((i : Nat) : Int) < slots (pgA s p (pgAt s ws0 p))
          · rw [decide_eq_true hi2]; simp
          · rw [decide_eq_false hi2] at hs
            have : way d = 0 := by simpa using hs
            exact absurd this dw.1
        · exact absurd hh n1
      · rcases Gn.slot hm hsn d0 d1 g (q := p) (i := i) (by omega) h1 (by omega) (by omega) with ⟨-, e3, -⟩ | ⟨-, e5, -, -⟩ | ⟨hh, -⟩
        · rw [e3]; exact e2.emp k k' i hi
        · exact absurd (beq_iff_eq.2 e5) (by rw [k]; decide)
        · exact absurd hh n1
      · have hbo := Ad.ok_body e1 (beq_iff_eq.1 k4)
        have hbd := e2.bod k k' k4
        rcases Gn.page hm hsn d0 d1 g (q := pgA s p (pgAt s ws0 p)) hbo.1 (by omega) with ⟨-, -, e3⟩ | ⟨hx, -, -⟩
        · rw [e3]; exact hbd
        · exfalso
          rcases hx with hx | hx
          · exact n2 ⟨beq_iff_eq.1 k4, hx⟩
          · rw [hx.1] at hbd; simp at hbd
      · have hl := large_bd e1 (beq_iff_eq.1 k3)
        have he := e2.lar k k' k4 k3 i i1 i2
        rcases Gn.page hm hsn d0 d1 g (q := p + i) (by omega) (by omega) with ⟨-, -, e3⟩ | ⟨hx, -, -⟩
        · rw [e3]; exact he
        · exfalso
          rcases hx with hx | hx
          · have := hx.1; rw [he.1] at this; cases this
          · have h5 := hx.2
            rw [he.2] at h5
            have := h5.1; rw [beq_iff_eq.1 k3] at this; cases this
    · rw [e, pgK_zero]
      refine ⟨okPg_zero hm (by omega) h1, SpB.oth rfl (fun i hi => ?_) rfl rfl⟩
      rcases Gn.slot hm hsn d0 d1 g (q := p) (i := i) (by omega) h1 (by omega) (by omega) with ⟨n1, e3, -⟩ | ⟨n1, e5, -, -⟩ | ⟨-, e3⟩
      · rw [e3]
        rcases hx with hx | hx
        · exact absurd hx n1
        · exact e2.emp (by rw [hx.1]; rfl) (by rw [hx.1]; rfl) i hi
      · exfalso
        rcases hx with hx | hx
        · exact n1 hx
        · have := hx.1; rw [e5] at this; cases this
      · exact e3
  · by_cases hc : (c : Int) = d
    · have := g.m i (by omega) h2
      rw [← hc] at this
      exact absurd this hx
    · rw [g.pt.mo c i (by omega) h1 hc (by omega) h2] at hx ⊢
      obtain ⟨e1, e2, e3, e4⟩ := hsn.en c i h1 h2 hx
      have hE := en_bd e1
      have hpg : pgAt s ws (enP s (mgAt s ws0 c i)) = pgAt s ws0 (enP s (mgAt s ws0 c i)) := by
        rcases Gn.page hm hsn d0 d1 g (q := enP s (mgAt s ws0 c i)) hE.1 hE.2.1 with ⟨-, -, e5⟩ | ⟨hx, -, -⟩
        · exact e5
        · exfalso
          rcases hx with hx | hx
          · have := hx.1; rw [e2] at this; cases this
          · have := hx.1; rw [e2] at this; cases this
      refine ⟨e1, by rw [hpg]; exact e2, by rw [hpg]; exact e3, ?_⟩
      rcases Gn.slot hm hsn d0 d1 g (q := enP s (mgAt s ws0 c i)) (i := enS s (mgAt s ws0 c i)) hE.1 hE.2.1 hE.2.2.1 hE.2.2.2 with ⟨-, e5, -⟩ | ⟨-, -, e6, -⟩ | ⟨hh, -⟩
      · rw [e5]; exact e4
      · rw [e4] at e6
        exact absurd (way_inj (by omega) (by omega) d0 (by omega) e6) hc
      · have := hh.1; rw [e2] at this; cases this
  · have hc' : (c' : Int) < s.c := by unfold ahead at ha; omega
    have n1 : (c : Int) ≠ d := fun e => by have := g.m i (by omega) h2; rw [← e] at this; exact hx this
    have n2 : (c' : Int) ≠ d := fun e => by have := g.m i' (by omega) h3; rw [← e] at this; exact hy this
    rw [g.pt.mo c i (by omega) h1 n1 (by omega) h2] at hx ⊢
    rw [g.pt.mo c' i' (by omega) hc' n2 (by omega) h3] at hy ⊢
    exact hsn.dj c i c' i' h1 h2 h3 ha hx hy
end
end
namespace Ad
variable {s : Sh} {ws0 : Nat → Int} {c d : Int} {g0 : Int → Int} {t : Ad} {w : Wd}
theorem Adp.fin (h : Adp s ws0 c d g0 t w) (hd : t.dn = true) : t.err = 0 ∧ w.get d = putSt 4 0 ∧ Gn s ws0 d w.ws := by
  cases h.ph with
  | en _ he hx b hh m x => exact ⟨he, hx, h.pt, b, hh, m, x⟩
  | _ h1 => rw [hd] at h1; cases h1
theorem Adp.init (hm : may s.p s.c s.m = true) (ho : w.of s) (hc0 : 0 ≤ c) (hc : c < s.c) (hd0 : 0 ≤ d) (hd : d < s.c) (hcd : c ≠ d) (hw : Win s w.get d) (hs : Snd s w.ws) : Adp s w.ws c d w.get (Ad.new s c d) w := by
  have B : (new s c d).dn = false := by
    show (decide (status s.p s.c s.m c < 0) || (decide (status s.p s.c s.m d < 0) || decide (c = d))) = false
    rw [st_place hm hc0 hc, st_place hm hd0 hd, decide_eq_false (by omega), decide_eq_false (by omega), decide_eq_false hcd]
    rfl
  exact ⟨ho, hm, ⟨new_wf .., rfl, rfl, rfl⟩, ⟨hd0, hd⟩, hw, hs, Pt.self .., fun _ _ _ _ => rfl, .p0 B rfl rfl⟩
end Ad
end Go.Ma

namespace Go.Ma
open Go.Pl
section
variable {s : Sh} {ws0 ws : Nat → Int} {d q i n y : Int}
theorem pgA_bd (s : Sh) (q x : Int) : 0 ≤ pgA s q x ∧ pgA s q x ≤ 255 := by
  unfold pgA
  split
  · unfold pt; omega
  · omega
theorem slA_bd (x : Int) : 0 ≤ slA x ∧ slA x ≤ 255 := by
  unfold slA
  split
  · unfold pt; omega
  · omega
variable (hm : may s.p s.c s.m = true) (hsn : Snd s ws0) (d0 : 0 ≤ d) (d1 : d < s.c) (g : Gn s ws0 d ws)
include hm hsn d0 d1 g
/-- Is a page the dead one's? -/
theorem Gn.mine (h0 : 0 ≤ q) (h1 : q < s.p) (b : Bool) (hb : b = true ↔ (HeldBy s ws0 d q ∨ BodyOf s ws0 d q)) : (b = false ∧ pgAt s ws q = pgAt s ws0 q) ∨ (b = true ∧ pgAt s ws q = 0 ∧ pgAt s ws0 q ≠ 0) := by
  rcases g.page hm hsn d0 d1 h0 h1 with ⟨n1, n2, e⟩ | ⟨hx, e, f⟩
  · refine .inl ⟨?_, e⟩
    cases b
    · rfl
    · rcases hb.1 rfl with h | h
      · exact absurd h n1
      · exact absurd h n2
  · exact .inr ⟨hb.2 hx, e, f⟩
/-- Is a slot the dead one's? In a page that is not. -/
theorem Gn.own (h0 : 0 ≤ q) (h1 : q < s.p) (n1 : ¬ HeldBy s ws0 d q) (i0 : 0 ≤ i) (i1 : i < 16) (b : Bool) (hb : b = true ↔ (pgK s q (pgAt s ws0 q) = 2 ∧ slK (slAt s ws0 q i) = 2 ∧ slA (slAt s ws0 q i) = d)) : (b = false ∧ slAt s ws q i = slAt s ws0 q i) ∨ (b = true ∧ slAt s ws q i ≠ slAt s ws0 q i) := by
  have hb' := (may_iff _ _ _).1 hm
  have dw := way_ne d d0 (by omega)
  rcases g.slot hm hsn d0 d1 h0 h1 i0 i1 with ⟨-, e, f⟩ | ⟨-, e1, e2, e3⟩ | ⟨hh, -⟩
  · refine .inl ⟨?_, e⟩
    cases b
    · rfl
    · obtain ⟨k1, k2, k3⟩ := hb.1 rfl
      have := is_way k2
      rw [k3] at this
      exact absurd ⟨k1, this⟩ f
  · have hA := pgA_bd s q (pgAt s ws0 q)
    have on := opn_ne (pgA s q (pgAt s ws0 q)) hA.1 hA.2
    refine .inr ⟨hb.2 ⟨e1, by rw [e2]; exact dw.2.1, by rw [e2]; exact dw.2.2⟩, ?_⟩
    rw [e2, e3]
    intro e
    have := congrArg slK e
    rw [on.2.1, dw.2.1] at this; cases this
  · exact absurd hh n1
end
end Go.Ma
