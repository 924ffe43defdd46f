/-
  A dead one is adopted, in a heap that was sound, alone: each step, and what stands at the end. Conditions: none.
-/
import Derived.Test.YtfopnendmcpglaaMaPart
set_option linter.unusedVariables false
set_option linter.unusedSectionVars false
set_option linter.unusedSimpArgs false
namespace Go.Ma
open Go.Pl
section
variable {s : Sh} {ws0 ws : Nat → Int} {d q i n y : Int}
theorem Pt.or0 (h : Pt s ws0 d ws) (h0 : 0 ≤ q) (h1 : q < s.p) : pgAt s ws q = pgAt s ws0 q ∨ pgAt s ws q = 0 := by
  by_cases hh : HeldBy s ws0 d q
  · exact (h.hd q h0 h1 hh).imp_right fun e => e.1
  · by_cases hb : BodyOf s ws0 d q
    · rcases h.bd q h0 h1 hb with e | e
      · exact .inr e
      · exact .inl e.1
    · exact .inl (h.np q h0 h1 hh hb)
theorem Pt.cur (h : Pt s ws0 d ws) (h0 : 0 ≤ q) (h1 : q < s.p) (hk : pgK s q (pgAt s ws q) ≠ 0) : pgAt s ws q = pgAt s ws0 q := by
  rcases h.or0 h0 h1 with e | e
  · exact e
  · rw [e, pgK_zero] at hk; exact absurd rfl hk
theorem BD.next (h : BD s ws0 d ws n) (hn : BodyOf s ws0 d n → pgAt s ws n = 0) : BD s ws0 d ws (n + 1) := fun q h0 h1 hb => by
  by_cases e : q = n
  · subst e; exact hn hb
  · exact h q h0 (by omega) hb
theorem HD.next (h : HD s ws0 d ws n) (hn : HeldBy s ws0 d n → pgAt s ws n = 0) : HD s ws0 d ws (n + 1) := fun q h0 h1 hb => by
  by_cases e : q = n
  · subst e; exact hn hb
  · exact h q h0 (by omega) hb
theorem SD.next (h : SD s ws0 d ws n) (hn : pgK s n (pgAt s ws0 n) = 2 → ∀ i, 0 ≤ i → i < 16 → slAt s ws n i ≠ way d) : SD s ws0 d ws (n + 1) := fun q h0 h1 hb => by
  by_cases e : q = n
  · subst e; exact hn hb
  · exact h q h0 (by omega) hb
/-- Slots behind the last one are 0. -/
theorem Snd.behind (h : Snd s ws0) (h0 : 0 ≤ q) (h1 : q < s.p) (hk : pgK s q (pgAt s ws0 q) = 2) (i0 : slots (pgA s q (pgAt s ws0 q)) ≤ i) (i1 : i < 16) : slAt s ws0 q i = 0 := by
  have hb := slots_bd (pgA s q (pgAt s ws0 q))
  have e := (h.pg q.toNat (by omega)).2.sup (by rw [show ((q.toNat : Nat) : Int) = q by omega]; exact beq_iff_eq.2 hk) i.toNat (by omega)
  rw [show ((q.toNat : Nat) : Int) = q by omega, show ((i.toNat : Nat) : Int) = i by omega] at e
  unfold slB at e
  rw [decide_eq_false (by omega)] at e
  simpa using e
end

namespace Ad
/-- How far it is. -/
inductive Pa (s : Sh) (ws0 : Nat → Int) (d : Int) (g0 : Int → Int) (t : Ad) (w : Wd) : Prop
  | p0 (hd : t.dn = false) (hn : t.nx = 0) (hx : w.get d = g0 d)
  | p1 (hd : t.dn = false) (hn : t.nx = 1) (hx : w.get d = g0 d) (hw : t.was = g0 d) (hk : stK (g0 d) = 3) (hb : t.by' = stB (g0 d))
  | p2 (hd : t.dn = false) (hn : t.nx = 2) (hx : w.get d = g0 d) (hw : t.was = g0 d)
  | p3 (hd : t.dn = false) (hn : t.nx = 3) (b : BD s ws0 d w.ws t.at')
  | p4 (hd : t.dn = false) (hn : t.nx = 4) (b : BD s ws0 d w.ws t.at') (hk : pgK s t.at' (pgAt s w.ws t.at') = 4) (hA : t.pA = pgA s t.at' (pgAt s w.ws t.at'))
  | p5 (hd : t.dn = false) (hn : t.nx = 5) (b : BD s ws0 d w.ws t.at') (ho : BodyOf s ws0 d t.at')
  | p6 (hd : t.dn = false) (hn : t.nx = 6) (b : BD s ws0 d w.ws s.p) (h : HD s ws0 d w.ws t.at')
  | p7 (hd : t.dn = false) (hn : t.nx = 7) (b : BD s ws0 d w.ws s.p) (h : HD s ws0 d w.ws t.at') (ho : HeldBy s ws0 d t.at') (z : ∀ j, 0 ≤ j → j < t.i → slAt s w.ws t.at' j = 0)
  | p8 (hd : t.dn = false) (hn : t.nx = 8) (b : BD s ws0 d w.ws s.p) (h : HD s ws0 d w.ws t.at') (ho : HeldBy s ws0 d t.at') (z : ∀ j, 0 ≤ j → j < 16 → slAt s w.ws t.at' j = 0)
  | p9 (hd : t.dn = false) (hn : t.nx = 9) (b : BD s ws0 d w.ws s.p) (h : HD s ws0 d w.ws s.p) (m : MD s d w.ws t.i) (ha : t.at' = 0)
  | p10 (hd : t.dn = false) (hn : t.nx = 10) (b : BD s ws0 d w.ws s.p) (h : HD s ws0 d w.ws s.p) (m : MD s d w.ws s.m) (x : SD s ws0 d w.ws t.at')
  | p11 (hd : t.dn = false) (hn : t.nx = 11) (b : BD s ws0 d w.ws s.p) (h : HD s ws0 d w.ws s.p) (m : MD s d w.ws s.m) (x : SD s ws0 d w.ws t.at') (hk : pgK s t.at' (pgAt s ws0 t.at') = 2) (hA : t.pA = pgA s t.at' (pgAt s ws0 t.at')) (z : ∀ j, 0 ≤ j → j < t.i → slAt s w.ws t.at' j ≠ way d)
  | p12 (hd : t.dn = false) (hn : t.nx = 12) (b : BD s ws0 d w.ws s.p) (h : HD s ws0 d w.ws s.p) (m : MD s d w.ws s.m) (x : SD s ws0 d w.ws t.at') (hk : pgK s t.at' (pgAt s ws0 t.at') = 2) (hA : t.pA = pgA s t.at' (pgAt s ws0 t.at')) (z : ∀ j, 0 ≤ j → j < t.i → slAt s w.ws t.at' j ≠ way d) (hw : slAt s w.ws t.at' t.i = way d)
  | p13 (hd : t.dn = false) (hn : t.nx = 13) (b : BD s ws0 d w.ws s.p) (h : HD s ws0 d w.ws s.p) (m : MD s d w.ws s.m) (x : SD s ws0 d w.ws s.p)
  | en (hd : t.dn = true) (he : t.err = 0) (hx : w.get d = putSt 4 0) (b : BD s ws0 d w.ws s.p) (h : HD s ws0 d w.ws s.p) (m : MD s d w.ws s.m) (x : SD s ws0 d w.ws s.p)
/-- Whom it adopts is dead, or was adopted by one who is dead. -/
def Win (s : Sh) (g0 : Int → Int) (d : Int) : Prop := stK (g0 d) = 2 ∨ (stK (g0 d) = 3 ∧ 0 ≤ stB (g0 d) ∧ stB (g0 d) < s.c ∧ stB (g0 d) ≠ d ∧ stK (g0 (stB (g0 d))) ≠ 1)
structure Adp (s : Sh) (ws0 : Nat → Int) (c d : Int) (g0 : Int → Int) (t : Ad) (w : Wd) : Prop where
  of : w.of s
  ok : may s.p s.c s.m = true
  wf : t.wf ∧ t.s = s ∧ t.c = c ∧ t.d = d
  cd : 0 ≤ d ∧ d < s.c
  wi : Win s g0 d
  snd : Snd s ws0
  pt : Pt s ws0 d w.ws
  st : ∀ x, 0 ≤ x → x < s.c → x ≠ d → w.get x = g0 x
  ph : Pa s ws0 d g0 t w
variable {s : Sh} {ws0 : Nat → Int} {c d : Int} {g0 : Int → Int} {t : Ad} {w : Wd}
theorem turn_or (t : Ad) (a b : Int) : (t.turn a b).dn = t.dn ∧ (t.turn a b).pA = t.pA ∧ ((t.at' + 1 = t.s.p ∧ (t.turn a b).at' = 0 ∧ (t.turn a b).i = 0 ∧ (t.turn a b).nx = if b = 9 ∧ t.s.m = 0 then 10 else b) ∨ (t.at' + 1 ≠ t.s.p ∧ (t.turn a b).at' = t.at' + 1 ∧ (t.turn a b).nx = a)) := by
  unfold turn
  by_cases h : t.at' + 1 = t.s.p
  · rw [if_pos h]; exact ⟨rfl, rfl, .inl ⟨h, rfl, rfl, rfl⟩⟩
  · rw [if_neg h]; exact ⟨rfl, rfl, .inr ⟨h, rfl, rfl⟩⟩
theorem own_of {q x : Int} (h : pgK s q x = 1) (h2 : pgA s q x = t.d) (hs : t.s = s) : t.own q x = true := by
  unfold own; rw [hs, pgK_ne (by rw [h]; decide), decide_eq_true h, decide_eq_true h2]; rfl
theorem own_is {q x : Int} (h : t.own q x = true) (hs : t.s = s) : pgK s q x = 1 ∧ pgA s q x = t.d := by
  unfold own at h; rw [hs] at h
  simp only [Bool.and_eq_true, decide_eq_true_eq] at h
  exact h.2
section
variable (hts : t.s = s) (hd : t.dn = false)
include hts hd
/-- Behind a page, while bodies are looked at. -/
theorem to3 {u : Ad} (hu : u = t.turn 3 6) (b : BD s ws0 d w.ws (t.at' + 1)) (w' : Wd) (hw : w'.ws = w.ws) : Pa s ws0 d g0 u w' := by
  subst hu
  obtain ⟨e1, e2, ⟨h1, e3, e4, e5⟩ | ⟨h1, e3, e5⟩⟩ := turn_or t 3 6
  · rw [if_neg (by omega)] at e5
    exact .p6 (e1.trans hd) e5 (by rw [hw]; rw [← hts, ← h1]; rw [hts]; exact b) (by rw [e3]; intro q h0 h1; omega)
  · exact .p3 (e1.trans hd) e5 (by rw [e3, hw]; exact b)
theorem to6 {u : Ad} (hu : u = t.turn 6 9) (b : BD s ws0 d w.ws s.p) (h : HD s ws0 d w.ws (t.at' + 1)) (w' : Wd) (hw : w'.ws = w.ws) : Pa s ws0 d g0 u w' := by
  subst hu
  obtain ⟨e1, e2, ⟨h1, e3, e4, e5⟩ | ⟨h1, e3, e5⟩⟩ := turn_or t 6 9
  · have h' : HD s ws0 d w'.ws s.p := by rw [hw]; rw [← hts, ← h1]; rw [hts]; exact h
    by_cases hm : t.s.m = 0
    · rw [if_pos ⟨rfl, hm⟩] at e5
      exact .p10 (e1.trans hd) e5 (by rw [hw]; exact b) h' (by rw [← hts, hm]; intro q h0 h1; omega) (by rw [e3]; intro q h0 h1; omega)
    · rw [if_neg (fun x => hm x.2)] at e5
      exact .p9 (e1.trans hd) e5 (by rw [hw]; exact b) h' (by rw [e4]; intro q h0 h1; omega) e3
  · exact .p6 (e1.trans hd) e5 (by rw [hw]; exact b) (by rw [e3, hw]; exact h)
theorem to10 {u : Ad} (hu : u = t.turn 10 13) (b : BD s ws0 d w.ws s.p) (h : HD s ws0 d w.ws s.p) (m : MD s d w.ws s.m) (x : SD s ws0 d w.ws (t.at' + 1)) (w' : Wd) (hw : w'.ws = w.ws) : Pa s ws0 d g0 u w' := by
  subst hu
  obtain ⟨e1, e2, ⟨h1, e3, e4, e5⟩ | ⟨h1, e3, e5⟩⟩ := turn_or t 10 13
  · rw [if_neg (by omega)] at e5
    exact .p13 (e1.trans hd) e5 (by rw [hw]; exact b) (by rw [hw]; exact h) (by rw [hw]; exact m) (by rw [hw]; rw [← hts, ← h1]; rw [hts]; exact x)
  · exact .p10 (e1.trans hd) e5 (by rw [hw]; exact b) (by rw [hw]; exact h) (by rw [hw]; exact m) (by rw [e3, hw]; exact x)
end
theorem slot_to (hts : t.s = s) (hd : t.dn = false) (hsn : Snd s ws0) (hpt : Pt s ws0 d w.ws) (hat : 0 ≤ t.at' ∧ t.at' < s.p) (hdd : 0 ≤ d ∧ d ≤ 255) (b : BD s ws0 d w.ws s.p) (h : HD s ws0 d w.ws s.p) (m : MD s d w.ws s.m) (x : SD s ws0 d w.ws t.at') (hk : pgK s t.at' (pgAt s ws0 t.at') = 2)
    (hA : t.pA = pgA s t.at' (pgAt s ws0 t.at')) (z : ∀ j, 0 ≤ j → j < t.i + 1 → slAt s w.ws t.at' j ≠ way d) (w' : Wd) (hw : w'.ws = w.ws) : Pa s ws0 d g0 t.slot w' := by
  unfold slot
  by_cases e : t.i + 1 = slots t.pA
  · rw [if_pos e]
    refine to10 (t := { t with i := 0, di := t.di + 1, nx := 11 }) hts hd rfl b h m (x.next fun _ j j0 j1 => ?_) w' hw
    by_cases hj : j < t.i + 1
    · exact z j j0 hj
    · have hz := hsn.behind hat.1 hat.2 hk (i := j) (by rw [← hA]; omega) j1
      have wn := (way_ne d hdd.1 hdd.2).1
      rcases hpt.sb t.at' hat.1 hat.2 (fun h2 => by have := h2.1; rw [hk] at this; cases this) j j0 j1 with e2 | ⟨-, e2, -⟩
      · show slAt s w.ws t.at' j ≠ way d; rw [e2, hz]; exact fun e => wn e.symm
      · rw [hz] at e2; exact absurd e2.symm wn
  · rw [if_neg e]
    exact .p11 hd rfl (by rw [hw]; exact b) (by rw [hw]; exact h) (by rw [hw]; exact m) (by rw [hw]; exact x) hk hA (by rw [hw]; exact z)
end Ad
end Go.Ma
