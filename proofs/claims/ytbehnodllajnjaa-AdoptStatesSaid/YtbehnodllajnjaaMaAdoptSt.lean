/-
  One that adopts, alone: what it is told hangs on the two statuses. Conditions: none.
-/
import Derived.Test.YtbehnodllajnjaaMaAdoptTwo
set_option linter.unusedVariables false
set_option linter.unusedSimpArgs false
namespace Go.Ma
open Go.Pl
namespace Ad
variable {s : Sh} {t : Ad} {w : Wd} {a b e : Int}
/-- The status of whom it adopts, and what it is told. -/
def stX (a : Int) : Int := if a = 3 then putSt 3 2 else putSt a 0
def stE (a b : Int) : Int := if a = 2 ∨ (a = 3 ∧ b ≠ 1) then 0 else if a = 3 then 4 else 5
/-- How far it is. -/
inductive Ph (a b : Int) (t : Ad) (w : Wd) : Prop
  | a (hd : t.dn = false) (hn : t.nx = 0) (hx : w.get 1 = stX a) (hs : w.st = 0)
  | b (hd : t.dn = false) (hn : t.nx = 1) (hx : w.get 1 = stX a) (hs : w.st = 1) (ha : a = 3) (hb : t.by' = 2) (hw : t.was = stX a)
  | c (hd : t.dn = false) (hn : t.nx = 2) (hx : w.get 1 = stX a) (he : stE a b = 0) (hw : t.was = stX a)
  | d (ho : t.On) (he : stE a b = 0)
  | e (hd : t.dn = true) (he : stE a b = 0) (hr : t.err = 0) (hx : w.get 1 = 4)
  | f (hd : t.dn = true) (he : stE a b ≠ 0) (hr : t.err = stE a b) (hx : w.get 1 = stX a) (hs : 0 ≤ w.st ∧ w.st ≤ 2)
structure One (s : Sh) (a b : Int) (t : Ad) (w : Wd) : Prop where
  of : w.of s
  ok : may s.p s.c s.m = true
  c3 : 3 ≤ s.c
  ab : 0 ≤ a ∧ a ≤ 4 ∧ 0 ≤ b ∧ b ≤ 4 ∧ b ≠ 3
  wf : t.wf ∧ t.s = s ∧ t.c = 0 ∧ t.d = 1
  v2 : w.get 2 = putSt b 0
  ph : Ph a b t w
theorem stX_k (ha : 0 ≤ a ∧ a ≤ 4) : stK (stX a) = a ∧ (a = 3 → stB (stX a) = 2) := by
  rcases (by omega : a = 0 ∨ a = 1 ∨ a = 2 ∨ a = 3 ∨ a = 4) with rfl | rfl | rfl | rfl | rfl <;> exact ⟨by decide, fun h => by first | decide | omega⟩
theorem One.step (h : One s a b t w) : One s a b (t.step w).1 (t.step w).2 := by
  obtain ⟨w1, w2, w3, w4⟩ := h.wf
  have c3 := h.c3
  have hk := step_k t w
  have hb := (may_iff _ _ _).1 h.ok
  have hab := h.ab
  have hdat : t.dat = 1 := by unfold dat; rw [w2, w4]; exact st_place h.ok (by decide) (by omega)
  obtain ⟨x1, x2⟩ := stX_k (a := a) (by omega)
  suffices hh : (t.step w).2.get 2 = w.get 2 ∧ Ph a b (t.step w).1 (t.step w).2 from
    ⟨step_of h.of, h.ok, c3, hab, ⟨step_wf w1 h.of.u, hk.1.trans w2, hk.2.1.trans w3, hk.2.2.trans w4⟩, hh.1.trans h.v2, hh.2⟩
  cases h.ph with
  | a hd hn hx hs =>
    have e : t.step w = (t.ask (w.get t.dat), w.load t.c t.dat) := by unfold Ad.step; rw [if_neg (by rw [hd]; decide), if_pos hn]
    rw [e]
    refine ⟨rfl, ?_⟩
    show Ph a b (t.ask (w.get t.dat)) (w.load t.c t.dat)
    have hst : (w.load t.c t.dat).st = 1 := by show w64 (w.st + 1) = 1; rw [hs]; decide
    have hgx : (w.load t.c t.dat).get 1 = stX a := hx
    rw [hdat, hx] at *
    unfold ask
    rw [x1]
    by_cases h2 : a = 2
    · rw [if_pos h2]
      exact .c hd rfl hgx (by unfold stE; rw [if_pos (.inl h2)]) rfl
    · rw [if_neg h2]
      by_cases h3 : a = 3
      · rw [if_pos h3, x2 h3, w2, st_place h.ok (by decide) (by omega), if_neg (by decide)]
        exact .b hd rfl hgx hst h3 rfl rfl
      · rw [if_neg h3]
        have he : stE a b = 5 := by unfold stE; rw [if_neg (by omega), if_neg h3]
        exact .f rfl (by omega) he.symm hgx (by omega)
  | b hd hn hx hs ha hby hw =>
    have e : t.step w = (t.other (w.get t.bat), w.load t.c t.bat) := by unfold Ad.step; rw [if_neg (by rw [hd]; decide), if_neg (by omega), if_pos hn]
    have hbat : t.bat = 2 := by unfold bat; rw [w2, hby]; exact st_place h.ok (by decide) (by omega)
    rw [e]
    refine ⟨rfl, ?_⟩
    show Ph a b (t.other (w.get t.bat)) (w.load t.c t.bat)
    have hst : (w.load t.c t.bat).st = 2 := by show w64 (w.st + 1) = 2; rw [hs]; decide
    have hgx : (w.load t.c t.bat).get 1 = stX a := hx
    have hkb := (kind_put (k := b) (c := 0) (by omega) (by decide) (fun _ => rfl)).1
    rw [hbat, h.v2] at *
    unfold other
    rw [hkb]
    by_cases h1 : b = 1
    · rw [if_pos h1]
      have he : stE a b = 4 := by unfold stE; rw [if_neg (by omega), if_pos ha]
      exact .f rfl (by omega) he.symm hgx (by omega)
    · rw [if_neg h1]
      exact .c hd rfl hgx (by unfold stE; rw [if_pos (.inr ⟨ha, h1⟩)]) hw
  | c hd hn hx he hw =>
    have e : t.step w = (t.claim (w.get t.dat), w.swap t.c t.dat t.was (putSt 3 t.c)) := by unfold Ad.step; rw [if_neg (by rw [hd]; decide), if_neg (by omega), if_neg (by omega), if_pos hn]
    rw [e]
    refine ⟨?_, ?_⟩
    · show (w.swap t.c t.dat t.was (putSt 3 t.c)).get 2 = _
      rw [hdat, get_swap (by decide) (by decide), if_neg (by decide)]
    · show Ph a b (t.claim (w.get t.dat)) _
      unfold claim
      rw [if_pos (by rw [hdat, hw]; exact hx)]
      exact .d ⟨hd, by show (3 : Int) ≤ 3; decide, by show (3 : Int) ≤ 13; decide⟩ he
  | d ho he =>
    obtain ⟨hd, h3, h4⟩ := ho
    by_cases h13 : t.nx ≤ 12
    · obtain ⟨ho, hg⟩ := won_step (w := w) w1 hd h3 h13
      rw [w2] at hg
      exact ⟨hg 2 (by decide) (by omega), .d ho he⟩
    · have e : t.step w = (t.fin 0, w.store t.c t.dat (putSt 4 0)) := by
        unfold Ad.step
        rw [if_neg (by rw [hd]; decide), if_neg (by omega), if_neg (by omega), if_neg (by omega), if_neg (by omega), if_neg (by omega), if_neg (by omega), if_neg (by omega), if_neg (by omega), if_neg (by omega), if_neg (by omega), if_neg (by omega), if_neg (by omega), if_neg (by omega)]
      rw [e]
      refine ⟨?_, .e rfl he rfl ?_⟩
      · show (w.store t.c t.dat (putSt 4 0)).get 2 = _
        rw [hdat, get_store (by decide) (by decide), if_neg (by decide)]
      · show (w.store t.c t.dat (putSt 4 0)).get 1 = 4
        rw [hdat, get_store (by decide) (by decide), if_pos rfl]; rfl
  | e hd he hr hx => rw [step_dn hd]; exact ⟨rfl, .e hd he hr hx⟩
  | f hd he hr hx hs => rw [step_dn hd]; exact ⟨rfl, .f hd he hr hx hs⟩
theorem One.init (hm : may s.p s.c s.m = true) (ho : w.of s) (hc : 3 ≤ s.c) (hab : 0 ≤ a ∧ a ≤ 4 ∧ 0 ≤ b ∧ b ≤ 4 ∧ b ≠ 3) (h1 : w.get 1 = stX a) (h2 : w.get 2 = putSt b 0) (hs : w.st = 0) : One s a b (new s 0 1) w := by
  have B : (new s 0 1).dn = false := by
    show (decide (status s.p s.c s.m 0 < 0) || (decide (status s.p s.c s.m 1 < 0) || decide ((0 : Int) = 1))) = false
    rw [st_place hm (by decide) (by omega), st_place hm (by decide) (by omega)]
    rfl
  exact ⟨ho, hm, hc, hab, ⟨new_wf .., rfl, rfl, rfl⟩, h2, .a B rfl h1 hs⟩
theorem One.fin (h : One s a b t w) (hd : t.dn = true) : (stE a b = 0 ∧ t.err = 0 ∧ w.get 1 = 4) ∨ (stE a b ≠ 0 ∧ t.err = stE a b ∧ w.get 1 = stX a ∧ 0 ≤ w.st ∧ w.st ≤ 2) := by
  cases h.ph with
  | a h1 => rw [hd] at h1; cases h1
  | b h1 => rw [hd] at h1; cases h1
  | c h1 => rw [hd] at h1; cases h1
  | d h1 => have h1 := h1.1; rw [hd] at h1; cases h1
  | e _ he hr hx => exact .inl ⟨he, hr, hx⟩
  | f _ he hr hx hs => exact .inr ⟨he, hr, hx, hs⟩
end Ad
end Go.Ma
