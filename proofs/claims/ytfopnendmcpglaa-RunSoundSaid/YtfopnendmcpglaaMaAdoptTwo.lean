/-
  Two that adopt the same dead client: just one does. One alone, whatever the statuses are. Conditions: none.
-/
import Derived.Test.YtfopnendmcpglaaMaAdopt
import Derived.Test.YtfopnendmcpglaaMaMany
import Derived.Test.YtfopnendmcpglaaMaIts
set_option linter.unusedVariables false
set_option linter.unusedSimpArgs false
namespace Go.Ma
open Go.Pl
namespace Ad
variable {s : Sh} {a b t : Ad} {w : Wd} {ca cb d : Int}
theorem st_place {s : Sh} (hm : may s.p s.c s.m = true) {i : Int} (h0 : 0 ≤ i) (h1 : i < s.c) : status s.p s.c s.m i = i := by
  unfold status within; rw [hm]; simp; omega
theorem kind_put {k c : Int} (hk : 0 ≤ k ∧ k ≤ 4) (hc : 0 ≤ c ∧ c ≤ 255) (h : k ≠ 3 → c = 0) : stK (putSt k c) = k ∧ stB (putSt k c) = c ∧ putSt k c = k + 16 * c := by
  have e : putSt k c = k + 16 * c := if_pos (by omega)
  have e1 : (k + 16 * c) % 16 = k := by omega
  have e2 : pt (k + 16 * c) 16 = c := by unfold pt; omega
  refine ⟨?_, ?_, e⟩
  · unfold stK; rw [e, e1, e2, if_pos e]
  · unfold stB; rw [e, e1, e2, if_pos e]
def On (t : Ad) : Prop := t.dn = false ∧ 3 ≤ t.nx ∧ t.nx ≤ 13
theorem On.turn (hd : t.dn = false) (x y : Int) (h1 : 3 ≤ x ∧ x ≤ 13) (h2 : 3 ≤ y ∧ y ≤ 13) : (t.turn x y).On := by
  refine ⟨((turn_k t x y).2.2.2.1).trans hd, ?_⟩
  unfold Ad.turn
  split
  · show 3 ≤ (if y = 9 ∧ t.s.m = 0 then (10 : Int) else y) ∧ (if y = 9 ∧ t.s.m = 0 then (10 : Int) else y) ≤ 13
    split <;> omega
  · exact h1
theorem On.slot (hd : t.dn = false) : t.slot.On := by
  unfold Ad.slot; split
  · exact On.turn (t := { t with i := 0, di := t.di + 1, nx := 11 }) hd 10 13 (by decide) (by decide)
  · exact ⟨hd, by show (3 : Int) ≤ 11; decide, by show (11 : Int) ≤ 13; decide⟩
/-- A step of one that has adopted it touches no status, and goes on. -/
theorem won_step (h : t.wf) (hd : t.dn = false) (h3 : 3 ≤ t.nx) (h4 : t.nx ≤ 12) : (t.step w).1.On ∧ ∀ q, 0 ≤ q → q < t.s.c → (t.step w).2.get q = w.get q := by
  obtain ⟨hm, he, hcd, ar⟩ := h.of hd
  unfold Ar at ar
  have hb := (may_iff _ _ _).1 hm
  have pp : t.pat = t.s.c + t.at' := page_yes hm (by omega) (by omega)
  have sp : 0 ≤ t.i → t.i < 16 → t.sat = t.s.c + t.s.p + t.at' * 16 + t.i := fun h1 h2 => slot_yes hm (by omega) (by omega) h1 h2
  have G : ∀ a y : Int, t.s.c ≤ a → ∀ q, 0 ≤ q → q < t.s.c → (w.store t.c a y).get q = w.get q := fun a y ha q h1 h2 => by
    rw [get_store (by omega) (by omega), if_neg (by omega)]
  have sb := slots_bd t.pA
  rcases step_cases t w with ⟨e, -⟩ | ⟨-, ⟨hn, e⟩ | ⟨hn, e⟩ | ⟨hn, e⟩ | ⟨hn, e⟩ | ⟨hn, e⟩ | ⟨hn, e⟩ | ⟨hn, e⟩ | ⟨hn, e⟩ | ⟨hn, e⟩ | ⟨hn, e⟩ | ⟨hn, e⟩ | ⟨hn, e⟩ | ⟨hn, e⟩ | ⟨hn, e⟩⟩
  · rw [hd] at e; cases e
  · omega
  · omega
  · omega
  rotate_right
  · omega
  all_goals rw [e]
  · refine ⟨?_, fun _ _ _ => rfl⟩
    show (t.bodies _).On
    unfold bodies; split
    · exact ⟨hd, by show (3 : Int) ≤ 4; decide, by show (4 : Int) ≤ 13; decide⟩
    · exact On.turn (t := t.read _) hd 3 6 (by decide) (by decide)
  · refine ⟨?_, fun _ _ _ => rfl⟩
    show (t.head _).On
    unfold head; split
    · exact ⟨hd, by show (3 : Int) ≤ 5; decide, by show (5 : Int) ≤ 13; decide⟩
    · exact On.turn hd 3 6 (by decide) (by decide)
  · exact ⟨On.turn hd 3 6 (by decide) (by decide), G _ _ (by omega)⟩
  · refine ⟨?_, fun _ _ _ => rfl⟩
    show (t.pages _).On
    unfold pages; split
    · exact ⟨hd, by show (3 : Int) ≤ 7; decide, by show (7 : Int) ≤ 13; decide⟩
    · exact On.turn hd 6 9 (by decide) (by decide)
  · refine ⟨⟨hd, ?_⟩, G _ _ (by have := sp (by omega) (by omega); omega)⟩
    show 3 ≤ (if t.i + 1 = 16 then (8 : Int) else 7) ∧ (if t.i + 1 = 16 then (8 : Int) else 7) ≤ 13
    split <;> omega
  · exact ⟨On.turn hd 6 9 (by decide) (by decide), G _ _ (by omega)⟩
  · refine ⟨?_, G _ _ ?_⟩
    · show t.entry.On
      unfold entry; split
      · exact ⟨hd, by show (3 : Int) ≤ 10; decide, by show (10 : Int) ≤ 13; decide⟩
      · exact ⟨hd, by show 3 ≤ t.nx; omega, by show t.nx ≤ 13; omega⟩
    · have e1 : t.mat = t.s.c + t.s.p + t.s.p * 16 + t.d * t.s.m + t.i := mag_yes hm (by omega) (by omega) (by omega) (by omega)
      have := Int.mul_nonneg (a := t.d) (b := t.s.m) (by omega) (by omega)
      omega
  · refine ⟨?_, fun _ _ _ => rfl⟩
    show (t.supers _).On
    unfold supers; split
    · exact ⟨hd, by show (3 : Int) ≤ 11; decide, by show (11 : Int) ≤ 13; decide⟩
    · exact On.turn (t := t.read _) hd 10 13 (by decide) (by decide)
  · refine ⟨?_, fun _ _ _ => rfl⟩
    show (t.slots' _).On
    unfold slots'; split
    · exact ⟨hd, by show (3 : Int) ≤ 12; decide, by show (12 : Int) ≤ 13; decide⟩
    · exact On.slot hd
  · exact ⟨On.slot hd, G _ _ (by have := sp (by omega) (by omega); omega)⟩

/-! ### Two -/
def Try (t : Ad) : Prop := t.dn = false ∧ (t.nx = 0 ∨ (t.nx = 2 ∧ t.was = 2))
def Lost (t : Ad) (o : Int) : Prop := (t.dn = false ∧ (t.nx = 0 ∨ (t.nx = 2 ∧ t.was = 2) ∨ (t.nx = 1 ∧ t.by' = o))) ∨ (t.dn = true ∧ (t.err = 4 ∨ t.err = 5))
theorem Try.lost {o : Int} (h : t.Try) : t.Lost o := .inl ⟨h.1, h.2.elim .inl fun h => .inr (.inl h)⟩
/-- One has adopted it, the other has not. -/
def Ahead (x ca : Int) (a b : Ad) : Prop := (x = 3 + 16 * ca ∧ a.On ∧ b.Lost ca) ∨ (x = 4 ∧ (a.dn = true ∧ a.err = 0) ∧ b.Lost ca)
structure Two (s : Sh) (ca cb d : Int) (a b : Ad) (w : Wd) : Prop where
  of : w.of s
  ok : may s.p s.c s.m = true
  ch : 0 ≤ ca ∧ ca < s.c ∧ 0 ≤ cb ∧ cb < s.c ∧ 0 ≤ d ∧ d < s.c ∧ ca ≠ d ∧ cb ≠ d
  wa : a.wf ∧ a.s = s ∧ a.c = ca ∧ a.d = d
  wb : b.wf ∧ b.s = s ∧ b.c = cb ∧ b.d = d
  va : w.get ca = 1
  vb : w.get cb = 1
  ph : (w.get d = 2 ∧ a.Try ∧ b.Try) ∨ Ahead (w.get d) ca a b ∨ Ahead (w.get d) cb b a
theorem Two.symm (h : Two s ca cb d a b w) : Two s cb ca d b a w :=
  ⟨h.of, h.ok, ⟨h.ch.2.2.1, h.ch.2.2.2.1, h.ch.1, h.ch.2.1, h.ch.2.2.2.2.1, h.ch.2.2.2.2.2.1, h.ch.2.2.2.2.2.2.2, h.ch.2.2.2.2.2.2.1⟩, h.wb, h.wa, h.vb, h.va, by
    rcases h.ph with ⟨h1, h2, h3⟩ | h1 | h1
    · exact .inl ⟨h1, h3, h2⟩
    · exact .inr (.inr h1)
    · exact .inr (.inl h1)⟩
/-- A step of one that has lost, or tries. -/
theorem lost_step (hwf : t.wf) (hs : t.s = s) (hdd : t.d = d) (hm : may s.p s.c s.m = true) (hd : 0 ≤ d ∧ d < s.c) {o : Int} (ho : 0 ≤ o ∧ o < s.c) (hv : w.get o = 1) (hx : w.get d = 3 + 16 * o ∨ w.get d = 4) (h : t.Lost o) : (t.step w).1.Lost o ∧ ∀ q, 0 ≤ q → q < s.c → (t.step w).2.get q = w.get q := by
  have hb := (may_iff _ _ _).1 hm
  have kx : (stK (w.get d) = 3 ∧ stB (w.get d) = o) ∨ stK (w.get d) = 4 := by
    rcases hx with hx | hx
    · have := kind_put (k := 3) (c := o) (by decide) (by omega) (fun h => absurd rfl h)
      rw [hx, ← this.2.2]; exact .inl ⟨this.1, this.2.1⟩
    · have := kind_put (k := 4) (c := 0) (by decide) (by decide) (fun h => rfl)
      rw [hx, show (4 : Int) = putSt 4 0 from rfl]; exact .inr this.1
  have ko : stK (w.get o) = 1 := by rw [hv]; decide
  rcases h with ⟨h1, h2⟩ | ⟨h1, h2⟩
  rotate_left
  · rw [step_dn h1]; exact ⟨.inr ⟨h1, h2⟩, fun _ _ _ => rfl⟩
  have hdat : t.dat = d := by unfold dat; rw [hs, hdd]; exact st_place hm hd.1 hd.2
  rcases step_cases t w with ⟨e, -⟩ | ⟨-, ⟨hn, e⟩ | ⟨hn, e⟩ | ⟨hn, e⟩ | ⟨hn, e⟩ | ⟨hn, e⟩ | ⟨hn, e⟩ | ⟨hn, e⟩ | ⟨hn, e⟩ | ⟨hn, e⟩ | ⟨hn, e⟩ | ⟨hn, e⟩ | ⟨hn, e⟩ | ⟨hn, e⟩ | ⟨hn, e⟩⟩
  · rw [h1] at e; cases e
  · rw [e]
    refine ⟨?_, fun _ _ _ => rfl⟩
    show (t.ask (w.get t.dat)).Lost o
    rw [hdat]
    unfold ask
    rcases kx with ⟨k1, k2⟩ | k1
    · rw [k1, k2, if_neg (by decide), if_pos rfl, hs, st_place hm ho.1 ho.2, if_neg (by omega)]
      exact .inl ⟨h1, .inr (.inr ⟨rfl, rfl⟩)⟩
    · rw [k1, if_neg (by decide), if_neg (by decide)]
      exact .inr ⟨rfl, .inr rfl⟩
  · rw [e]
    refine ⟨?_, fun _ _ _ => rfl⟩
    have h3 : t.by' = o := by omega
    have hbat : t.bat = o := by unfold bat; rw [hs, h3]; exact st_place hm ho.1 ho.2
    show (t.other (w.get t.bat)).Lost o
    rw [hbat]
    unfold other
    rw [ko, if_pos rfl]
    exact .inr ⟨rfl, .inl rfl⟩
  · rw [e]
    have h3 : t.was = 2 := by omega
    have hne : w.get t.dat ≠ t.was := by rw [hdat, h3]; omega
    refine ⟨?_, fun q h4 h5 => ?_⟩
    · show (t.claim (w.get t.dat)).Lost o
      unfold claim
      rw [if_neg hne]
      exact .inr ⟨rfl, .inl rfl⟩
    · show (w.swap t.c t.dat t.was (putSt 3 t.c)).get q = _
      rw [get_swap (by omega) h4, if_neg hne]
      split
      · rename_i hq; rw [hq]
      · rfl
  all_goals omega
theorem Two.step (h : Two s ca cb d a b w) : Two s ca cb d (a.step w).1 b (a.step w).2 := by
  obtain ⟨c1, c2, c3, c4, c5, c6, c7, c8⟩ := h.ch
  obtain ⟨w1, w2, w3, w4⟩ := h.wa
  have hk := step_k a w
  have hb := (may_iff _ _ _).1 h.ok
  have hdat : a.dat = d := by unfold dat; rw [w2, w4]; exact st_place h.ok c5 c6
  have K : ∀ {P : Prop}, (∀ q, 0 ≤ q → q < s.c → (a.step w).2.get q = w.get q) → ((a.step w).2.get d = w.get d → P) → (a.step w).2.get ca = 1 ∧ (a.step w).2.get cb = 1 ∧ P := fun hg hp =>
    ⟨by rw [hg ca c1 c2]; exact h.va, by rw [hg cb c3 c4]; exact h.vb, hp (hg d c5 c6)⟩
  suffices hh : (a.step w).2.get ca = 1 ∧ (a.step w).2.get cb = 1 ∧ (((a.step w).2.get d = 2 ∧ (a.step w).1.Try ∧ b.Try) ∨ Ahead ((a.step w).2.get d) ca (a.step w).1 b ∨ Ahead ((a.step w).2.get d) cb b (a.step w).1) from
    ⟨step_of h.of, h.ok, h.ch, ⟨step_wf w1 h.of.u, hk.1.trans w2, hk.2.1.trans w3, hk.2.2.trans w4⟩, h.wb, hh.1, hh.2.1, hh.2.2⟩
  rcases h.ph with ⟨hx, ⟨hd, ht⟩, hbt⟩ | hA | hA
  · rcases step_cases a w with ⟨e, -⟩ | ⟨-, ⟨hn, e⟩ | ⟨hn, e⟩ | ⟨hn, e⟩ | ⟨hn, e⟩ | ⟨hn, e⟩ | ⟨hn, e⟩ | ⟨hn, e⟩ | ⟨hn, e⟩ | ⟨hn, e⟩ | ⟨hn, e⟩ | ⟨hn, e⟩ | ⟨hn, e⟩ | ⟨hn, e⟩ | ⟨hn, e⟩⟩
    · rw [hd] at e; cases e
    · rw [e]
      refine ⟨h.va, h.vb, .inl ⟨hx, ?_, hbt⟩⟩
      show (a.ask (w.get a.dat)).Try
      rw [hdat, hx]
      exact ⟨hd, .inr ⟨rfl, rfl⟩⟩
    · omega
    · rw [e]
      have h3 : a.was = 2 := by omega
      have G : ∀ q, 0 ≤ q → (w.swap a.c a.dat a.was (putSt 3 a.c)).get q = if q = d then putSt 3 a.c else w.get q := fun q hq => by
        rw [hdat, get_swap c5 hq, h3, if_pos hx]
      have e3 := (kind_put (k := 3) (c := ca) (by decide) (by omega) (fun h => absurd rfl h)).2.2
      refine ⟨?_, ?_, .inr (.inl (.inl ⟨?_, ?_, hbt.lost⟩))⟩
      · show (w.swap a.c a.dat a.was (putSt 3 a.c)).get ca = 1
        rw [G _ c1, if_neg c7]; exact h.va
      · show (w.swap a.c a.dat a.was (putSt 3 a.c)).get cb = 1
        rw [G _ c3, if_neg c8]; exact h.vb
      · show (w.swap a.c a.dat a.was (putSt 3 a.c)).get d = _
        rw [G _ c5, if_pos rfl, w3]; exact e3
      · show (a.claim (w.get a.dat)).On
        unfold claim
        rw [if_pos (by rw [hdat, h3]; exact hx)]
        exact ⟨hd, by show (3 : Int) ≤ 3; decide, by show (3 : Int) ≤ 13; decide⟩
    all_goals omega
  · rcases hA with ⟨hx, ⟨hd, h3, h4⟩, hl⟩ | ⟨hx, ⟨hd, he⟩, hl⟩
    · by_cases h13 : a.nx ≤ 12
      · obtain ⟨ho, hg⟩ := won_step (w := w) w1 hd h3 h13
        rw [w2] at hg
        exact K hg fun hz => .inr (.inl (.inl ⟨by rw [hz]; exact hx, ho, hl⟩))
      · rcases step_cases a w with ⟨e, -⟩ | ⟨-, ⟨hn, e⟩ | ⟨hn, e⟩ | ⟨hn, e⟩ | ⟨hn, e⟩ | ⟨hn, e⟩ | ⟨hn, e⟩ | ⟨hn, e⟩ | ⟨hn, e⟩ | ⟨hn, e⟩ | ⟨hn, e⟩ | ⟨hn, e⟩ | ⟨hn, e⟩ | ⟨hn, e⟩ | ⟨hn, e⟩⟩
        · rw [hd] at e; cases e
        rotate_right
        · rw [e]
          have G : ∀ q, 0 ≤ q → (w.store a.c a.dat (putSt 4 0)).get q = if q = d then putSt 4 0 else w.get q := fun q hq => by
            rw [hdat, get_store c5 hq]
          refine ⟨?_, ?_, .inr (.inl (.inr ⟨?_, ⟨rfl, rfl⟩, hl⟩))⟩
          · show (w.store a.c a.dat (putSt 4 0)).get ca = 1
            rw [G _ c1, if_neg c7]; exact h.va
          · show (w.store a.c a.dat (putSt 4 0)).get cb = 1
            rw [G _ c3, if_neg c8]; exact h.vb
          · show (w.store a.c a.dat (putSt 4 0)).get d = 4
            rw [G _ c5, if_pos rfl]; rfl
        all_goals omega
    · rw [step_dn hd]
      exact ⟨h.va, h.vb, .inr (.inl (.inr ⟨hx, ⟨hd, he⟩, hl⟩))⟩
  · have hx : w.get d = 3 + 16 * cb ∨ w.get d = 4 := hA.elim (fun h => .inl h.1) (fun h => .inr h.1)
    have hl : a.Lost cb := hA.elim (fun h => h.2.2) (fun h => h.2.2)
    obtain ⟨l1, l2⟩ := lost_step w1 w2 w4 h.ok ⟨c5, c6⟩ ⟨c3, c4⟩ h.vb hx hl
    refine K l2 fun hz => .inr (.inr ?_)
    rw [hz]
    rcases hA with ⟨g1, g2, -⟩ | ⟨g1, g2, -⟩
    · exact .inl ⟨g1, g2, l1⟩
    · exact .inr ⟨g1, g2, l1⟩
theorem Two.step2 (h : Two s ca cb d a b w) : Two s ca cb d a (b.step w).1 (b.step w).2 := h.symm.step.symm
/-- Both are done: one has adopted it, the other was told. -/
theorem Two.one (h : Two s ca cb d a b w) (da : a.dn = true) (db : b.dn = true) : w.get d = 4 ∧ ((a.err = 0 ∧ (b.err = 4 ∨ b.err = 5)) ∨ (b.err = 0 ∧ (a.err = 4 ∨ a.err = 5))) := by
  have L : ∀ {t : Ad} {o : Int}, t.dn = true → t.Lost o → t.err = 4 ∨ t.err = 5 := fun hd hl => by
    rcases hl with ⟨h1, -⟩ | ⟨-, h1⟩
    · rw [hd] at h1; cases h1
    · exact h1
  rcases h.ph with ⟨-, ⟨h1, -⟩, -⟩ | h1 | h1
  · rw [da] at h1; cases h1
  · rcases h1 with ⟨-, ⟨h2, -⟩, -⟩ | ⟨h2, ⟨-, h3⟩, h4⟩
    · rw [da] at h2; cases h2
    · exact ⟨h2, .inl ⟨h3, L db h4⟩⟩
  · rcases h1 with ⟨-, ⟨h2, -⟩, -⟩ | ⟨h2, ⟨-, h3⟩, h4⟩
    · rw [db] at h2; cases h2
    · exact ⟨h2, .inr ⟨h3, L da h4⟩⟩
theorem Two.init (hm : may s.p s.c s.m = true) (ho : w.of s) (hc : 3 ≤ s.c) (h0 : w.get 0 = 1) (h1 : w.get 1 = 1) (h2 : w.get 2 = 2) : Two s 0 1 2 (new s 0 2) (new s 1 2) w := by
  have B : ∀ c : Int, 0 ≤ c → c < 2 → (new s c 2).dn = false := fun c h0 h1 => by
    show (decide (status s.p s.c s.m c < 0) || (decide (status s.p s.c s.m 2 < 0) || decide (c = 2))) = false
    rw [st_place hm h0 (by omega), st_place hm (by decide) (by omega), decide_eq_false (by omega), decide_eq_false (by decide), decide_eq_false (by omega)]
    rfl
  exact ⟨ho, hm, by omega, ⟨new_wf .., rfl, rfl, rfl⟩, ⟨new_wf .., rfl, rfl, rfl⟩, h0, h1, .inl ⟨h2, ⟨B 0 (by decide) (by decide), .inl rfl⟩, ⟨B 1 (by decide) (by decide), .inl rfl⟩⟩⟩
/-- What stays over a run. -/
theorem its_all (h : t.wf) (ho : w.of s) (n : Nat) : (its Ad.step n t w).1.wf ∧ (its Ad.step n t w).2.of s ∧ (its Ad.step n t w).1.s = t.s ∧ (its Ad.step n t w).1.c = t.c ∧ (its Ad.step n t w).1.d = t.d :=
  its_inv (P := fun (x : Ad) (y : Wd) => x.wf ∧ y.of s ∧ x.s = t.s ∧ x.c = t.c ∧ x.d = t.d) (fun x y ⟨h1, h2, h3, h4, h5⟩ => by
    have hk := step_k x y
    exact ⟨step_wf h1 h2.u, step_of h2, hk.1.trans h3, hk.2.1.trans h4, hk.2.2.trans h5⟩) ⟨h, ho, rfl, rfl, rfl⟩ n
end Ad
end Go.Ma
