/-
  Adoptions one after the other, some of them cut: what is known of the heap between them. Conditions: none.
-/
import Derived.Test.YtfopnendmcpglaaMaPart
import Derived.Test.YtfopnendmcpglaaMaBlk
set_option linter.unusedVariables false
set_option linter.unusedSectionVars false
set_option linter.unusedSimpArgs false
namespace Go.Ma
open Go.Pl
/-- Nothing is held by a client. -/
def Free (s : Sh) (ws : Nat → Int) (e : Int) : Prop := ∀ q, 0 ≤ q → q < s.p → ¬ HeldBy s ws e q ∧ (pgK s q (pgAt s ws q) = 2 → ∀ i, 0 ≤ i → i < 16 → slAt s ws q i ≠ way e)
section
variable {s : Sh} {ws0 ws : Nat → Int} {d e : Int}
variable (hm : may s.p s.c s.m = true) (hsn : Snd s ws0) (d0 : 0 ≤ d) (d1 : d < s.c) (g : Gn s ws0 d ws)
include hm hsn d0 d1 g
theorem Gn.free : Free s ws d := fun q q0 q1 => by
  rcases g.page hm hsn d0 d1 q0 q1 with ⟨n1, n2, h⟩ | ⟨-, h, -⟩
  · refine ⟨fun hh => n1 (by unfold HeldBy at hh ⊢; rw [h] at hh; exact hh), fun hk i i0 i1 => ?_⟩
    rw [h] at hk
    exact g.x q q0 q1 hk i i0 i1
  · refine ⟨fun hh => ?_, fun hk => ?_⟩
    · have := hh.1; rw [h, pgK_zero] at this; cases this
    · rw [h, pgK_zero] at hk; cases hk
theorem Gn.free_keep (e0 : 0 ≤ e) (e1 : e < s.c) (hf : Free s ws0 e) : Free s ws e := fun q q0 q1 => by
  have hb := (may_iff _ _ _).1 hm
  rcases g.page hm hsn d0 d1 q0 q1 with ⟨n1, n2, h⟩ | ⟨-, h, -⟩
  · refine ⟨fun hh => (hf q q0 q1).1 (by unfold HeldBy at hh ⊢; rw [h] at hh; exact hh), fun hk i i0 i1 => ?_⟩
    rw [h] at hk
    rcases g.slot hm hsn d0 d1 q0 q1 i0 i1 with ⟨-, h2, -⟩ | ⟨-, -, -, h2⟩ | ⟨hh, -⟩
    · rw [h2]; exact (hf q q0 q1).2 hk i i0 i1
    · rw [h2]
      have hA := pgA_bd s q (pgAt s ws0 q)
      have on := opn_ne (pgA s q (pgAt s ws0 q)) hA.1 hA.2
      have wn := way_ne e e0 (by omega)
      intro h3
      have := congrArg slK h3
      rw [on.2.1, wn.2.1] at this; cases this
    · exact absurd hh n1
  · refine ⟨fun hh => ?_, fun hk => ?_⟩
    · have := hh.1; rw [h, pgK_zero] at this; cases this
    · rw [h, pgK_zero] at hk; cases hk
theorem Gn.blks {n : Nat} (hn : (n : Int) ≤ s.p) : blks s ws n = blks s ws0 n := blks_congr fun p hp => by
  have hb := (may_iff _ _ _).1 hm
  rcases g.page hm hsn d0 d1 (q := p) (by omega) (by omega) with ⟨n1, n2, h⟩ | ⟨hx, h, -⟩
  · refine blkPg_congr (by rw [h]) (fun _ => by rw [h]) fun hk i hi => ?_
    rcases g.slot hm hsn d0 d1 (q := p) (i := i) (by omega) (by omega) (by omega) (by omega) with ⟨-, h2, -⟩ | ⟨-, -, h3, h2⟩ | ⟨hh, -⟩
    · rw [h2]
    · have hA := pgA_bd s p (pgAt s ws0 p)
      have on := opn_ne (pgA s p (pgAt s ws0 p)) hA.1 hA.2
      have wn := way_ne d d0 (by omega)
      rw [h2, h3, on.2.1, wn.2.1]
      exact ⟨fun h => (by cases h), fun h => (by cases h)⟩
    · exact absurd hh n1
  · rw [blkPg_none (by rw [h, pgK_zero]; decide) (by rw [h, pgK_zero]; decide)]
    rcases hx with hx | hx
    · rw [blkPg_none (by rw [hx.1]; decide) (by rw [hx.1]; decide)]
    · rw [blkPg_none (by rw [hx.1]; decide) (by rw [hx.1]; decide)]
end
/-- A status is written. -/
theorem Gn.sta {s : Sh} {ws0 ws : Nat → Int} {d c y : Int} (hm : may s.p s.c s.m = true) (d0 : 0 ≤ d) (g : Gn s ws0 d ws) (h0 : 0 ≤ c) (h1 : c < s.c) : Gn s ws0 d (upW ws (status s.p s.c s.m c) y) :=
  ⟨g.pt.sta hm d0 h0 h1, fun q q0 q1 hq => by rw [pg_st hm h0 h1 q0 q1]; exact g.b q q0 q1 hq, fun q q0 q1 hq => by rw [pg_st hm h0 h1 q0 q1]; exact g.h q q0 q1 hq,
    fun i i0 i1 => by rw [mg_st hm h0 h1 d0 i0]; exact g.m i i0 i1, fun q q0 q1 hk i i0 i1 => by rw [sl_st hm h0 h1 q0 i0]; exact g.x q q0 q1 hk i i0 i1⟩
namespace Ad
variable {s : Sh} {ws0 : Nat → Int} {c d : Int} {g0 : Int → Int} {t : Ad} {w : Wd}
/-- Who adopts has said so. -/
def Said (t : Ad) (w : Wd) : Prop := t.dn = false → 3 ≤ t.nx → w.get t.d = putSt 3 t.c
theorem said_step (h : Adp s ws0 c d g0 t w) (hs : Said t w) : Said (t.step w).1 (t.step w).2 := by
  obtain ⟨w1, w2, w3, w4⟩ := h.wf
  have hm := h.ok
  have hk := step_k t w
  have hcd := h.cd
  have hdat : t.dat = d := by unfold dat; rw [w2, w4]; exact st_place hm hcd.1 hcd.2
  intro hd' hn'
  cases hd : t.dn with
  | true => rw [step_dn hd] at hd'; have hd' : t.dn = false := hd'; rw [hd] at hd'; cases hd'
  | false =>
    rw [hk.2.1, hk.2.2]
    by_cases h3 : 3 ≤ t.nx
    · by_cases h13 : t.nx ≤ 12
      · obtain ⟨-, hg⟩ := won_step (w := w) w1 hd h3 h13
        rw [hg t.d (by rw [w4]; exact hcd.1) (by rw [w4, w2]; exact hcd.2)]
        exact hs hd h3
      · cases h.ph with
        | p13 _ hn => rw [s13 hd hn] at hd'; cases hd'
        | p0 _ hn => omega
        | p1 _ hn => omega
        | p2 _ hn => omega
        | p3 _ hn => omega
        | p4 _ hn => omega
        | p5 _ hn => omega
        | p6 _ hn => omega
        | p7 _ hn => omega
        | p8 _ hn => omega
        | p9 _ hn => omega
        | p10 _ hn => omega
        | p11 _ hn => omega
        | p12 _ hn => omega
        | en hd2 => rw [hd] at hd2; cases hd2
    · cases h.ph with
      | p0 _ hn hx =>
        rw [s0 hd hn] at hn' hd'
        exfalso
        have hn' : 3 ≤ (t.ask (w.get t.dat)).nx := hn'
        unfold ask at hn'
        split at hn'
        · have : (3 : Int) ≤ 2 := hn'; omega
        · split at hn'
          · split at hn'
            · have : 3 ≤ t.nx := hn'; omega
            · have : (3 : Int) ≤ 1 := hn'; omega
          · have : 3 ≤ t.nx := hn'; omega
      | p1 _ hn =>
        rw [s1 hd hn] at hn'
        exfalso
        have hn' : 3 ≤ (t.other (w.get t.bat)).nx := hn'
        unfold other at hn'
        split at hn'
        · have : (3 : Int) ≤ 2 := hn'; omega
        · have : (3 : Int) ≤ 2 := hn'; omega
      | p2 _ hn hx hw =>
        rw [s2 hd hn]
        show (w.swap t.c t.dat t.was (putSt 3 t.c)).get t.d = _
        rw [hdat, w4, get_swap hcd.1 hcd.1, if_pos rfl, if_pos (by rw [hw]; exact hx)]
      | p3 _ hn => omega
      | p4 _ hn => omega
      | p5 _ hn => omega
      | p6 _ hn => omega
      | p7 _ hn => omega
      | p8 _ hn => omega
      | p9 _ hn => omega
      | p10 _ hn => omega
      | p11 _ hn => omega
      | p12 _ hn => omega
      | p13 _ hn => omega
      | en hd2 => rw [hd] at hd2; cases hd2
theorem Adp.init' (hm : may s.p s.c s.m = true) (ho : w.of s) (hc0 : 0 ≤ c) (hc : c < s.c) (hd0 : 0 ≤ d) (hd : d < s.c) (hcd : c ≠ d) (hw : Win s w.get d) (hs : Snd s ws0) (hp : Pt s ws0 d w.ws) : Adp s ws0 c d w.get (Ad.new s c d) w := by
  have B : (new s c d).dn = false := by
    show (decide (status s.p s.c s.m c < 0) || (decide (status s.p s.c s.m d < 0) || decide (c = d))) = false
    rw [st_place hm hc0 hc, st_place hm hd0 hd, decide_eq_false (by omega), decide_eq_false (by omega), decide_eq_false hcd]
    rfl
  exact ⟨ho, hm, ⟨new_wf .., rfl, rfl, rfl⟩, ⟨hd0, hd⟩, hw, hs, hp, fun _ _ _ _ => rfl, .p0 B rfl rfl⟩
/-- One that finds that all is done. -/
structure Nil (s : Sh) (c d : Int) (w0 : Wd) (t : Ad) (w : Wd) : Prop where
  of : w.of s
  ok : may s.p s.c s.m = true
  wf : t.wf ∧ t.s = s ∧ t.c = c ∧ t.d = d
  cd : 0 ≤ d ∧ d < s.c
  x : w.get d = putSt 4 0
  ws : w.ws = w0.ws
  ph : t.dn = true ∨ (t.dn = false ∧ t.nx = 0)
theorem Nil.step {w0 : Wd} (h : Nil s c d w0 t w) : Nil s c d w0 (t.step w).1 (t.step w).2 := by
  obtain ⟨w1, w2, w3, w4⟩ := h.wf
  have hm := h.ok
  have hk := step_k t w
  have hcd := h.cd
  have hdat : t.dat = d := by unfold dat; rw [w2, w4]; exact st_place hm hcd.1 hcd.2
  suffices hh : (t.step w).2.get d = w.get d ∧ (t.step w).2.ws = w.ws ∧ (t.step w).1.dn = true from
    ⟨step_of h.of, hm, ⟨step_wf w1 h.of.u, hk.1.trans w2, hk.2.1.trans w3, hk.2.2.trans w4⟩, hcd, hh.1.trans h.x, hh.2.1.trans h.ws, .inl hh.2.2⟩
  rcases h.ph with hd | ⟨hd, hn⟩
  · rw [step_dn hd]; exact ⟨rfl, rfl, hd⟩
  · rw [s0 hd hn]
    refine ⟨rfl, rfl, ?_⟩
    show (t.ask (w.get t.dat)).dn = true
    rw [hdat, h.x]
    unfold ask
    rw [if_neg (by decide), if_neg (by decide)]
theorem Nil.init (hm : may s.p s.c s.m = true) (ho : w.of s) (hc0 : 0 ≤ c) (hc : c < s.c) (hd0 : 0 ≤ d) (hd : d < s.c) (hcd : c ≠ d) (hx : w.get d = putSt 4 0) : Nil s c d w (Ad.new s c d) w := by
  have B : (new s c d).dn = false := by
    show (decide (status s.p s.c s.m c < 0) || (decide (status s.p s.c s.m d < 0) || decide (c = d))) = false
    rw [st_place hm hc0 hc, st_place hm hd0 hd, decide_eq_false (by omega), decide_eq_false (by omega), decide_eq_false hcd]
    rfl
  exact ⟨ho, hm, ⟨new_wf .., rfl, rfl, rfl⟩, ⟨hd0, hd⟩, hx, rfl, .inr ⟨B, rfl⟩⟩
end Ad
/-! ### The stages -/
/-- Ahead of the adopter j; the heap was sound as A. -/
structure Stg (s : Sh) (A : Nat → Int) (j : Int) (w : Wd) : Prop where
  of : w.of s
  snd : Snd s A
  dd : ∀ x, 1 ≤ x → x < j → w.get x = putSt 2 0
  lv : ∀ x, 1 ≤ x → j ≤ x → x < s.c → w.get x = putSt 1 0
  ph : (w.get 0 = putSt 4 0 ∧ Gn s A 0 w.ws) ∨ (Pt s A 0 w.ws ∧ (w.get 0 = putSt 2 0 ∨ ∃ b, 1 ≤ b ∧ b < j ∧ w.get 0 = putSt 3 b))
/-- While the adopter c adopts d; behind it, whoever is behind it. -/
structure Run (s : Sh) (A : Nat → Int) (c d : Int) (w0 : Wd) (t : Ad) (w : Wd) : Prop where
  of : w.of s
  wf : t.wf ∧ t.s = s
  st : ∀ x, 0 ≤ x → x < s.c → x ≠ d → w.get x = w0.get x
  ph : (Ad.Adp s A c d w0.get t w ∧ Ad.Said t w) ∨ (d = 0 ∧ Ad.Nil s c d w0 t w ∧ Gn s A d w0.ws)
namespace Run
variable {s : Sh} {A : Nat → Int} {c d : Int} {w0 w : Wd} {t : Ad}
theorem step (hm : may s.p s.c s.m = true) (h : Run s A c d w0 t w) : Run s A c d w0 (t.step w).1 (t.step w).2 := by
  rcases h.ph with ⟨ha, hs⟩ | ⟨e, hn, hg⟩
  · have h1 := ha.step
    have h2 := Ad.said_step ha hs
    exact ⟨h1.of, ⟨h1.wf.1, h1.wf.2.1⟩, h1.st, .inl ⟨h1, h2⟩⟩
  · have h1 := hn.step
    refine ⟨h1.of, ⟨h1.wf.1, h1.wf.2.1⟩, fun x x0 x1 x2 => ?_, .inr ⟨e, h1, hg⟩⟩
    unfold Wd.get; rw [h1.ws]
theorem fin (h : Run s A c d w0 t w) (hd : t.dn = true) : w.get d = putSt 4 0 ∧ Gn s A d w.ws := by
  rcases h.ph with ⟨ha, hs⟩ | ⟨e, hn, hg⟩
  · exact (ha.fin hd).2
  · exact ⟨hn.x, by rw [hn.ws]; exact hg⟩
end Run
section
variable {s : Sh} {A : Nat → Int} {j : Int} {w : Wd}
theorem Stg.run (hm : may s.p s.c s.m = true) (h : Stg s A j w) (j1 : 1 ≤ j) (j2 : j < s.c) : Run s A j 0 w (Ad.new s j 0) w := by
  have hb := (may_iff _ _ _).1 hm
  rcases h.ph with ⟨hx, hg⟩ | ⟨hp, hx⟩
  · have hn := Ad.Nil.init hm h.of (by omega) j2 (by decide) (by omega) (by omega) hx
    exact ⟨h.of, ⟨Ad.new_wf .., rfl⟩, fun _ _ _ _ => rfl, .inr ⟨rfl, hn, hg⟩⟩
  · have hw : Ad.Win s w.get 0 := by
      rcases hx with hx | ⟨b, b1, b2, hx⟩
      · left; rw [hx]; decide
      · right
        obtain ⟨k1, k2, -⟩ := Ad.kind_put (k := 3) (c := b) (by omega) (by omega) (fun h => absurd rfl h)
        rw [hx, k1, k2]
        refine ⟨rfl, by omega, by omega, by omega, ?_⟩
        rw [h.dd b b1 b2]; decide
    have ha := Ad.Adp.init' hm h.of (by omega) j2 (by decide) (by omega) (by omega) hw h.snd hp
    exact ⟨h.of, ⟨Ad.new_wf .., rfl⟩, fun _ _ _ _ => rfl, .inl ⟨ha, fun hd hn => by have : (3 : Int) ≤ 0 := hn; omega⟩⟩
/-- The adopter is killed: the next stage. -/
theorem Stg.next {t : Ad} {w0 : Wd} (hm : may s.p s.c s.m = true) (h : Stg s A j w0) (j1 : 1 ≤ j) (j2 : j < s.c) (hr : Run s A j 0 w0 t w) : Stg s A (j + 1) (w.put j (putSt 2 0)) := by
  have hb := (may_iff _ _ _).1 hm
  have hpw : (w.put j (putSt 2 0)).ws = upW w.ws (status s.p s.c s.m j) (putSt 2 0) := by rw [status_yes hm (by omega) j2]; rfl
  have g0 : (w.put j (putSt 2 0)).get 0 = w.get 0 := by rw [get_put (by omega) (by decide), if_neg (by omega)]
  refine ⟨Wd.of_put hr.of (U_putSt ..) _, h.snd, fun x x1 x2 => ?_, fun x x1 x2 x3 => ?_, ?_⟩
  · rw [get_put (by omega) (by omega)]
    by_cases e : x = j
    · rw [if_pos e]
    · rw [if_neg e, hr.st x (by omega) (by omega) (by omega)]; exact h.dd x x1 (by omega)
  · rw [get_put (by omega) (by omega), if_neg (by omega), hr.st x (by omega) x3 (by omega)]; exact h.lv x x1 (by omega) x3
  · rw [hpw, g0]
    rcases hr.ph with ⟨ha, hs⟩ | ⟨-, hn, hg⟩
    · cases hd : t.dn
      · right
        refine ⟨ha.pt.sta hm (by decide) (by omega) j2, ?_⟩
        by_cases h3 : 3 ≤ t.nx
        · right
          have := hs hd h3
          rw [ha.wf.2.2.2, ha.wf.2.2.1] at this
          exact ⟨j, j1, by omega, this⟩
        · have hx : w.get 0 = w0.get 0 := by
            cases ha.ph with
            | p0 _ hn hx => exact hx
            | p1 _ hn hx => exact hx
            | p2 _ hn hx => exact hx
            | p3 _ hn => omega
            | p4 _ hn => omega
            | p5 _ hn => omega
            | p6 _ hn => omega
            | p7 _ hn => omega
            | p8 _ hn => omega
            | p9 _ hn => omega
            | p10 _ hn => omega
            | p11 _ hn => omega
            | p12 _ hn => omega
            | p13 _ hn => omega
            | en hd2 => rw [hd] at hd2; cases hd2
          rw [hx]
          rcases h.ph with ⟨h4, -⟩ | ⟨-, h2 | ⟨b, b1, b2, h3'⟩⟩
          · exfalso
            have hw := ha.wi
            rcases hw with hw | ⟨hw, -⟩
            · rw [h4] at hw; exact absurd hw (by decide)
            · rw [h4] at hw; exact absurd hw (by decide)
          · exact .inl h2
          · exact .inr ⟨b, b1, by omega, h3'⟩
      · left
        obtain ⟨-, hx, hg⟩ := ha.fin hd
        exact ⟨hx, hg.sta hm (by decide) (by omega) j2⟩
    · left
      exact ⟨hn.x, by rw [hn.ws]; exact hg.sta hm (by decide) (by omega) j2⟩
/-- The last one has adopted those below d. -/
structure Lst (s : Sh) (A : Nat → Int) (d : Int) (w : Wd) : Prop where
  of : w.of s
  snd : Snd s w.ws
  bl : ∀ n : Nat, (n : Int) ≤ s.p → blks s w.ws n = blks s A n
  fr : ∀ e, 0 ≤ e → e < d → Free s w.ws e
  dd : ∀ x, d ≤ x → x < s.c - 1 → w.get x = putSt 2 0
theorem Lst.run (hm : may s.p s.c s.m = true) {d : Int} (h : Lst s A d w) (d0 : 0 ≤ d) (d1 : d < s.c - 1) : Run s w.ws (s.c - 1) d w (Ad.new s (s.c - 1) d) w := by
  have hb := (may_iff _ _ _).1 hm
  have hw : Ad.Win s w.get d := by left; rw [h.dd d (Int.le_refl _) d1]; decide
  have ha := Ad.Adp.init' (c := s.c - 1) hm h.of (by omega) (by omega) d0 (by omega) (by omega) hw h.snd (Pt.self ..)
  exact ⟨h.of, ⟨Ad.new_wf .., rfl⟩, fun _ _ _ _ => rfl, .inl ⟨ha, fun hd hn => by have : (3 : Int) ≤ 0 := hn; omega⟩⟩
theorem Lst.next (hm : may s.p s.c s.m = true) {d : Int} {t : Ad} {w0 : Wd} (h : Lst s A d w0) (d0 : 0 ≤ d) (d1 : d < s.c - 1) (hr : Run s w0.ws (s.c - 1) d w0 t w) (hd : t.dn = true) : w.get d = putSt 4 0 ∧ Lst s A (d + 1) w := by
  obtain ⟨hx, g⟩ := hr.fin hd
  refine ⟨hx, hr.of, g.snd hm h.snd d0 (by omega), fun n hn => (g.blks hm h.snd d0 (by omega) hn).trans (h.bl n hn), fun e e0 e1 => ?_, fun x x1 x2 => ?_⟩
  · by_cases ee : e = d
    · subst ee; exact g.free hm h.snd d0 (by omega)
    · exact g.free_keep hm h.snd d0 (by omega) e0 (by omega) (h.fr e e0 (by omega))
  · rw [hr.st x (by omega) (by omega) (by omega)]; exact h.dd x (by omega) x2
/-- The first one's adoption by the last one. -/
theorem Stg.last (hm : may s.p s.c s.m = true) {t : Ad} {w0 : Wd} (h : Stg s A (s.c - 1) w0) (hc : 2 ≤ s.c) (hr : Run s A (s.c - 1) 0 w0 t w) (hd : t.dn = true) : w.get 0 = putSt 4 0 ∧ Lst s A 1 w := by
  obtain ⟨hx, g⟩ := hr.fin hd
  refine ⟨hx, hr.of, g.snd hm h.snd (by decide) (by omega), fun n hn => g.blks hm h.snd (by decide) (by omega) hn, fun e e0 e1 => ?_, fun x x1 x2 => ?_⟩
  · have : e = 0 := by omega
    subst this; exact g.free hm h.snd (by decide) (by omega)
  · rw [hr.st x (by omega) (by omega) (by omega)]; exact h.dd x (by omega) x2
end
end Go.Ma
