/-
  A dead one is adopted, in a heap that was sound, alone: each step keeps what is known. Conditions: none.
-/
import Derived.Test.YtfopnendmcpglaaMaPart2
set_option linter.unusedVariables false
set_option linter.unusedSectionVars false
set_option linter.unusedSimpArgs false
namespace Go.Ma
open Go.Pl
namespace Ad
variable {s : Sh} {ws0 : Nat → Int} {c d : Int} {g0 : Int → Int} {t : Ad} {w : Wd}
theorem get_far {w : Wd} {c a y x : Int} (h0 : 0 ≤ x) (h1 : x < a) : (w.store c a y).get x = w.get x := by rw [get_store (by omega) h0, if_neg (by omega)]
set_option maxHeartbeats 1000000 in
theorem Adp.step (h : Adp s ws0 c d g0 t w) : Adp s ws0 c d g0 (t.step w).1 (t.step w).2 := by
  obtain ⟨w1, w2, w3, w4⟩ := h.wf
  have hm := h.ok
  have hkp := step_k t w
  have hb := (may_iff _ _ _).1 hm
  have hcd := h.cd
  have hpt := h.pt
  have hdat : t.dat = d := by unfold dat; rw [w2, w4]; exact st_place hm hcd.1 hcd.2
  suffices hh : Pt s ws0 d (t.step w).2.ws ∧ (∀ x, 0 ≤ x → x < s.c → x ≠ d → (t.step w).2.get x = w.get x) ∧ Pa s ws0 d g0 (t.step w).1 (t.step w).2 from
    ⟨step_of h.of, hm, ⟨step_wf w1 h.of.u, hkp.1.trans w2, hkp.2.1.trans w3, hkp.2.2.trans w4⟩, hcd, h.wi, h.snd, hh.1, fun x x0 x1 x2 => (hh.2.1 x x0 x1 x2).trans (h.st x x0 x1 x2), hh.2.2⟩
  have bnd : t.dn = false → 0 ≤ t.at' ∧ t.at' < s.p ∧ 0 ≤ t.i ∧ t.i ≤ 16 ∧ (t.nx = 7 → t.i < 16) ∧ (t.nx = 9 → t.i < s.m) ∧ (t.nx = 11 ∨ t.nx = 12 → t.i < slots t.pA) ∧ (t.nx = 4 → 0 ≤ t.pA ∧ t.pA < t.at') := fun hd => by
    obtain ⟨a1, a2, a3, a4⟩ := w1.of hd
    unfold Ar at a4
    rw [w2] at a4
    exact ⟨by omega, by omega, by omega, by omega, fun e => by have := a4; omega, fun e => by have := a4; omega, fun e => by have := a4; omega, fun e => by have := a4; omega⟩
  have hpat : t.pat = page s.p s.c s.m t.at' := by unfold pat; rw [w2]
  have hgp : w.get t.pat = pgAt s w.ws t.at' := by rw [hpat]; rfl
  have hsat : t.sat = Pl.slot s.p s.c s.m t.at' t.i := by unfold sat; rw [w2]
  cases h.ph with
  | p0 hd hn hx =>
    rw [s0 hd hn]
    refine ⟨hpt, fun x _ _ _ => rfl, ?_⟩
    show Pa s ws0 d g0 (t.ask (w.get t.dat)) (w.load t.c t.dat)
    rw [hdat, hx]
    unfold ask
    rcases h.wi with h2 | ⟨h3, k0, k1, k2, k3⟩
    · rw [if_pos h2]; exact .p2 hd rfl hx rfl
    · rw [if_neg (by omega), if_pos h3, w2, st_place hm k0 k1, if_neg (by omega)]
      exact .p1 hd rfl hx rfl h3 rfl
  | p1 hd hn hx hw hk hb' =>
    rw [s1 hd hn]
    refine ⟨hpt, fun x _ _ _ => rfl, ?_⟩
    show Pa s ws0 d g0 (t.other (w.get t.bat)) (w.load t.c t.bat)
    rcases h.wi with h2 | ⟨h3, k0, k1, k2, k3⟩
    · omega
    · have hbat : t.bat = stB (g0 d) := by unfold bat; rw [w2, hb']; exact st_place hm k0 k1
      rw [hbat, h.st _ k0 k1 k2]
      unfold other
      rw [if_neg k3]
      exact .p2 hd rfl hx hw
  | p2 hd hn hx hw =>
    have hsw : (w.swap t.c t.dat t.was (putSt 3 t.c)).ws = upW w.ws (status s.p s.c s.m d) (putSt 3 t.c) := by
      rw [swap_yes (by rw [hdat, hw]; exact hx)]; unfold dat; rw [w2, w4]
    rw [s2 hd hn]
    refine ⟨?_, fun x x0 x1 x2 => ?_, ?_⟩
    · show Pt s ws0 d (w.swap t.c t.dat t.was (putSt 3 t.c)).ws
      rw [hsw]; exact hpt.sta hm hcd.1 hcd.1 hcd.2
    · show (w.swap t.c t.dat t.was (putSt 3 t.c)).get x = _
      rw [hdat, get_swap hcd.1 x0, if_neg x2]
    · show Pa s ws0 d g0 (t.claim (w.get t.dat)) _
      unfold claim
      rw [if_pos (by rw [hdat, hw]; exact hx)]
      refine .p3 hd rfl ?_
      have ha : t.at' = 0 := by
        obtain ⟨a1, a2, a3, a4⟩ := w1.of hd
        unfold Ar at a4; omega
      show BD s ws0 d _ t.at'
      rw [ha]; intro q q0 q1; omega
  | p3 hd hn b =>
    obtain ⟨a0, a1, -⟩ := bnd hd
    rw [s3 hd hn]
    refine ⟨hpt, fun x _ _ _ => rfl, ?_⟩
    show Pa s ws0 d g0 (t.bodies (w.get t.pat)) (w.load t.c t.pat)
    rw [hgp]
    unfold bodies
    by_cases e : t.isB (pgAt s w.ws t.at') = true
    · rw [if_pos e]
      unfold isB at e
      rw [w2] at e
      simp only [Bool.and_eq_true, decide_eq_true_eq] at e
      exact .p4 hd rfl b e.2 (by show pgA t.s t.at' (pgAt s w.ws t.at') = pgA s t.at' (pgAt s w.ws t.at'); rw [w2])
    · rw [if_neg e]
      refine to3 (t := t.read (pgAt s w.ws t.at')) w2 hd rfl (b.next fun ho => ?_) _ rfl
      rcases hpt.bd t.at' a0 a1 ho with e2 | ⟨e2, -⟩
      · exact e2
      · refine absurd ?_ e
        unfold isB
        rw [w2, e2, pgK_ne (by rw [ho.1]; decide), decide_eq_true ho.1]; rfl
  | p4 hd hn b hk hA =>
    obtain ⟨a0, a1, -, -, -, -, -, q4⟩ := bnd hd
    obtain ⟨q0, q1⟩ := q4 hn
    have hhat : t.hat = page s.p s.c s.m t.pA := by unfold hat; rw [w2]
    have hgh : w.get t.hat = pgAt s w.ws t.pA := by rw [hhat]; rfl
    have hcur := hpt.cur a0 a1 (by rw [hk]; decide)
    rw [s4 hd hn]
    refine ⟨hpt, fun x _ _ _ => rfl, ?_⟩
    show Pa s ws0 d g0 (t.head (w.get t.hat)) (w.load t.c t.hat)
    rw [hgh]
    unfold head
    by_cases e : t.own t.pA (pgAt s w.ws t.pA) = true
    · rw [if_pos e]
      obtain ⟨e1, e2⟩ := own_is e w2
      have hc2 := hpt.cur q0 (by omega) (by rw [e1]; decide)
      refine .p5 hd rfl b ⟨by rw [← hcur]; exact hk, ?_⟩
      show HeldBy s ws0 d (pgA s t.at' (pgAt s ws0 t.at'))
      rw [← hcur, ← hA]
      exact ⟨by rw [← hc2]; exact e1, by rw [← hc2, e2]; exact w4⟩
    · rw [if_neg e]
      refine to3 (t := t) w2 hd rfl (b.next fun ho => ?_) _ rfl
      rcases hpt.bd t.at' a0 a1 ho with e2 | ⟨e2, e3⟩
      · exact e2
      · refine absurd ?_ e
        rw [e2] at hA
        rw [← hA] at e3
        have h1 := ho.2
        rw [← hA] at h1
        rw [e3]
        exact own_of h1.1 (h1.2.trans w4.symm) w2
  | p5 hd hn b ho =>
    obtain ⟨a0, a1, -⟩ := bnd hd
    rw [s5 hd hn]
    have hc1 := hpt.cut hm a0 a1 ho
    refine ⟨?_, fun x x0 x1 x2 => ?_, ?_⟩
    · show Pt s ws0 d (upW w.ws t.pat 0); rw [hpat]; exact hc1
    · exact get_far x0 (by rw [hpat, page_yes hm a0 a1]; omega)
    · refine to3 (t := t) w2 hd rfl ?_ _ rfl
      show BD s ws0 d (upW w.ws t.pat 0) (t.at' + 1)
      rw [hpat]
      intro q q0 q1 hq
      rw [pg_pg hm a0 a1 q0 (by omega)]
      split
      · rfl
      · exact b q q0 (by omega) hq
  | p6 hd hn b hh =>
    obtain ⟨a0, a1, -⟩ := bnd hd
    rw [s6 hd hn]
    refine ⟨hpt, fun x _ _ _ => rfl, ?_⟩
    show Pa s ws0 d g0 (t.pages (w.get t.pat)) (w.load t.c t.pat)
    rw [hgp]
    unfold pages
    by_cases e : t.own t.at' (pgAt s w.ws t.at') = true
    · rw [if_pos e]
      obtain ⟨e1, e2⟩ := own_is e w2
      have hc2 := hpt.cur a0 a1 (by rw [e1]; decide)
      exact .p7 hd rfl b hh ⟨by rw [← hc2]; exact e1, by rw [← hc2, e2]; exact w4⟩ (fun j j0 j1 => by have j1 : j < 0 := j1; omega)
    · rw [if_neg e]
      refine to6 (t := t) w2 hd rfl b (hh.next fun ho => ?_) _ rfl
      rcases hpt.hd t.at' a0 a1 ho with e2 | ⟨e2, -⟩
      · refine absurd ?_ e
        rw [e2]; exact own_of ho.1 (ho.2.trans w4.symm) w2
      · exact e2
  | p7 hd hn b hh ho z =>
    obtain ⟨a0, a1, i0, -, i7, -⟩ := bnd hd
    have i1 := i7 hn
    rw [s7 hd hn]
    have hc1 := hpt.clr hm a0 a1 ho i0 i1
    have tb : ∀ n, n ≤ s.p → BD s ws0 d w.ws n → BD s ws0 d (upW w.ws t.sat 0) n := fun n hn b q q0 q1 hq => by
      rw [hsat, pg_sl hm a0 a1 i0 i1 q0 (by omega)]; exact b q q0 q1 hq
    have th : ∀ n, n ≤ s.p → HD s ws0 d w.ws n → HD s ws0 d (upW w.ws t.sat 0) n := fun n hn b q q0 q1 hq => by
      rw [hsat, pg_sl hm a0 a1 i0 i1 q0 (by omega)]; exact b q q0 q1 hq
    have hz : ∀ j, 0 ≤ j → j < t.i + 1 → slAt s (upW w.ws t.sat 0) t.at' j = 0 := fun j j0 j1 => by
      rw [hsat, sl_sl hm a0 a1 i0 i1 a0 j0 (by omega)]
      split
      · rfl
      · exact z j j0 (by omega)
    refine ⟨?_, fun x x0 x1 x2 => ?_, ?_⟩
    · show Pt s ws0 d (upW w.ws t.sat 0); rw [hsat]; exact hc1
    · exact get_far x0 (by rw [hsat, slot_yes hm a0 a1 i0 i1]; omega)
    · show Pa s ws0 d g0 t.clear _
      by_cases e : t.i + 1 = 16
      · exact .p8 hd (by show (if t.i + 1 = 16 then (8 : Int) else 7) = 8; rw [if_pos e]) (tb _ (Int.le_refl _) b) (th _ (by show t.at' ≤ s.p; omega) hh) ho (fun j j0 j1 => hz j j0 (by omega))
      · exact .p7 hd (by show (if t.i + 1 = 16 then (8 : Int) else 7) = 7; rw [if_neg e]) (tb _ (Int.le_refl _) b) (th _ (by show t.at' ≤ s.p; omega) hh) ho hz
  | p8 hd hn b hh ho z =>
    obtain ⟨a0, a1, -⟩ := bnd hd
    rw [s8 hd hn]
    have hc1 := hpt.emp hm a0 a1 ho b z
    refine ⟨?_, fun x x0 x1 x2 => ?_, ?_⟩
    · show Pt s ws0 d (upW w.ws t.pat 0); rw [hpat]; exact hc1
    · exact get_far x0 (by rw [hpat, page_yes hm a0 a1]; omega)
    · refine to6 (t := t) w2 hd rfl ?_ ?_ _ rfl
      · show BD s ws0 d (upW w.ws t.pat 0) s.p
        rw [hpat]
        intro q q0 q1 hq
        rw [pg_pg hm a0 a1 q0 (by omega)]
        split
        · rfl
        · exact b q q0 (by omega) hq
      · show HD s ws0 d (upW w.ws t.pat 0) (t.at' + 1)
        rw [hpat]
        intro q q0 q1 hq
        rw [pg_pg hm a0 a1 q0 (by omega)]
        split
        · rfl
        · exact hh q q0 (by omega) hq
  | p9 hd hn b hh m ha =>
    obtain ⟨a0, a1, i0, -, -, i9, -⟩ := bnd hd
    have i1 := i9 hn
    have hmat : t.mat = mag s.p s.c s.m d t.i := by unfold mat; rw [w2, w4]
    rw [s9 hd hn]
    have hc1 := hpt.mag hm hcd.1 hcd.2 i0 i1
    have tb : BD s ws0 d (upW w.ws t.mat 0) s.p := fun q q0 q1 hq => by
      rw [hmat, pg_mg hm hcd.1 hcd.2 i0 i1 q0 q1]; exact b q q0 q1 hq
    have th : HD s ws0 d (upW w.ws t.mat 0) s.p := fun q q0 q1 hq => by
      rw [hmat, pg_mg hm hcd.1 hcd.2 i0 i1 q0 q1]; exact hh q q0 q1 hq
    have hz : MD s d (upW w.ws t.mat 0) (t.i + 1) := fun j j0 j1 => by
      rw [hmat, mg_mg hm hcd.1 hcd.2 i0 i1 hcd.1 j0 (by omega)]
      split
      · rfl
      · exact m j j0 (by omega)
    refine ⟨?_, fun x x0 x1 x2 => ?_, ?_⟩
    · show Pt s ws0 d (upW w.ws t.mat 0); rw [hmat]; exact hc1
    · have := Int.mul_nonneg hcd.1 (by omega : 0 ≤ s.m)
      exact get_far x0 (by rw [hmat, mag_yes hm hcd.1 hcd.2 i0 i1]; omega)
    · show Pa s ws0 d g0 t.entry _
      unfold entry
      by_cases e : t.i + 1 = t.s.m
      · rw [if_pos e]
        refine .p10 hd rfl tb th (by rw [← w2, ← e]; rw [w2]; exact hz) ?_
        show SD s ws0 d _ t.at'
        rw [ha]; intro q q0 q1; omega
      · rw [if_neg e]
        exact .p9 hd hn tb th hz ha
  | p10 hd hn b hh m x =>
    obtain ⟨a0, a1, -⟩ := bnd hd
    rw [s10 hd hn]
    refine ⟨hpt, fun x _ _ _ => rfl, ?_⟩
    show Pa s ws0 d g0 (t.supers (w.get t.pat)) (w.load t.c t.pat)
    rw [hgp]
    unfold supers
    by_cases e : t.isS (pgAt s w.ws t.at') = true
    · rw [if_pos e]
      unfold isS at e
      rw [w2] at e
      simp only [Bool.and_eq_true, decide_eq_true_eq] at e
      have hc2 := hpt.cur a0 a1 (by rw [e.2]; decide)
      exact .p11 hd rfl b hh m x (by show pgK s t.at' (pgAt s ws0 t.at') = 2; rw [← hc2]; exact e.2) (by show pgA t.s t.at' (pgAt s w.ws t.at') = pgA s t.at' (pgAt s ws0 t.at'); rw [w2, hc2]) (fun j j0 j1 => by have j1 : j < 0 := j1; omega)
    · rw [if_neg e]
      refine to10 (t := t.read (pgAt s w.ws t.at')) w2 hd rfl b hh m (x.next fun hk => ?_) _ rfl
      exfalso
      have e2 := hpt.np t.at' a0 a1 (fun h2 => by have := h2.1; rw [hk] at this; cases this) (fun h2 => by have := h2.1; rw [hk] at this; cases this)
      refine e ?_
      unfold isS
      rw [w2, e2, pgK_ne (by rw [hk]; decide), decide_eq_true hk]; rfl
  | p11 hd hn b hh m x hk hA z =>
    obtain ⟨a0, a1, i0, i16, -, -, i11, -⟩ := bnd hd
    have i1 := i11 (.inl hn)
    have sb := slots_bd t.pA
    have hgs : w.get t.sat = slAt s w.ws t.at' t.i := by rw [hsat]; exact slot_at hm a0 a1 i0 (by omega)
    rw [s11 hd hn]
    refine ⟨hpt, fun x _ _ _ => rfl, ?_⟩
    show Pa s ws0 d g0 (t.slots' (w.get t.sat)) (w.load t.c t.sat)
    rw [hgs]
    unfold slots'
    by_cases e : slAt s w.ws t.at' t.i = way t.d
    · rw [if_pos e]
      exact .p12 hd rfl b hh m x hk hA z (by rw [← w4]; exact e)
    · rw [if_neg e]
      refine slot_to w2 hd h.snd hpt ⟨a0, a1⟩ ⟨hcd.1, by omega⟩ b hh m x hk hA (fun j j0 j1 => ?_) _ rfl
      by_cases ej : j = t.i
      · subst ej; rw [← w4]; exact e
      · exact z j j0 (by omega)
  | p12 hd hn b hh m x hk hA z hw =>
    obtain ⟨a0, a1, i0, i16, -, -, i11, -⟩ := bnd hd
    have i1 := i11 (.inr hn)
    have sb := slots_bd t.pA
    have hAb := Gv.ok_super (pgK_ne (by rw [hk]; decide)) hk
    rw [s12 hd hn]
    have hc1 := hpt.opn hm hcd.1 a0 a1 hk i0 (by omega) hw (by omega) (by omega)
    have hsl : (w.store t.c t.sat (Ma.opn t.pA)).ws = upW w.ws (Pl.slot s.p s.c s.m t.at' t.i) (Ma.opn (pgA s t.at' (pgAt s ws0 t.at'))) := by rw [store_ws, hsat, hA]
    have wn := way_ne d hcd.1 (by omega)
    have on := opn_ne (pgA s t.at' (pgAt s ws0 t.at')) hAb.1 (by omega)
    have now : Ma.opn (pgA s t.at' (pgAt s ws0 t.at')) ≠ way d := fun e => by
      have := congrArg slK e; rw [on.2.1, wn.2.1] at this; cases this
    refine ⟨?_, fun x x0 x1 x2 => ?_, ?_⟩
    · show Pt s ws0 d (w.store t.c t.sat (Ma.opn t.pA)).ws; rw [hsl]; exact hc1
    · exact get_far x0 (by rw [hsat, slot_yes hm a0 a1 i0 (by omega)]; omega)
    · show Pa s ws0 d g0 t.slot (w.store t.c t.sat (Ma.opn t.pA))
      refine slot_to (w := w.store t.c t.sat (Ma.opn t.pA)) w2 hd h.snd (by rw [hsl]; exact hc1) ⟨a0, a1⟩ ⟨hcd.1, by omega⟩ ?_ ?_ ?_ ?_ hk hA ?_ _ rfl
      · rw [hsl]; intro q q0 q1 hq; rw [pg_sl hm a0 a1 i0 (by omega) q0 q1]; exact b q q0 q1 hq
      · rw [hsl]; intro q q0 q1 hq; rw [pg_sl hm a0 a1 i0 (by omega) q0 q1]; exact hh q q0 q1 hq
      · rw [hsl]; intro j j0 j1; rw [mg_sl hm a0 a1 i0 (by omega) hcd.1 j0]; exact m j j0 j1
      · rw [hsl]; intro q q0 q1 hq j j0 j1
        rw [sl_sl hm a0 a1 i0 (by omega) q0 j0 j1, if_neg (by omega)]; exact x q q0 q1 hq j j0 j1
      · rw [hsl]; intro j j0 j1
        rw [sl_sl hm a0 a1 i0 (by omega) a0 j0 (by omega)]
        split
        · exact now
        · exact z j j0 (by omega)
  | p13 hd hn b hh m x =>
    obtain ⟨a0, a1, -⟩ := bnd hd
    have hst : (w.store t.c t.dat (putSt 4 0)).ws = upW w.ws (status s.p s.c s.m d) (putSt 4 0) := by rw [store_ws]; unfold dat; rw [w2, w4]
    have he := (w1.of hd).2.1
    rw [s13 hd hn]
    refine ⟨?_, fun x x0 x1 x2 => ?_, ?_⟩
    · show Pt s ws0 d (w.store t.c t.dat (putSt 4 0)).ws; rw [hst]; exact hpt.sta hm hcd.1 hcd.1 hcd.2
    · show (w.store t.c t.dat (putSt 4 0)).get x = _
      rw [hdat, get_store hcd.1 x0, if_neg x2]
    · refine .en rfl rfl ?_ ?_ ?_ ?_ ?_
      · show (w.store t.c t.dat (putSt 4 0)).get d = _
        rw [hdat, get_store hcd.1 hcd.1, if_pos rfl]
      · show BD s ws0 d (w.store t.c t.dat (putSt 4 0)).ws s.p
        rw [hst]; intro q q0 q1 hq; rw [pg_st hm hcd.1 hcd.2 q0 q1]; exact b q q0 q1 hq
      · show HD s ws0 d (w.store t.c t.dat (putSt 4 0)).ws s.p
        rw [hst]; intro q q0 q1 hq; rw [pg_st hm hcd.1 hcd.2 q0 q1]; exact hh q q0 q1 hq
      · show MD s d (w.store t.c t.dat (putSt 4 0)).ws s.m
        rw [hst]; intro j j0 j1; rw [mg_st hm hcd.1 hcd.2 hcd.1 j0]; exact m j j0 j1
      · show SD s ws0 d (w.store t.c t.dat (putSt 4 0)).ws s.p
        rw [hst]; intro q q0 q1 hq j j0 j1; rw [sl_st hm hcd.1 hcd.2 q0 j0]; exact x q q0 q1 hq j j0 j1
  | en hd he hx b hh m x =>
    rw [step_dn hd]
    exact ⟨hpt, fun _ _ _ _ => rfl, .en hd he hx b hh m x⟩
end Ad
end Go.Ma
