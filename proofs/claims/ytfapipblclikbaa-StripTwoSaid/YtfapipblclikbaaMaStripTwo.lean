/-
  Strippers of one page, and one who looks for a slot there: plain. Conditions: none.
-/
import Derived.Test.YtfapipblclikbaaMaMany3
set_option linter.unusedVariables false
namespace Go.Ma
open Go.Pl

/-- n strippers of one page, and one who looks for a slot. -/
structure S3Inv (n : Nat) (s : Sh) (k : Int) (ts : Nat → St) (u : Sc) (w : Wd) : Prop where
  of : w.of s
  ok : may s.p s.c s.m = true
  sp : s.p = 1
  nc : (n : Int) + 1 ≤ s.c
  kk : 0 < slots k
  wf : ∀ c, c < n → (ts c).wf ∧ (ts c).s = s ∧ (ts c).c = c ∧ (ts c).p = 0 ∧ (ts c).k = k
  bd : ∀ c, c < n → 0 ≤ (ts c).i ∧ (ts c).i ≤ slots k
  hd : ∀ c, c < n → (ts c).hd = true → (ts c).dn = true ∧ (ts c).i = slots k
  dn : ∀ c, c < n → (ts c).dn = true → (ts c).hd = true ∨ (ts c).i = 0
  own : ∀ c, c < n → ∀ j, 0 ≤ j → j < (ts c).i → w.get (s.c + 1 + j) = way c
  free : ∀ j, 0 ≤ j → j < slots k → w.get (s.c + 1 + j) = opn k ∨ (∃ c, c < n ∧ j < (ts c).i) ∨ (u.fd = true ∧ u.i = j)
  pg : (∀ c, c < n → (ts c).hd = false) → w.get s.c = super k 0
  hu : u.wf ∧ u.s = s ∧ u.c = n ∧ u.f = 0 ∧ u.k = k
  fdu : u.fd = true → u.dn = true ∧ 0 ≤ u.i ∧ u.i < slots k ∧ w.get (s.c + 1 + u.i) = way n
namespace S3Inv
variable {n : Nat} {s : Sh} {k : Int} {ts : Nat → St} {u : Sc} {w : Wd}

/-- Of them that are held there is at most one. -/
theorem once (h : S3Inv n s k ts u w) {c d : Nat} (hc : c < n) (hd : d < n) (h1 : (ts c).hd = true) (h2 : (ts d).hd = true) : c = d := by
  have hk := h.kk
  have hm := (may_iff _ _ _).1 h.ok
  have hn := h.nc
  have a := h.own c hc 0 (Int.le_refl _) (by rw [(h.hd c hc h1).2]; exact hk)
  have b := h.own d hd 0 (Int.le_refl _) (by rw [(h.hd d hd h2).2]; exact hk)
  rw [a] at b
  have := way_inj (by omega) (by omega) (by omega) (by omega) b
  omega
theorem step (h : S3Inv n s k ts u w) {c : Nat} (hc : c < n) : S3Inv n s k (upT ts c ((ts c).step w).1) u ((ts c).step w).2 := by
  have hof := St.step_of (t := ts c) h.of
  obtain ⟨h1, h2, h3, h4, h5⟩ := h.wf c hc
  have hm := (may_iff _ _ _).1 h.ok
  have hnc := h.nc
  have hkk := h.kk
  have hsp := h.sp
  have hsb := slots_bd k
  rcases St.step_cases (ts c) w with ⟨hd, e⟩ | ⟨hd, hcase⟩
  · rw [e]
    have : upT ts c (ts c) = ts := by funext d; unfold upT; split; rename_i e; rw [e]; rfl
    simp only [this]; exact h
  obtain ⟨b1, b2, b3, b4, b5, b6, b7, b8, b9⟩ := h1.of hd
  rw [h5] at b8
  have hat : ∀ j, 0 ≤ j → j < 16 → (ts c).at' j = s.c + 1 + j := fun j j0 j1 => by
    unfold St.at'; rw [h2, h4]; exact slot1 h.ok hsp j0 j1
  have hpat : (ts c).pat = s.c := by unfold St.pat; rw [h2, h4]; exact page1 h.ok hsp
  have hhd : (ts c).hd = false := by
    cases hf : (ts c).hd
    · rfl
    · rw [(h.hd c hc hf).1] at hd; cases hd
  have wfs : ∀ t2 : St, t2.wf → t2.s = s → t2.c = c → t2.p = 0 → t2.k = k → ∀ d, d < n → (upT ts c t2 d).wf ∧ (upT ts c t2 d).s = s ∧ (upT ts c t2 d).c = d ∧ (upT ts c t2 d).p = 0 ∧ (upT ts c t2 d).k = k := fun t2 a1 a2 a3 a4 a5 d hd' => by
    by_cases e : d = c
    · subst e; rw [upT_same]; exact ⟨a1, a2, a3, a4, a5⟩
    · rw [upT_ne _ _ e]; exact h.wf d hd'
  have hwf' := St.step_wf (w := w) h1
  rcases hcase with ⟨hb, e⟩ | ⟨hb, hi, e⟩ | ⟨hb, hi, hz, e⟩ | ⟨hb, hi, hz, e⟩
  · -- one slot is given back
    rw [e] at hof hwf' ⊢
    have hi0 := b9 hb
    have hget : ∀ a, 0 ≤ a → (w.store (ts c).c ((ts c).at' ((ts c).i - 1)) (opn (ts c).k)).get a = if a = s.c + 1 + ((ts c).i - 1) then opn k else w.get a := fun a ha => by
      rw [hat _ (by omega) (by omega), get_store (by omega) ha, h5]
    refine ⟨hof, h.ok, hsp, hnc, hkk, wfs _ hwf' h2 h3 h4 h5, fun d hd' => ?_, fun d hd' hf => ?_, fun d hd' hf => ?_, fun d hd' j j0 j1 => ?_, fun j j0 j1 => ?_, fun hall => ?_, h.hu, fun hfu => ?_⟩
    · by_cases ed : d = c
      · subst ed; rw [upT_same]; show 0 ≤ (ts d).i - 1 ∧ (ts d).i - 1 ≤ _; omega
      · rw [upT_ne _ _ ed]; exact h.bd d hd'
    · by_cases ed : d = c
      · subst ed; rw [upT_same] at hf; have hf : (ts d).hd = true := hf; rw [hhd] at hf; cases hf
      · rw [upT_ne _ _ ed] at hf ⊢; exact h.hd d hd' hf
    · by_cases ed : d = c
      · subst ed; rw [upT_same] at hf ⊢
        right
        have hf : decide ((ts d).i - 1 = 0) = true := hf
        show (ts d).i - 1 = 0
        simpa using hf
      · rw [upT_ne _ _ ed] at hf ⊢; exact h.dn d hd' hf
    · rw [hget _ (by omega)]
      by_cases ed : d = c
      · subst ed; rw [upT_same] at j1
        have j1 : j < (ts d).i - 1 := j1
        rw [if_neg (by omega)]; exact h.own d hd' j j0 (by omega)
      · rw [upT_ne _ _ ed] at j1
        have hj := h.own d hd' j j0 j1
        by_cases ej : j = (ts c).i - 1
        · exfalso
          have hj2 := h.own c hc j j0 (by omega)
          rw [hj] at hj2
          have := way_inj (by omega) (by omega) (by omega) (by omega) hj2
          omega
        · rw [if_neg (by omega)]; exact hj
    · rw [hget _ (by omega)]
      by_cases ej : j = (ts c).i - 1
      · left; rw [if_pos (by omega)]
      · rw [if_neg (by omega)]
        rcases h.free j j0 j1 with hz | ⟨d, d1, d2⟩ | hz
        · exact .inl hz
        rotate_left
        · exact .inr (.inr hz)
        · right; left
          refine ⟨d, d1, ?_⟩
          by_cases ed : d = c
          · subst ed; rw [upT_same]; show j < (ts d).i - 1; omega
          · rw [upT_ne _ _ ed]; exact d2
    · rw [hget _ (by omega), if_neg (by omega)]
      refine h.pg fun d hd' => ?_
      have := hall d hd'
      by_cases ed : d = c
      · subst ed; exact hhd
      · rw [upT_ne _ _ ed] at this; exact this
    · obtain ⟨g1, g2, g3, g4⟩ := h.fdu hfu
      refine ⟨g1, g2, g3, ?_⟩
      rw [hget _ (by omega), if_neg, g4]
      intro e2
      have hj := h.own c hc ((ts c).i - 1) (by omega) (by omega)
      rw [← e2, g4] at hj
      have := way_inj (by omega) (by omega) (by omega) (by omega) hj
      omega
  · -- it holds the page
    rw [e] at hof hwf' ⊢
    rw [h5] at hi
    have hget : ∀ a, 0 ≤ a → (w.store (ts c).c (ts c).pat (held (ts c).c)).get a = if a = s.c then held c else w.get a := fun a ha => by
      rw [hpat, get_store (by omega) ha, h3]
    refine ⟨hof, h.ok, hsp, hnc, hkk, wfs _ hwf' h2 h3 h4 h5, fun d hd' => ?_, fun d hd' hf => ?_, fun d hd' hf => ?_, fun d hd' j j0 j1 => ?_, fun j j0 j1 => ?_, fun hall => ?_, h.hu, fun hfu => ?_⟩
    · by_cases ed : d = c
      · subst ed; rw [upT_same]; exact h.bd d hd'
      · rw [upT_ne _ _ ed]; exact h.bd d hd'
    · by_cases ed : d = c
      · subst ed; rw [upT_same]; exact ⟨rfl, hi⟩
      · rw [upT_ne _ _ ed] at hf ⊢; exact h.hd d hd' hf
    · by_cases ed : d = c
      · subst ed; rw [upT_same]; exact .inl rfl
      · rw [upT_ne _ _ ed] at hf ⊢; exact h.dn d hd' hf
    · rw [hget _ (by omega), if_neg (by omega)]
      by_cases ed : d = c
      · subst ed; rw [upT_same] at j1; exact h.own d hd' j j0 j1
      · rw [upT_ne _ _ ed] at j1; exact h.own d hd' j j0 j1
    · rw [hget _ (by omega), if_neg (by omega)]
      rcases h.free j j0 j1 with hz | ⟨d, d1, d2⟩ | hz
      · exact .inl hz
      rotate_left
      · exact .inr (.inr hz)
      · right; left
        refine ⟨d, d1, ?_⟩
        by_cases ed : d = c
        · subst ed; rw [upT_same]; exact d2
        · rw [upT_ne _ _ ed]; exact d2
    · exfalso; have := hall c hc; rw [upT_same] at this; cases this
    · obtain ⟨g1, g2, g3, g4⟩ := h.fdu hfu
      refine ⟨g1, g2, g3, ?_⟩
      rw [hget _ (by omega), if_neg (by omega)]; exact g4
  · -- it takes one more
    rw [e] at hof hwf' ⊢
    rw [h5] at hi
    rw [h5, hat _ (by omega) (by omega)] at hz
    have hget : ∀ a, 0 ≤ a → (w.swap (ts c).c ((ts c).at' (ts c).i) (opn (ts c).k) (way (ts c).c)).get a = if a = s.c + 1 + (ts c).i then way c else w.get a := fun a ha => by
      rw [hat _ (by omega) (by omega), get_swap (by omega) ha, h5, h3, if_pos hz]
    refine ⟨hof, h.ok, hsp, hnc, hkk, wfs _ hwf' h2 h3 h4 h5, fun d hd' => ?_, fun d hd' hf => ?_, fun d hd' hf => ?_, fun d hd' j j0 j1 => ?_, fun j j0 j1 => ?_, fun hall => ?_, h.hu, fun hfu => ?_⟩
    · by_cases ed : d = c
      · subst ed; rw [upT_same]; show 0 ≤ (ts d).i + 1 ∧ (ts d).i + 1 ≤ _; omega
      · rw [upT_ne _ _ ed]; exact h.bd d hd'
    · by_cases ed : d = c
      · subst ed; rw [upT_same] at hf; have hf : (ts d).hd = true := hf; rw [hhd] at hf; cases hf
      · rw [upT_ne _ _ ed] at hf ⊢; exact h.hd d hd' hf
    · by_cases ed : d = c
      · subst ed; rw [upT_same] at hf; have hf : (ts d).dn = true := hf; rw [hd] at hf; cases hf
      · rw [upT_ne _ _ ed] at hf ⊢; exact h.dn d hd' hf
    · rw [hget _ (by omega)]
      by_cases ed : d = c
      · subst ed; rw [upT_same] at j1
        have j1 : j < (ts d).i + 1 := j1
        by_cases ej : j = (ts d).i
        · rw [if_pos (by omega)]
        · rw [if_neg (by omega)]; exact h.own d hd' j j0 (by omega)
      · rw [upT_ne _ _ ed] at j1
        have hj := h.own d hd' j j0 j1
        by_cases ej : j = (ts c).i
        · exfalso
          rw [ej, hz] at hj
          exact way_ne (by omega) (by omega) hkk hj.symm
        · rw [if_neg (by omega)]; exact hj
    · rw [hget _ (by omega)]
      by_cases ej : j = (ts c).i
      · right; left; exact ⟨c, hc, by rw [upT_same]; show j < (ts c).i + 1; omega⟩
      · rw [if_neg (by omega)]
        rcases h.free j j0 j1 with hz | ⟨d, d1, d2⟩ | hz
        · exact .inl hz
        rotate_left
        · exact .inr (.inr hz)
        · right; left
          refine ⟨d, d1, ?_⟩
          by_cases ed : d = c
          · subst ed; rw [upT_same]; show j < (ts d).i + 1; omega
          · rw [upT_ne _ _ ed]; exact d2
    · rw [hget _ (by omega), if_neg (by omega)]
      refine h.pg fun d hd' => ?_
      have := hall d hd'
      by_cases ed : d = c
      · subst ed; exact hhd
      · rw [upT_ne _ _ ed] at this; exact this
    · obtain ⟨g1, g2, g3, g4⟩ := h.fdu hfu
      refine ⟨g1, g2, g3, ?_⟩
      rw [hget _ (by omega), if_neg, g4]
      intro e2
      rw [e2, hz] at g4
      exact way_ne (by omega) (by omega) hkk g4.symm
  · -- it goes back
    rw [e] at hof hwf' ⊢
    rw [h5] at hi
    rw [h5, hat _ (by omega) (by omega)] at hz
    have hget : ∀ a, 0 ≤ a → (w.swap (ts c).c ((ts c).at' (ts c).i) (opn (ts c).k) (way (ts c).c)).get a = w.get a := fun a ha => by
      rw [hat _ (by omega) (by omega), get_swap (by omega) ha, h5, if_neg hz]
      split
      · rename_i e2; rw [e2]
      · rfl
    refine ⟨hof, h.ok, hsp, hnc, hkk, wfs _ hwf' h2 h3 h4 h5, fun d hd' => ?_, fun d hd' hf => ?_, fun d hd' hf => ?_, fun d hd' j j0 j1 => ?_, fun j j0 j1 => ?_, fun hall => ?_, h.hu, fun hfu => ?_⟩
    · by_cases ed : d = c
      · subst ed; rw [upT_same]; exact h.bd d hd'
      · rw [upT_ne _ _ ed]; exact h.bd d hd'
    · by_cases ed : d = c
      · subst ed; rw [upT_same] at hf; have hf : (ts d).hd = true := hf; rw [hhd] at hf; cases hf
      · rw [upT_ne _ _ ed] at hf ⊢; exact h.hd d hd' hf
    · by_cases ed : d = c
      · subst ed; rw [upT_same] at hf ⊢
        right
        have hf : decide ((ts d).i = 0) = true := hf
        show (ts d).i = 0
        simpa using hf
      · rw [upT_ne _ _ ed] at hf ⊢; exact h.dn d hd' hf
    · rw [hget _ (by omega)]
      by_cases ed : d = c
      · subst ed; rw [upT_same] at j1; exact h.own d hd' j j0 j1
      · rw [upT_ne _ _ ed] at j1; exact h.own d hd' j j0 j1
    · rw [hget _ (by omega)]
      rcases h.free j j0 j1 with hz | ⟨d, d1, d2⟩ | hz
      · exact .inl hz
      rotate_left
      · exact .inr (.inr hz)
      · right; left
        refine ⟨d, d1, ?_⟩
        by_cases ed : d = c
        · subst ed; rw [upT_same]; exact d2
        · rw [upT_ne _ _ ed]; exact d2
    · rw [hget _ (by omega)]
      refine h.pg fun d hd' => ?_
      have := hall d hd'
      by_cases ed : d = c
      · subst ed; exact hhd
      · rw [upT_ne _ _ ed] at this; exact this
    · obtain ⟨g1, g2, g3, g4⟩ := h.fdu hfu
      refine ⟨g1, g2, g3, ?_⟩
      rw [hget _ (by omega)]; exact g4
/-- The one who looks goes on without any word's changing. -/
theorem quiet (h : S3Inv n s k ts u w) {u2 : Sc} {w2 : Wd} (hof : w2.of s) (hg : ∀ a, 0 ≤ a → w2.get a = w.get a) (hf1 : u.fd = false) (hf2 : u2.fd = false) (hwf : u2.wf ∧ u2.s = s ∧ u2.c = n ∧ u2.f = 0 ∧ u2.k = k) : S3Inv n s k ts u2 w2 := by
  have hm := (may_iff _ _ _).1 h.ok
  refine ⟨hof, h.ok, h.sp, h.nc, h.kk, h.wf, h.bd, h.hd, h.dn, fun c hc j j0 j1 => by rw [hg _ (by omega)]; exact h.own c hc j j0 j1, fun j j0 j1 => ?_, fun hall => by rw [hg _ (by omega)]; exact h.pg hall, hwf, (fun hf => by rw [hf2] at hf; cases hf)⟩
  rw [hg _ (by omega)]
  rcases h.free j j0 j1 with hz | hz | hz
  · exact .inl hz
  · exact .inr (.inl hz)
  · rw [hf1] at hz; cases hz.1
theorem stepU (h : S3Inv n s k ts u w) : S3Inv n s k ts (u.step w).1 (u.step w).2 := by
  have hof := Sc.step_of (t := u) h.of
  obtain ⟨h1, h2, h3, h4, h5⟩ := h.hu
  have hm := (may_iff _ _ _).1 h.ok
  have hnc := h.nc
  have hkk := h.kk
  have hsp := h.sp
  have hsb := slots_bd k
  have hwf' := Sc.step_wf (w := w) h1
  rcases Sc.step_cases u w with ⟨hd, e⟩ | ⟨hd, hcase⟩
  · rw [e]; exact h
  obtain ⟨b1, b2, b3, b4, b5, b6, b7, b8, b9, b10, b11⟩ := h1.of hd
  rw [h5] at b9
  rw [h2, hsp] at b7
  have hff : u.fd = false := by
    cases hf : u.fd
    · rfl
    · rw [(h.fdu hf).1] at hd; cases hd
  have hpg : u.pg = 0 := by unfold Sc.pg; rw [h2, hsp]; omega
  have hat : u.at' = s.c + 1 + u.i := by unfold Sc.at'; rw [h2, hpg]; exact slot1 h.ok hsp b8 (by omega)
  have miss : ∀ w2 : Wd, w2.of s → (∀ a, 0 ≤ a → w2.get a = w.get a) → u.miss.wf → S3Inv n s k ts u.miss w2 := fun w2 a1 a2 a3 =>
    h.quiet a1 a2 hff (by unfold Sc.miss Sc.turn; split <;> exact hff) ⟨a3, Sc.miss_s.trans h2, Sc.miss_c.trans h3, by unfold Sc.miss Sc.turn; split <;> exact h4, by unfold Sc.miss Sc.turn; split <;> exact h5⟩
  rcases hcase with ⟨hx, hz, e⟩ | ⟨hx, hz, e⟩ | ⟨hx, hz, e⟩ | ⟨hx, hz, e⟩ | ⟨hx, hx1, hz, e⟩ | ⟨hx, hx1, hz, e⟩
  · rw [e] at hof hwf' ⊢
    exact h.quiet hof (fun _ _ => rfl) hff hff ⟨hwf', h2, h3, h4, h5⟩
  · rw [e] at hof hwf' ⊢
    exact h.quiet hof (fun _ _ => rfl) hff hff ⟨hwf', h2, h3, h4, h5⟩
  · rw [e] at hof hwf' ⊢
    exact h.quiet hof (fun _ _ => rfl) hff hff ⟨hwf', h2, h3, h4, h5⟩
  · rw [e] at hof hwf' ⊢
    exact miss _ hof (fun _ _ => rfl) hwf'
  · rw [e] at hof hwf' ⊢
    rw [hat, h5] at hz
    have hget : ∀ a, 0 ≤ a → (w.swap u.c u.at' (opn u.k) (way u.c)).get a = if a = s.c + 1 + u.i then way n else w.get a := fun a ha => by
      rw [hat, get_swap (by omega) ha, h5, h3, if_pos hz]
    refine ⟨hof, h.ok, hsp, hnc, hkk, h.wf, h.bd, h.hd, h.dn, fun c hc j j0 j1 => ?_, fun j j0 j1 => ?_, fun hall => by rw [hget _ (by omega), if_neg (by omega)]; exact h.pg hall, ⟨hwf', h2, h3, h4, h5⟩, fun _ => ⟨rfl, b8, b9, ?_⟩⟩
    · have hj := h.own c hc j j0 j1
      rw [hget _ (by omega), if_neg, hj]
      intro e2
      rw [e2, hz] at hj
      exact way_ne (by omega) (by omega) hkk hj.symm
    · rw [hget _ (by omega)]
      by_cases ej : j = u.i
      · right; right; exact ⟨rfl, ej.symm⟩
      · rw [if_neg (by omega)]
        rcases h.free j j0 j1 with hz | hz | hz
        · exact .inl hz
        · exact .inr (.inl hz)
        · rw [hff] at hz; cases hz.1
    · show (w.swap _ _ _ _).get (s.c + 1 + u.i) = _
      rw [hget _ (by omega), if_pos rfl]
  · rw [e] at hof hwf' ⊢
    rw [hat, h5] at hz
    refine miss _ hof (fun a ha => ?_) hwf'
    rw [hat, get_swap (by omega) ha, h5, if_neg hz]
    split
    · rename_i e2; rw [e2]
    · rfl
/-- Who has a slot nobody holds the page. -/
theorem apart (h : S3Inv n s k ts u w) {c : Nat} (hc : c < n) (h1 : (ts c).hd = true) (h2 : u.fd = true) : False := by
  have hm := (may_iff _ _ _).1 h.ok
  have hnc := h.nc
  obtain ⟨g1, g2, g3, g4⟩ := h.fdu h2
  have a := h.own c hc u.i g2 (by rw [(h.hd c hc h1).2]; exact g3)
  rw [g4] at a
  have := way_inj (by omega) (by omega) (by omega) (by omega) a
  omega
/-- If all have ended and none holds it, each slot is open but the one that is had. -/
theorem ends (h : S3Inv n s k ts u w) (hd : ∀ c, c < n → (ts c).dn = true) (hn : ∀ c, c < n → (ts c).hd = false) {j : Int} (j0 : 0 ≤ j) (j1 : j < slots k) : w.get (s.c + 1 + j) = if u.fd = true ∧ u.i = j then way n else opn k := by
  by_cases hj : u.fd = true ∧ u.i = j
  · rw [if_pos hj, ← hj.2]; exact (h.fdu hj.1).2.2.2
  · rw [if_neg hj]
    rcases h.free j j0 j1 with hz | ⟨c, c1, c2⟩ | hz
    · exact hz
    · exfalso
      rcases h.dn c c1 (hd c c1) with h2 | h2
      · rw [hn c c1] at h2; cases h2
      · omega
    · exact absurd hz hj
theorem init {n : Nat} {s : Sh} {k : Int} {w : Wd} (hof : w.of s) (hm : may s.p s.c s.m = true) (hp : s.p = 1) (hn : (n : Int) + 1 ≤ s.c) (hk : 0 < slots k) (hw : ∀ j, 0 ≤ j → j < slots k → w.get (s.c + 1 + j) = opn k) (hpg : w.get s.c = super k 0) :
    S3Inv n s k (fun c => St.new s c 0 k) (Sc.new s n k 0) w := by
  have hb := slots_bd k
  refine ⟨hof, hm, hp, hn, hk, fun c hc => ⟨St.new_wf s c 0 k, rfl, rfl, rfl, rfl⟩, fun c hc => ⟨Int.le_refl 0, hb.1⟩, (fun c hc h => by cases h), fun c hc h => .inr rfl, fun c hc j j0 j1 => ?_, fun j j0 j1 => .inl (hw j j0 j1), fun _ => hpg, ⟨Sc.new_wf s n k 0, rfl, rfl, rfl, rfl⟩, (fun h => by cases h)⟩
  have j1 : j < 0 := j1; omega
end S3Inv
end Go.Ma
