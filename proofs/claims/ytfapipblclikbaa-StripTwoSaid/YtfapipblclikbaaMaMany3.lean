/-
  Many claimers of slots in one page, plain. Conditions: none.
-/
import Derived.Test.YtfapipblclikbaaMaMany2
set_option linter.unusedVariables false
namespace Go.Ma
open Go.Pl

theorem mineAt_congr {s : Sh} {k q : Int} {w w' : Wd} (h : w'.get (page s.p s.c s.m q) = w.get (page s.p s.c s.m q)) : mineAt s k q w' = mineAt s k q w := by
  unfold mineAt; rw [h]

/-- n claimers of slots of class k in a heap of one page. -/
structure SlInv (n : Nat) (s : Sh) (k : Int) (free : Int → Prop) (ts : Nat → Sc) (w : Wd) : Prop where
  of : w.of s
  ok : may s.p s.c s.m = true
  sp : s.p = 1
  nc : (n : Int) ≤ s.c
  kk : 0 < slots k
  wf : ∀ c, c < n → (ts c).wf ∧ (ts c).s = s ∧ (ts c).c = c ∧ (ts c).f = 0 ∧ (ts c).k = k
  mine : mineAt s k 0 w = true
  fd : ∀ c, c < n → (ts c).fd = true → (ts c).dn = true
  own : ∀ c, c < n → (ts c).fd = true → 0 ≤ (ts c).i ∧ (ts c).i < slots k ∧ free (ts c).i ∧ w.get (s.c + 1 + (ts c).i) = way c
  shut : ∀ j, 0 ≤ j → j < slots k → ¬ free j → w.get (s.c + 1 + j) ≠ opn k
  em : ∀ j, 0 ≤ j → j < slots k → free j → w.get (s.c + 1 + j) = opn k ∨ ∃ c, c < n ∧ (ts c).fd = true ∧ (ts c).i = j
  seen : ∀ c, c < n → (ts c).dn = false → ∀ j, 0 ≤ j → j < (ts c).i → w.get (s.c + 1 + j) ≠ opn k
  fin : ∀ c, c < n → (ts c).dn = true → (ts c).fd = false → ∀ j, 0 ≤ j → j < slots k → w.get (s.c + 1 + j) ≠ opn k
namespace SlInv
variable {n : Nat} {s : Sh} {k : Int} {free : Int → Prop} {ts : Nat → Sc} {w : Wd}

/-- A claimer changes without any word's changing. -/
theorem quiet (h : SlInv n s k free ts w) {c : Nat} (hc : c < n) {t2 : Sc} {w2 : Wd} (hof : w2.of s) (hg : ∀ a, 0 ≤ a → w2.get a = w.get a) (hf1 : (ts c).fd = false) (hf2 : t2.fd = false) (hwf : t2.wf ∧ t2.s = s ∧ t2.c = c ∧ t2.f = 0 ∧ t2.k = k)
    (hs : t2.dn = false → ∀ j, 0 ≤ j → j < t2.i → w.get (s.c + 1 + j) ≠ opn k) (hfin : t2.dn = true → ∀ j, 0 ≤ j → j < slots k → w.get (s.c + 1 + j) ≠ opn k) : SlInv n s k free (upT ts c t2) w2 := by
  have hm := (may_iff _ _ _).1 h.ok
  have hsp := h.sp
  have hpg := page1 h.ok hsp
  have hfd : ∀ d, (upT ts c t2 d).fd = (ts d).fd := fun d => by
    by_cases ed : d = c
    · subst ed; rw [upT_same, hf1, hf2]
    · rw [upT_ne _ _ ed]
  refine ⟨hof, h.ok, hsp, h.nc, h.kk, fun d hd => ?_, by rw [mineAt_congr (w := w) (by rw [hpg]; exact hg _ (by omega))]; exact h.mine, fun d hd hf => ?_, fun d hd hf => ?_, fun j j0 j1 hj => by rw [hg _ (by omega)]; exact h.shut j j0 j1 hj, fun j j0 j1 hj => ?_, fun d hd hdn j j0 j1 => ?_, fun d hd hdn hf j j0 j1 => ?_⟩
  · by_cases ed : d = c
    · subst ed; rw [upT_same]; exact hwf
    · rw [upT_ne _ _ ed]; exact h.wf d hd
  · rw [hfd] at hf
    by_cases ed : d = c
    · subst ed; rw [hf1] at hf; cases hf
    · rw [upT_ne _ _ ed]; exact h.fd d hd hf
  · rw [hfd] at hf
    by_cases ed : d = c
    · subst ed; rw [hf1] at hf; cases hf
    · rw [upT_ne _ _ ed]
      obtain ⟨a1, a2, a3, a4⟩ := h.own d hd hf
      exact ⟨a1, a2, a3, by rw [hg _ (by omega)]; exact a4⟩
  · rw [hg _ (by omega)]
    rcases h.em j j0 j1 hj with hz | ⟨d, d1, d2, d3⟩
    · exact .inl hz
    · right
      have ed : d ≠ c := fun ed => by subst ed; rw [hf1] at d2; cases d2
      exact ⟨d, d1, by rw [hfd]; exact d2, by rw [upT_ne _ _ ed]; exact d3⟩
  · rw [hg _ (by omega)]
    by_cases ed : d = c
    · subst ed; rw [upT_same] at hdn j1; exact hs hdn j j0 j1
    · rw [upT_ne _ _ ed] at hdn j1; exact h.seen d hd hdn j j0 j1
  · rw [hg _ (by omega)]
    by_cases ed : d = c
    · subst ed; rw [upT_same] at hdn; exact hfin hdn j j0 j1
    · rw [hfd] at hf
      rw [upT_ne _ _ ed] at hdn; exact h.fin d hd hdn hf j j0 j1

theorem step (h : SlInv n s k free ts w) {c : Nat} (hc : c < n) : SlInv n s k free (upT ts c ((ts c).step w).1) ((ts c).step w).2 := by
  have hof := Sc.step_of (t := ts c) h.of
  obtain ⟨h1, h2, h3, h4, h5⟩ := h.wf c hc
  have hm := (may_iff _ _ _).1 h.ok
  have hnc := h.nc
  have hkk := h.kk
  have hsp := h.sp
  have hsb := slots_bd k
  have hwf' := Sc.step_wf (w := w) h1
  rcases Sc.step_cases (ts c) w with ⟨hd, e⟩ | ⟨hd, hcase⟩
  · rw [e]
    have : upT ts c (ts c) = ts := by funext d; unfold upT; split; rename_i e; rw [e]; rfl
    simp only [this]; exact h
  obtain ⟨b1, b2, b3, b4, b5, b6, b7, b8, b9, b10, b11⟩ := h1.of hd
  rw [h5] at b9
  rw [h2, hsp] at b7
  have hff : (ts c).fd = false := by
    cases hf : (ts c).fd
    · rfl
    · rw [h.fd c hc hf] at hd; cases hd
  have hpg : (ts c).pg = 0 := by unfold Sc.pg; rw [h2, hsp]; omega
  have hat : (ts c).at' = s.c + 1 + (ts c).i := by unfold Sc.at'; rw [h2, hpg]; exact slot1 h.ok hsp b8 (by omega)
  have hseen := h.seen c hc hd
  have miss : w.get (s.c + 1 + (ts c).i) ≠ opn k → ∀ w2 : Wd, w2.of s → (∀ a, 0 ≤ a → w2.get a = w.get a) → (ts c).miss.wf → SlInv n s k free (upT ts c (ts c).miss) w2 := fun hz w2 a1 a2 a3 => by
    have hb : ∀ j, 0 ≤ j → j < (ts c).i + 1 → w.get (s.c + 1 + j) ≠ opn k := fun j j0 j1 => by
      by_cases ej : j = (ts c).i
      · rw [ej]; exact hz
      · exact hseen j j0 (by omega)
    by_cases hl : (ts c).i + 1 = slots (ts c).k
    · have e : (ts c).miss = ({ ts c with i := (ts c).i + 1, nx := 1 } : Sc).turn := by unfold Sc.miss; rw [if_pos hl]
      rw [e] at a3 ⊢
      rw [h5] at hl
      refine h.quiet hc a1 a2 hff hff ⟨a3, h2, h3, h4, h5⟩ (fun hdn j j0 j1 => ?_) (fun _ j j0 j1 => hb j j0 (by omega))
      have j1 : j < 0 := j1; omega
    · have e : (ts c).miss = ({ ts c with i := (ts c).i + 1, nx := 1 } : Sc) := by unfold Sc.miss; rw [if_neg hl]
      rw [e] at a3 ⊢
      refine h.quiet hc a1 a2 hff hff ⟨a3, h2, h3, h4, h5⟩ (fun _ => hb) (fun hdn => ?_)
      have hdn : (ts c).dn = true := hdn
      rw [hd] at hdn; cases hdn
  have nodn : ∀ {P : Prop}, (ts c).dn = true → P := fun h => by rw [hd] at h; cases h
  rcases hcase with ⟨hx, hz, e⟩ | ⟨hx, hz, e⟩ | ⟨hx, hz, e⟩ | ⟨hx, hz, e⟩ | ⟨hx, hx1, hz, e⟩ | ⟨hx, hx1, hz, e⟩
  · rw [e] at hof hwf' ⊢
    exact h.quiet hc hof (fun _ _ => rfl) hff hff ⟨hwf', h2, h3, h4, h5⟩ (fun _ => hseen) nodn
  · exfalso
    rw [Sc.mine_eq, h2, h5, hpg, h.mine] at hz; cases hz
  · rw [e] at hof hwf' ⊢
    exact h.quiet hc hof (fun _ _ => rfl) hff hff ⟨hwf', h2, h3, h4, h5⟩ (fun _ => hseen) nodn
  · rw [e] at hof hwf' ⊢
    rw [hat, h5] at hz
    exact miss hz _ hof (fun _ _ => rfl) hwf'
  · rw [e] at hof hwf' ⊢
    rw [hat, h5] at hz
    have hget : ∀ a, 0 ≤ a → (w.swap (ts c).c (ts c).at' (opn (ts c).k) (way (ts c).c)).get a = if a = s.c + 1 + (ts c).i then way c else w.get a := fun a ha => by
      rw [hat, get_swap (by omega) ha, h5, h3, if_pos hz]
    have hfree : free (ts c).i := Classical.byContradiction fun hn => h.shut _ b8 b9 hn hz
    refine ⟨hof, h.ok, hsp, hnc, hkk, fun d hd' => ?_, ?_, fun d hd' hf => ?_, fun d hd' hf => ?_, fun j j0 j1 hj => ?_, fun j j0 j1 hj => ?_, fun d hd' hdn j j0 j1 => ?_, fun d hd' hdn hf j j0 j1 => ?_⟩
    · by_cases ed : d = c
      · subst ed; rw [upT_same]; exact ⟨hwf', h2, h3, h4, h5⟩
      · rw [upT_ne _ _ ed]; exact h.wf d hd'
    · rw [mineAt_congr (w := w) (by rw [page1 h.ok hsp, hget _ (by omega), if_neg (by omega)])]; exact h.mine
    · by_cases ed : d = c
      · subst ed; rw [upT_same]
      · rw [upT_ne _ _ ed] at hf ⊢; exact h.fd d hd' hf
    · by_cases ed : d = c
      · subst ed; rw [upT_same]
        refine ⟨b8, b9, hfree, ?_⟩
        show (w.swap _ _ _ _).get (s.c + 1 + (ts d).i) = _
        rw [hget _ (by omega), if_pos rfl]
      · rw [upT_ne _ _ ed] at hf ⊢
        obtain ⟨a1, a2, a3, a4⟩ := h.own d hd' hf
        refine ⟨a1, a2, a3, ?_⟩
        rw [hget _ (by omega), if_neg, a4]
        intro e2
        rw [e2, hz] at a4
        exact way_ne (by omega) (by omega) hkk a4.symm
    · rw [hget _ (by omega)]; split
      · exact way_ne (by omega) (by omega) hkk
      · exact h.shut j j0 j1 hj
    · rw [hget _ (by omega)]
      by_cases ej : j = (ts c).i
      · right; exact ⟨c, hc, by rw [upT_same], by rw [upT_same]; exact ej.symm⟩
      · rw [if_neg (by omega)]
        rcases h.em j j0 j1 hj with hz | ⟨d, d1, d2, d3⟩
        · exact .inl hz
        · right
          have ed : d ≠ c := fun ed => by subst ed; rw [hff] at d2; cases d2
          exact ⟨d, d1, by rw [upT_ne _ _ ed]; exact d2, by rw [upT_ne _ _ ed]; exact d3⟩
    · rw [hget _ (by omega)]; split
      · exact way_ne (by omega) (by omega) hkk
      · by_cases ed : d = c
        · subst ed; rw [upT_same] at hdn; cases hdn
        · rw [upT_ne _ _ ed] at hdn j1; exact h.seen d hd' hdn j j0 j1
    · rw [hget _ (by omega)]; split
      · exact way_ne (by omega) (by omega) hkk
      · by_cases ed : d = c
        · subst ed; rw [upT_same] at hf; cases hf
        · rw [upT_ne _ _ ed] at hdn hf; exact h.fin d hd' hdn hf j j0 j1
  · rw [e] at hof hwf' ⊢
    rw [hat, h5] at hz
    refine miss hz _ hof (fun a ha => ?_) hwf'
    rw [hat, get_swap (by omega) ha, h5, if_neg hz]
    split
    · rename_i e2; rw [e2]
    · rfl
theorem init {n : Nat} {s : Sh} {k : Int} {free : Int → Prop} {w : Wd} (hof : w.of s) (hm : may s.p s.c s.m = true) (hp : s.p = 1) (hn : (n : Int) ≤ s.c) (hk : 0 < slots k) (hmi : mineAt s k 0 w = true)
    (h1 : ∀ j, 0 ≤ j → j < slots k → ¬ free j → w.get (s.c + 1 + j) ≠ opn k) (h2 : ∀ j, 0 ≤ j → j < slots k → free j → w.get (s.c + 1 + j) = opn k) : SlInv n s k free (fun c => Sc.new s c k 0) w := by
  refine ⟨hof, hm, hp, hn, hk, fun c hc => ⟨Sc.new_wf s c k 0, rfl, rfl, rfl, rfl⟩, hmi, (fun c hc h => by cases h), (fun c hc h => by cases h), h1, fun j j0 j1 hj => .inl (h2 j j0 j1 hj), fun c hc _ j j0 j1 => ?_, fun c hc hd => ?_⟩
  · have j1 : j < 0 := j1; omega
  · exfalso
    have hcc := (may_iff _ _ _).1 hm
    have hd : (!(good s c k && decide (0 ≤ page s.p s.c s.m 0))) = true := hd
    have g1 : status s.p s.c s.m c = c := status_yes hm (by omega) (by omega)
    have g2 : page s.p s.c s.m 0 = s.c := page1 hm hp
    unfold good at hd
    rw [g1, g2, decide_eq_true hk, decide_eq_true (show (0 : Int) ≤ s.c by omega), decide_eq_true (show (0 : Int) ≤ c by omega)] at hd
    simp at hd
end SlInv
end Go.Ma
