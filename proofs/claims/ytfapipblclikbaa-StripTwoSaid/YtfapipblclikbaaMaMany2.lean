/-
  Many strippers of one page; many claimers of slots in one page: plain. Conditions: none.
-/
import Derived.Test.YtfapipblclikbaaMaAlone2
import Derived.Test.YtfapipblclikbaaMaStrip
set_option linter.unusedVariables false
namespace Go.Ma
open Go.Pl

theorem opn_val {k : Int} (h : 0 < slots k) : opn k = 1 + 16 * k ∧ 0 ≤ k ∧ k ≤ 3 := by
  have hk : 0 ≤ k ∧ k ≤ 3 := by
    by_cases hw : within k 0 3 = true
    · exact (win_iff _ _ _).1 hw
    · rw [slots_no (by simpa using hw)] at h; omega
  refine ⟨?_, hk⟩
  unfold opn putSl; rw [if_pos (by omega)]
theorem way_val {c : Int} (h0 : 0 ≤ c) (h1 : c ≤ 255) : way c = 2 + 16 * c := by unfold way putSl; rw [if_pos (by omega)]
theorem taken_val {k : Int} (h : 0 < slots k) : taken k = 3 + 16 * k := by
  have := opn_val h
  unfold taken putSl; rw [if_pos (by omega)]
theorem way_inj {c d : Int} (h0 : 0 ≤ c) (h1 : c ≤ 255) (h2 : 0 ≤ d) (h3 : d ≤ 255) (h : way c = way d) : c = d := by
  rw [way_val h0 h1, way_val h2 h3] at h; omega
theorem way_ne {c k : Int} (h0 : 0 ≤ c) (h1 : c ≤ 255) (h : 0 < slots k) : way c ≠ opn k := by
  have := opn_val h
  rw [way_val h0 h1, this.1]; omega
theorem slots_pos {k : Int} (h0 : 0 ≤ k) (h1 : k ≤ 3) : 0 < slots k := by
  unfold slots
  rcases (by omega : k = 0 ∨ k = 1 ∨ k = 2 ∨ k = 3) with rfl | rfl | rfl | rfl <;> decide

/-- The places of a heap of one page. -/
theorem page1 {s : Sh} (hm : may s.p s.c s.m = true) (hp : s.p = 1) : page s.p s.c s.m 0 = s.c := by rw [page_yes hm (by omega) (by omega)]; omega
theorem slot1 {s : Sh} (hm : may s.p s.c s.m = true) (hp : s.p = 1) {j : Int} (h0 : 0 ≤ j) (h1 : j < 16) : slot s.p s.c s.m 0 j = s.c + 1 + j := by rw [slot_yes hm (by omega) (by omega) h0 h1, hp]; omega

/-- n strippers of one page. -/
structure StInv (n : Nat) (s : Sh) (k : Int) (w0 : Wd) (ts : Nat → St) (w : Wd) : Prop where
  of : w.of s
  ok : may s.p s.c s.m = true
  sp : s.p = 1
  nc : (n : Int) ≤ s.c
  kk : 0 < slots k
  wf : ∀ c, c < n → (ts c).wf ∧ (ts c).s = s ∧ (ts c).c = c ∧ (ts c).p = 0 ∧ (ts c).k = k
  bd : ∀ c, c < n → 0 ≤ (ts c).i ∧ (ts c).i ≤ slots k
  hd : ∀ c, c < n → (ts c).hd = true → (ts c).dn = true ∧ (ts c).i = slots k
  dn : ∀ c, c < n → (ts c).dn = true → (ts c).hd = true ∨ (ts c).i = 0
  own : ∀ c, c < n → ∀ j, 0 ≤ j → j < (ts c).i → w.get (s.c + 1 + j) = way c
  free : ∀ j, 0 ≤ j → j < slots k → w.get (s.c + 1 + j) = opn k ∨ ∃ c, c < n ∧ j < (ts c).i
  one : n = 1 → (ts 0).bk = false ∧ ((ts 0).dn = true → (ts 0).hd = true)
  was : ∀ j, 0 ≤ j → j < slots k → w0.get (s.c + 1 + j) = opn k
  pg : (∀ c, c < n → (ts c).hd = false) → w.get s.c = w0.get s.c
  rest : ∀ a : Int, 0 ≤ a → a ≠ s.c → (a < s.c + 1 ∨ s.c + 1 + slots k ≤ a) → w.get a = w0.get a
  nn : w.n = w0.n
namespace StInv
variable {n : Nat} {s : Sh} {k : Int} {ts : Nat → St} {w w0 : Wd}

/-- Of them that are held there is at most one. -/
theorem once (h : StInv n s k w0 ts w) {c d : Nat} (hc : c < n) (hd : d < n) (h1 : (ts c).hd = true) (h2 : (ts d).hd = true) : c = d := by
  have hk := h.kk
  have hm := (may_iff _ _ _).1 h.ok
  have hn := h.nc
  have a := h.own c hc 0 (Int.le_refl _) (by rw [(h.hd c hc h1).2]; exact hk)
  have b := h.own d hd 0 (Int.le_refl _) (by rw [(h.hd d hd h2).2]; exact hk)
  rw [a] at b
  have := way_inj (by omega) (by omega) (by omega) (by omega) b
  omega
theorem step (h : StInv n s k w0 ts w) {c : Nat} (hc : c < n) : StInv n s k w0 (upT ts c ((ts c).step w).1) ((ts c).step w).2 := by
  have hof := St.step_of (t := ts c) h.of
  obtain ⟨h1, h2, h3, h4, h5⟩ := h.wf c hc
  have hm := (may_iff _ _ _).1 h.ok
  have hnc := h.nc
  have hkk := h.kk
  have hsp := h.sp
  have hsb := slots_bd k
  rcases St.step_cases (ts c) w with ⟨hd, e⟩ | ⟨hd, hcase⟩
  · rw [e]
    have : upT ts c (ts c) = ts := by funext d; unfold upT; split; rename_i e; rw [e]; rfl
    simp only [this]; exact h
  obtain ⟨b1, b2, b3, b4, b5, b6, b7, b8, b9⟩ := h1.of hd
  rw [h5] at b8
  have hat : ∀ j, 0 ≤ j → j < 16 → (ts c).at' j = s.c + 1 + j := fun j j0 j1 => by
    unfold St.at'; rw [h2, h4]; exact slot1 h.ok hsp j0 j1
  have hpat : (ts c).pat = s.c := by unfold St.pat; rw [h2, h4]; exact page1 h.ok hsp
  have hhd : (ts c).hd = false := by
    cases hf : (ts c).hd
    · rfl
    · rw [(h.hd c hc hf).1] at hd; cases hd
  have hnn : ((ts c).step w).2.n = w0.n := by
    rcases hcase with ⟨-, e⟩ | ⟨-, -, e⟩ | ⟨-, -, -, e⟩ | ⟨-, -, -, e⟩ <;> rw [e] <;> exact h.nn
  have wfs : ∀ t2 : St, t2.wf → t2.s = s → t2.c = c → t2.p = 0 → t2.k = k → ∀ d, d < n → (upT ts c t2 d).wf ∧ (upT ts c t2 d).s = s ∧ (upT ts c t2 d).c = d ∧ (upT ts c t2 d).p = 0 ∧ (upT ts c t2 d).k = k := fun t2 a1 a2 a3 a4 a5 d hd' => by
    by_cases e : d = c
    · subst e; rw [upT_same]; exact ⟨a1, a2, a3, a4, a5⟩
    · rw [upT_ne _ _ e]; exact h.wf d hd'
  have hwf' := St.step_wf (w := w) h1
  rcases hcase with ⟨hb, e⟩ | ⟨hb, hi, e⟩ | ⟨hb, hi, hz, e⟩ | ⟨hb, hi, hz, e⟩
  · -- one slot is given back
    rw [e] at hof hwf' hnn ⊢
    have hi0 := b9 hb
    have hget : ∀ a, 0 ≤ a → (w.store (ts c).c ((ts c).at' ((ts c).i - 1)) (opn (ts c).k)).get a = if a = s.c + 1 + ((ts c).i - 1) then opn k else w.get a := fun a ha => by
      rw [hat _ (by omega) (by omega), get_store (by omega) ha, h5]
    refine ⟨hof, h.ok, hsp, hnc, hkk, wfs _ hwf' h2 h3 h4 h5, fun d hd' => ?_, fun d hd' hf => ?_, fun d hd' hf => ?_, fun d hd' j j0 j1 => ?_, fun j j0 j1 => ?_, fun hn1 => ?_, h.was, fun hall => ?_, fun a a0 a1 a2 => ?_, hnn⟩
    · by_cases ed : d = c
      · subst ed; rw [upT_same]; show 0 ≤ (ts d).i - 1 ∧ (ts d).i - 1 ≤ _; omega
      · rw [upT_ne _ _ ed]; exact h.bd d hd'
    · by_cases ed : d = c
      · subst ed; rw [upT_same] at hf; have hf : (ts d).hd = true := hf; rw [hhd] at hf; cases hf
      · rw [upT_ne _ _ ed] at hf ⊢; exact h.hd d hd' hf
    · by_cases ed : d = c
      · subst ed; rw [upT_same] at hf ⊢
        right
        have hf : decide ((ts d).i - 1 = 0) = true := hf
        show (ts d).i - 1 = 0
        simpa using hf
      · rw [upT_ne _ _ ed] at hf ⊢; exact h.dn d hd' hf
    · rw [hget _ (by omega)]
      by_cases ed : d = c
      · subst ed; rw [upT_same] at j1
        have j1 : j < (ts d).i - 1 := j1
        rw [if_neg (by omega)]; exact h.own d hd' j j0 (by omega)
      · rw [upT_ne _ _ ed] at j1
        have hj := h.own d hd' j j0 j1
        by_cases ej : j = (ts c).i - 1
        · exfalso
          have hj2 := h.own c hc j j0 (by omega)
          rw [hj] at hj2
          have := way_inj (by omega) (by omega) (by omega) (by omega) hj2
          omega
        · rw [if_neg (by omega)]; exact hj
    · rw [hget _ (by omega)]
      by_cases ej : j = (ts c).i - 1
      · left; rw [if_pos (by omega)]
      · rw [if_neg (by omega)]
        rcases h.free j j0 j1 with hz | ⟨d, d1, d2⟩
        · exact .inl hz
        · right
          refine ⟨d, d1, ?_⟩
          by_cases ed : d = c
          · subst ed; rw [upT_same]; show j < (ts d).i - 1; omega
          · rw [upT_ne _ _ ed]; exact d2
    · have : c = 0 := by omega
      subst this
      rw [(h.one hn1).1] at hb; cases hb
    · rw [hget _ (by omega), if_neg (by omega)]
      refine h.pg fun d hd' => ?_
      have := hall d hd'
      by_cases ed : d = c
      · subst ed; exact hhd
      · rw [upT_ne _ _ ed] at this; exact this
    · rw [hget _ a0, if_neg (by omega)]; exact h.rest a a0 a1 a2
  · -- it holds the page
    rw [e] at hof hwf' hnn ⊢
    rw [h5] at hi
    have hget : ∀ a, 0 ≤ a → (w.store (ts c).c (ts c).pat (held (ts c).c)).get a = if a = s.c then held c else w.get a := fun a ha => by
      rw [hpat, get_store (by omega) ha, h3]
    refine ⟨hof, h.ok, hsp, hnc, hkk, wfs _ hwf' h2 h3 h4 h5, fun d hd' => ?_, fun d hd' hf => ?_, fun d hd' hf => ?_, fun d hd' j j0 j1 => ?_, fun j j0 j1 => ?_, fun hn1 => ?_, h.was, fun hall => ?_, fun a a0 a1 a2 => ?_, hnn⟩
    · by_cases ed : d = c
      · subst ed; rw [upT_same]; exact h.bd d hd'
      · rw [upT_ne _ _ ed]; exact h.bd d hd'
    · by_cases ed : d = c
      · subst ed; rw [upT_same]; exact ⟨rfl, hi⟩
      · rw [upT_ne _ _ ed] at hf ⊢; exact h.hd d hd' hf
    · by_cases ed : d = c
      · subst ed; rw [upT_same]; exact .inl rfl
      · rw [upT_ne _ _ ed] at hf ⊢; exact h.dn d hd' hf
    · rw [hget _ (by omega), if_neg (by omega)]
      by_cases ed : d = c
      · subst ed; rw [upT_same] at j1; exact h.own d hd' j j0 j1
      · rw [upT_ne _ _ ed] at j1; exact h.own d hd' j j0 j1
    · rw [hget _ (by omega), if_neg (by omega)]
      rcases h.free j j0 j1 with hz | ⟨d, d1, d2⟩
      · exact .inl hz
      · right
        refine ⟨d, d1, ?_⟩
        by_cases ed : d = c
        · subst ed; rw [upT_same]; exact d2
        · rw [upT_ne _ _ ed]; exact d2
    · have : c = 0 := by omega
      subst this
      rw [upT_same]; exact ⟨hb, fun _ => rfl⟩
    · exfalso; have := hall c hc; rw [upT_same] at this; cases this
    · rw [hget _ a0, if_neg (by omega)]; exact h.rest a a0 a1 a2
  · -- it takes one more
    rw [e] at hof hwf' hnn ⊢
    rw [h5] at hi
    rw [h5, hat _ (by omega) (by omega)] at hz
    have hget : ∀ a, 0 ≤ a → (w.swap (ts c).c ((ts c).at' (ts c).i) (opn (ts c).k) (way (ts c).c)).get a = if a = s.c + 1 + (ts c).i then way c else w.get a := fun a ha => by
      rw [hat _ (by omega) (by omega), get_swap (by omega) ha, h5, h3, if_pos hz]
    refine ⟨hof, h.ok, hsp, hnc, hkk, wfs _ hwf' h2 h3 h4 h5, fun d hd' => ?_, fun d hd' hf => ?_, fun d hd' hf => ?_, fun d hd' j j0 j1 => ?_, fun j j0 j1 => ?_, fun hn1 => ?_, h.was, fun hall => ?_, fun a a0 a1 a2 => ?_, hnn⟩
    · by_cases ed : d = c
      · subst ed; rw [upT_same]; show 0 ≤ (ts d).i + 1 ∧ (ts d).i + 1 ≤ _; omega
      · rw [upT_ne _ _ ed]; exact h.bd d hd'
    · by_cases ed : d = c
      · subst ed; rw [upT_same] at hf; have hf : (ts d).hd = true := hf; rw [hhd] at hf; cases hf
      · rw [upT_ne _ _ ed] at hf ⊢; exact h.hd d hd' hf
    · by_cases ed : d = c
      · subst ed; rw [upT_same] at hf; have hf : (ts d).dn = true := hf; rw [hd] at hf; cases hf
      · rw [upT_ne _ _ ed] at hf ⊢; exact h.dn d hd' hf
    · rw [hget _ (by omega)]
      by_cases ed : d = c
      · subst ed; rw [upT_same] at j1
        have j1 : j < (ts d).i + 1 := j1
        by_cases ej : j = (ts d).i
        · rw [if_pos (by omega)]
        · rw [if_neg (by omega)]; exact h.own d hd' j j0 (by omega)
      · rw [upT_ne _ _ ed] at j1
        have hj := h.own d hd' j j0 j1
        by_cases ej : j = (ts c).i
        · exfalso
          rw [ej, hz] at hj
          exact way_ne (by omega) (by omega) hkk hj.symm
        · rw [if_neg (by omega)]; exact hj
    · rw [hget _ (by omega)]
      by_cases ej : j = (ts c).i
      · right; exact ⟨c, hc, by rw [upT_same]; show j < (ts c).i + 1; omega⟩
      · rw [if_neg (by omega)]
        rcases h.free j j0 j1 with hz | ⟨d, d1, d2⟩
        · exact .inl hz
        · right
          refine ⟨d, d1, ?_⟩
          by_cases ed : d = c
          · subst ed; rw [upT_same]; show j < (ts d).i + 1; omega
          · rw [upT_ne _ _ ed]; exact d2
    · have : c = 0 := by omega
      subst this
      rw [upT_same]; exact ⟨hb, (h.one hn1).2⟩
    · rw [hget _ (by omega), if_neg (by omega)]
      refine h.pg fun d hd' => ?_
      have := hall d hd'
      by_cases ed : d = c
      · subst ed; exact hhd
      · rw [upT_ne _ _ ed] at this; exact this
    · rw [hget _ a0, if_neg (by omega)]; exact h.rest a a0 a1 a2
  · -- it goes back
    rw [e] at hof hwf' hnn ⊢
    rw [h5] at hi
    rw [h5, hat _ (by omega) (by omega)] at hz
    have hget : ∀ a, 0 ≤ a → (w.swap (ts c).c ((ts c).at' (ts c).i) (opn (ts c).k) (way (ts c).c)).get a = w.get a := fun a ha => by
      rw [hat _ (by omega) (by omega), get_swap (by omega) ha, h5, if_neg hz]
      split
      · rename_i e2; rw [e2]
      · rfl
    refine ⟨hof, h.ok, hsp, hnc, hkk, wfs _ hwf' h2 h3 h4 h5, fun d hd' => ?_, fun d hd' hf => ?_, fun d hd' hf => ?_, fun d hd' j j0 j1 => ?_, fun j j0 j1 => ?_, fun hn1 => ?_, h.was, fun hall => ?_, fun a a0 a1 a2 => ?_, hnn⟩
    · by_cases ed : d = c
      · subst ed; rw [upT_same]; exact h.bd d hd'
      · rw [upT_ne _ _ ed]; exact h.bd d hd'
    · by_cases ed : d = c
      · subst ed; rw [upT_same] at hf; have hf : (ts d).hd = true := hf; rw [hhd] at hf; cases hf
      · rw [upT_ne _ _ ed] at hf ⊢; exact h.hd d hd' hf
    · by_cases ed : d = c
      · subst ed; rw [upT_same] at hf ⊢
        right
        have hf : decide ((ts d).i = 0) = true := hf
        show (ts d).i = 0
        simpa using hf
      · rw [upT_ne _ _ ed] at hf ⊢; exact h.dn d hd' hf
    · rw [hget _ (by omega)]
      by_cases ed : d = c
      · subst ed; rw [upT_same] at j1; exact h.own d hd' j j0 j1
      · rw [upT_ne _ _ ed] at j1; exact h.own d hd' j j0 j1
    · rw [hget _ (by omega)]
      rcases h.free j j0 j1 with hz | ⟨d, d1, d2⟩
      · exact .inl hz
      · right
        refine ⟨d, d1, ?_⟩
        by_cases ed : d = c
        · subst ed; rw [upT_same]; exact d2
        · rw [upT_ne _ _ ed]; exact d2
    · exfalso
      have : c = 0 := by omega
      subst this
      rcases h.free (ts 0).i (by omega) (by omega) with hz2 | ⟨d, d1, d2⟩
      · exact hz hz2
      · have : d = 0 := by omega
        subst this; omega
    · rw [hget _ (by omega)]
      refine h.pg fun d hd' => ?_
      have := hall d hd'
      by_cases ed : d = c
      · subst ed; exact hhd
      · rw [upT_ne _ _ ed] at this; exact this
    · rw [hget _ a0]; exact h.rest a a0 a1 a2
/-- If all have ended and none holds it, all is as it was. -/
theorem same (h : StInv n s k w0 ts w) (hd : ∀ c, c < n → (ts c).dn = true) (hn : ∀ c, c < n → (ts c).hd = false) : ∀ a, 0 ≤ a → w.get a = w0.get a := by
  intro a a0
  by_cases e1 : a = s.c
  · rw [e1]; exact h.pg hn
  · by_cases e2 : a < s.c + 1 ∨ s.c + 1 + slots k ≤ a
    · exact h.rest a a0 e1 e2
    · have e : a = s.c + 1 + (a - s.c - 1) := by omega
      rw [e, h.was _ (by omega) (by omega)]
      rcases h.free (a - s.c - 1) (by omega) (by omega) with hz | ⟨c, c1, c2⟩
      · exact hz
      · exfalso
        rcases h.dn c c1 (hd c c1) with h2 | h2
        · rw [hn c c1] at h2; cases h2
        · omega
theorem init {n : Nat} {s : Sh} {k : Int} {w : Wd} (hof : w.of s) (hm : may s.p s.c s.m = true) (hp : s.p = 1) (hn : (n : Int) ≤ s.c) (hk : 0 < slots k) (hw : ∀ j, 0 ≤ j → j < slots k → w.get (s.c + 1 + j) = opn k) :
    StInv n s k w (fun c => St.new s c 0 k) w := by
  have hb := slots_bd k
  refine ⟨hof, hm, hp, hn, hk, fun c hc => ⟨St.new_wf s c 0 k, rfl, rfl, rfl, rfl⟩, fun c hc => ⟨Int.le_refl 0, hb.1⟩, (fun c hc h => by cases h), fun c hc h => .inr rfl, fun c hc j j0 j1 => ?_, fun j j0 j1 => .inl (hw j j0 j1), fun h1 => ⟨rfl, fun hd => ?_⟩, hw, fun _ => rfl, fun _ _ _ _ => rfl, rfl⟩
  · have j1 : j < 0 := j1; omega
  · exfalso
    have hc := (may_iff _ _ _).1 hm
    have hd : (!(good s ((0 : Nat) : Int) k && decide (0 ≤ page s.p s.c s.m 0))) = true := hd
    have g1 : status s.p s.c s.m 0 = 0 := status_yes hm (by omega) (by omega)
    have g2 : page s.p s.c s.m 0 = s.c := page1 hm hp
    unfold good at hd
    rw [show ((0 : Nat) : Int) = 0 by rfl, g1, g2, decide_eq_true hk, decide_eq_true (show (0 : Int) ≤ s.c by omega)] at hd
    simp at hd
end StInv
end Go.Ma
