/-
  Many claimers of pages, plain: whatever the order of their steps, no two get the same page. Conditions: none.
-/
import Derived.Test.YtfopnendmcpglaaMaPage
set_option linter.unusedVariables false
namespace Go.Ma
open Go.Pl

theorem held_ne {c : Int} (h0 : 0 ≤ c) (h1 : c ≤ 255) : held c ≠ 0 := by unfold held putPg; rw [if_pos (by omega)]; omega
theorem held_inj {c d : Int} (h0 : 0 ≤ c) (h1 : c ≤ 255) (h2 : 0 ≤ d) (h3 : d ≤ 255) (h : held c = held d) : c = d := by
  unfold held putPg at h; rw [if_pos (by omega), if_pos (by omega)] at h; omega
theorem get_swap {w : Wd} {c a x y b : Int} (ha : 0 ≤ a) (hb : 0 ≤ b) : (w.swap c a x y).get b = if b = a then (if w.get a = x then y else w.get a) else w.get b := by
  show (if b.toNat = a.toNat then (if w.get a == x then y else w.get a) else w.ws b.toNat) = _
  by_cases h : b = a
  · subst h; rw [if_pos rfl, if_pos rfl]; by_cases hx : w.get b = x <;> simp [hx]
  · rw [if_neg (by omega), if_neg h]; rfl
theorem get_load {w : Wd} {c a b : Int} : (w.load c a).get b = w.get b := rfl
theorem get_store {w : Wd} {c a y b : Int} (ha : 0 ≤ a) (hb : 0 ≤ b) : (w.store c a y).get b = if b = a then y else w.get b := by
  show (if b.toNat = a.toNat then y else w.ws b.toNat) = _
  by_cases h : b = a
  · subst h; rw [if_pos rfl, if_pos rfl]
  · rw [if_neg (by omega), if_neg h]; rfl
theorem get_put {w : Wd} {a y b : Int} (ha : 0 ≤ a) (hb : 0 ≤ b) : (w.put a y).get b = if b = a then y else w.get b := by
  show (if b.toNat = a.toNat then y else w.ws b.toNat) = _
  by_cases h : b = a
  · subst h; rw [if_pos rfl, if_pos rfl]
  · rw [if_neg (by omega), if_neg h]; rfl

/-- n claimers in one heap; full: the pages that were not empty. -/
structure PgInv (n : Nat) (s : Sh) (full : Int → Prop) (ts : Nat → Pc) (w : Wd) : Prop where
  of : w.of s
  ok : may s.p s.c s.m = true
  nc : (n : Int) ≤ s.c
  wf : ∀ c, c < n → (ts c).wf ∧ (ts c).s = s ∧ (ts c).c = c
  fd : ∀ c, c < n → (ts c).fd = true → (ts c).dn = true
  own : ∀ c, c < n → (ts c).fd = true → 0 ≤ (ts c).pg ∧ (ts c).pg < s.p ∧ ¬ full (ts c).pg ∧ w.get (s.c + (ts c).pg) = held c
  fl : ∀ q, 0 ≤ q → q < s.p → full q → w.get (s.c + q) ≠ 0
  em : ∀ q, 0 ≤ q → q < s.p → ¬ full q → w.get (s.c + q) = 0 ∨ ∃ c, c < n ∧ (ts c).fd = true ∧ (ts c).pg = q
  seen : ∀ c, c < n → (ts c).fd = false → ∀ j, 0 ≤ j → j < (ts c).many → w.get (s.c + ((ts c).f + j) % s.p) ≠ 0
  fin : ∀ c, c < n → (ts c).dn = true → (ts c).fd = false → 0 ≤ (ts c).f ∧ (ts c).f < s.p ∧ (ts c).many = s.p

def upT {T : Type} (ts : Nat → T) (c : Nat) (t : T) : Nat → T := fun d => if d = c then t else ts d
theorem upT_same {T : Type} (ts : Nat → T) (c : Nat) (t : T) : upT ts c t c = t := if_pos rfl
theorem upT_ne {T : Type} (ts : Nat → T) {c d : Nat} (t : T) (h : d ≠ c) : upT ts c t d = ts d := if_neg h

namespace PgInv
variable {n : Nat} {s : Sh} {full : Int → Prop} {ts : Nat → Pc} {w : Wd}

theorem at_is (h : PgInv n s full ts w) {c : Nat} (hc : c < n) (hd : (ts c).dn = false) : (ts c).at' = s.c + (ts c).pg ∧ 0 ≤ (ts c).pg ∧ (ts c).pg < s.p ∧ 0 ≤ s.c := by
  obtain ⟨h1, h2, h3⟩ := h.wf c hc
  obtain ⟨a1, a2, a3, a4, a5, a6, a7⟩ := h1.of hd
  rw [h2] at a1 a3 a5 a7
  have hm := (may_iff _ _ _).1 a1
  have hp := mod_bd (a := (ts c).f + (ts c).many) (p := s.p) (by omega)
  have e : (ts c).pg = ((ts c).f + (ts c).many) % s.p := by unfold Pc.pg; rw [h2]
  rw [← e] at hp
  refine ⟨?_, hp.1, hp.2, by omega⟩
  unfold Pc.at'; rw [h2]; exact page_yes a1 hp.1 hp.2

/-- One access of one of them. -/
theorem step (h : PgInv n s full ts w) {c : Nat} (hc : c < n) : PgInv n s full (upT ts c ((ts c).step w).1) ((ts c).step w).2 := by
  have hof := Pc.step_of (t := ts c) h.of
  obtain ⟨h1, h2, h3⟩ := h.wf c hc
  have hwf : ∀ d, d < n → (upT ts c ((ts c).step w).1 d).wf ∧ (upT ts c ((ts c).step w).1 d).s = s ∧ (upT ts c ((ts c).step w).1 d).c = d := fun d hd => by
    by_cases e : d = c
    · subst e; rw [upT_same]; exact ⟨Pc.step_wf h1, Pc.step_s.trans h2, Pc.step_c.trans h3⟩
    · rw [upT_ne _ _ e]; exact h.wf d hd
  have hm := (may_iff _ _ _).1 h.ok
  have hnc := h.nc
  have cb : 0 ≤ (c : Int) ∧ (c : Int) ≤ 255 := by omega
  rcases Pc.step_cases (ts c) w with ⟨hd, e⟩ | ⟨hd, hcase⟩
  · rw [e]
    have : upT ts c (ts c) = ts := by funext d; unfold upT; split; rename_i e; rw [e]; rfl
    simp only [this]; exact h
  obtain ⟨hat, p0, p1, c0⟩ := h.at_is hc hd
  have hfd : (ts c).fd = false := by
    cases hf : (ts c).fd
    · rfl
    · rw [h.fd c hc hf] at hd; cases hd
  obtain ⟨b1, b2, b3, b4, b5, b6, b7⟩ := h1.of hd
  rw [h2] at b5 b7
  rcases hcase with ⟨he, hz, e⟩ | ⟨he, hz, e⟩ | ⟨he, hz, e⟩ | ⟨he, hz, e⟩
  · -- it claims the page
    rw [e] at hof hwf ⊢
    have hg : ∀ q, 0 ≤ q → (w.swap (ts c).c (ts c).at' 0 (held (ts c).c)).get (s.c + q) = if q = (ts c).pg then held c else w.get (s.c + q) := fun q hq => by
      rw [get_swap (by omega) (by omega), hz, h3, hat]
      by_cases e : q = (ts c).pg
      · subst e; simp
      · rw [if_neg (by omega), if_neg e]
    have hz' : w.get (s.c + (ts c).pg) = 0 := by rw [← hat]; exact hz
    refine ⟨hof, h.ok, h.nc, hwf, fun d hd' hf => ?_, fun d hd' hf => ?_, fun q q0 q1 hq => ?_, fun q q0 q1 hq => ?_, fun d hd' hf j j0 j1 => ?_, fun d hd' hdn hf => ?_⟩
    · by_cases ed : d = c
      · subst ed; rw [upT_same]
      · rw [upT_ne _ _ ed] at hf ⊢; exact h.fd d hd' hf
    · by_cases ed : d = c
      · subst ed; rw [upT_same] at hf ⊢
        refine ⟨p0, p1, fun hq => h.fl _ p0 p1 hq hz', ?_⟩
        show (w.swap _ _ _ _).get (s.c + (ts d).pg) = _
        rw [hg _ p0, if_pos rfl]
      · rw [upT_ne _ _ ed] at hf ⊢
        obtain ⟨o1, o2, o3, o4⟩ := h.own d hd' hf
        refine ⟨o1, o2, o3, ?_⟩
        show (w.swap _ _ _ _).get _ = _
        rw [hg _ o1, if_neg, o4]
        intro e2
        rw [e2, hz'] at o4
        exact held_ne (by omega) (by omega) o4.symm
    · show (w.swap _ _ _ _).get _ ≠ 0
      rw [hg _ q0]; split
      · exact held_ne cb.1 cb.2
      · exact h.fl q q0 q1 hq
    · show (w.swap _ _ _ _).get _ = 0 ∨ _
      rw [hg _ q0]
      by_cases eq : q = (ts c).pg
      · right; exact ⟨c, hc, by rw [upT_same], by rw [upT_same]; exact eq.symm⟩
      · rw [if_neg eq]
        rcases h.em q q0 q1 hq with h' | ⟨d, g1, g2, g3⟩
        · exact .inl h'
        · right
          have ed : d ≠ c := fun ed => by subst ed; rw [hfd] at g2; cases g2
          exact ⟨d, g1, by rw [upT_ne _ _ ed]; exact g2, by rw [upT_ne _ _ ed]; exact g3⟩
    · by_cases ed : d = c
      · subst ed; rw [upT_same] at hf; cases hf
      · rw [upT_ne _ _ ed] at hf j1 ⊢
        have := h.seen d hd' hf j j0 j1
        show (w.swap _ _ _ _).get _ ≠ 0
        rw [hg _ (Int.emod_nonneg _ (by omega))]; split
        · exact held_ne cb.1 cb.2
        · exact this
    · by_cases ed : d = c
      · subst ed; rw [upT_same] at hf; cases hf
      · rw [upT_ne _ _ ed] at hf hdn ⊢; exact h.fin d hd' hdn hf
  all_goals
    have hg : ∀ q, 0 ≤ q → ((ts c).step w).2.get (s.c + q) = w.get (s.c + q) := fun q hq => by
      rw [e]
      first
      | rfl
      | (show (w.swap _ _ _ _).get _ = _
         rw [get_swap (by omega) (by omega), if_neg hz]
         split
         · rename_i e2; rw [e2]
         · rfl)
    have hf2 : ((ts c).step w).1.fd = false := by rw [e]; exact hfd
    have hpg : ∀ d, (upT ts c ((ts c).step w).1 d).fd = (ts d).fd := fun d => by
      by_cases ed : d = c
      · subst ed; rw [upT_same, hf2, hfd]
      · rw [upT_ne _ _ ed]
    have hsm : ((ts c).step w).1.f = (ts c).f := Pc.step_f
    have hmany : ∀ j, 0 ≤ j → j < ((ts c).step w).1.many → w.get (s.c + ((ts c).f + j) % s.p) ≠ 0 := fun j j0 j1 => by
      by_cases hj : j < (ts c).many
      · exact h.seen c hc hfd j j0 hj
      · rw [e] at j1
        first
        | (exfalso; exact hj j1)
        | (have ej : j = (ts c).many := by have j1 : j < (ts c).many + 1 := j1; omega
           subst ej
           have ep : ((ts c).f + (ts c).many) % s.p = (ts c).pg := by unfold Pc.pg; rw [h2]
           rw [ep, ← hat]; exact hz)
    refine ⟨hof, h.ok, h.nc, hwf, fun d hd' hf => ?_, fun d hd' hf => ?_, fun q q0 q1 hq => by rw [hg q q0]; exact h.fl q q0 q1 hq, fun q q0 q1 hq => ?_, fun d hd' hf j j0 j1 => ?_, fun d hd' hdn hf => ?_⟩
    · rw [hpg] at hf
      by_cases ed : d = c
      · subst ed; rw [hfd] at hf; cases hf
      · rw [upT_ne _ _ ed]; exact h.fd d hd' hf
    · rw [hpg] at hf
      by_cases ed : d = c
      · subst ed; rw [hfd] at hf; cases hf
      · rw [upT_ne _ _ ed]
        obtain ⟨o1, o2, o3, o4⟩ := h.own d hd' hf
        exact ⟨o1, o2, o3, by rw [hg _ o1]; exact o4⟩
    · rw [hg q q0]
      rcases h.em q q0 q1 hq with h' | ⟨d, g1, g2, g3⟩
      · exact .inl h'
      · right
        have ed : d ≠ c := fun ed => by subst ed; rw [hfd] at g2; cases g2
        exact ⟨d, g1, by rw [hpg]; exact g2, by rw [upT_ne _ _ ed]; exact g3⟩
    · rw [hpg] at hf
      by_cases ed : d = c
      · subst ed; rw [upT_same] at j1 ⊢
        rw [hsm, hg _ (Int.emod_nonneg _ (by omega))]; exact hmany j j0 j1
      · rw [upT_ne _ _ ed] at j1 ⊢
        rw [hg _ (Int.emod_nonneg _ (by omega))]; exact h.seen d hd' hf j j0 j1
    · by_cases ed : d = c
      · subst ed; rw [upT_same] at hdn ⊢
        rw [hsm]
        rw [e] at hdn ⊢
        first
        | (exfalso; have : (ts d).dn = true := hdn; rw [hd] at this; cases this)
        | exact ⟨b4, b5, by have hdn : decide ((ts d).many + 1 = (ts d).s.p) = true := hdn; rw [h2] at hdn; show (ts d).many + 1 = s.p; simpa using hdn⟩
      · rw [upT_ne _ _ ed] at hdn ⊢
        rw [hpg] at hf
        exact h.fin d hd' hdn hf
end PgInv
end Go.Ma
