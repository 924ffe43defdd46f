/-
  A claimer of pages alone, plain: it comes to the first empty page from where it begins, and touches nothing else. Conditions: none.
-/
import Derived.Test.YtfapipblclikbaaMaMany
set_option linter.unusedVariables false
namespace Go.Ma
open Go.Pl

theorem ws_swap_no {w : Wd} {c a x y : Int} (h : w.get a ≠ x) (i : Nat) : (w.swap c a x y).ws i = w.ws i := by
  show (if i = a.toNat then (if (w.get a == x) = true then y else w.get a) else w.ws i) = _
  have e : (w.get a == x) = false := beq_eq_false_iff_ne.2 h
  rw [e]
  by_cases hi : i = a.toNat
  · subst hi; simp; rfl
  · rw [if_neg hi]
theorem ws_swap_yes {w : Wd} {c a x y : Int} (h : w.get a = x) (i : Nat) : (w.swap c a x y).ws i = if i = a.toNat then y else w.ws i := by
  show (if i = a.toNat then (if (w.get a == x) = true then y else w.get a) else w.ws i) = _
  have e : (w.get a == x) = true := beq_iff_eq.2 h
  rw [e]; rfl

namespace Pc
/-- What a claimer has done that is alone from w0 on. -/
structure Al (s : Sh) (c f : Int) (w0 : Wd) (t : Pc) (w : Wd) : Prop where
  wf : t.wf
  hs : t.s = s
  hc : t.c = c
  hf : t.f = f
  hn : w.n = w0.n
  fd : t.fd = true → t.dn = true
  many : 0 ≤ t.many ∧ t.many ≤ s.p
  lt : t.fd = true → t.many < s.p
  seen : ∀ j, 0 ≤ j → j < t.many → w0.get (page s.p s.c s.m ((f + j) % s.p)) ≠ 0
  no : t.fd = false → ∀ i, w.ws i = w0.ws i
  yes : t.fd = true → w0.get t.at' = 0 ∧ ∀ i, w.ws i = if i = t.at'.toNat then held c else w0.ws i
  fin : t.dn = true → t.fd = false → t.many = s.p

variable {t : Pc} {w w0 : Wd} {s : Sh} {c f want i : Int}
theorem Al.start (h : t.wf) (hd : t.dn = false) (hf : t.fd = false) (hm : t.many = 0) : Al t.s t.c t.f w t w := by
  have hp := (h.of hd).2.2.2.2.2.2
  refine ⟨h, rfl, rfl, rfl, rfl, (fun h => by rw [hf] at h; cases h), by omega, fun _ => hp, (fun j h1 h2 => by omega), fun _ _ => rfl, (fun h => by rw [hf] at h; cases h), (fun h => by rw [hd] at h; cases h)⟩

theorem Al.step (h : Al s c f w0 t w) : Al s c f w0 (t.step w).1 (t.step w).2 := by
  obtain ⟨hwf, hs, hc, hf, hn, hfd, hm, hlt, hseen, hno, hyes, hfin⟩ := h
  have hwf' := step_wf (w := w) hwf
  have e1 : (t.step w).1.s = s := step_s.trans hs
  have e2 : (t.step w).1.c = c := step_c.trans hc
  have e3 : (t.step w).1.f = f := step_f.trans hf
  have e4 : (t.step w).2.n = w0.n := step_n.trans hn
  rcases step_cases t w with ⟨hd, e⟩ | ⟨hd, hcs⟩
  · rw [e]; exact ⟨hwf, hs, hc, hf, hn, hfd, hm, hlt, hseen, hno, hyes, hfin⟩
  have hff : t.fd = false := by
    cases hq : t.fd
    · rfl
    · rw [hfd hq] at hd; cases hd
  have b7 := (hwf.of hd).2.2.2.2.2.2
  rw [hs] at b7
  have hg : ∀ a, w.get a = w0.get a := fun a => hno hff _
  have hat : t.at' = page s.p s.c s.m ((f + t.many) % s.p) := by unfold at' pg; rw [hs, hf]
  have hsn : w0.get t.at' ≠ 0 → ∀ j, 0 ≤ j → j < t.many + 1 → w0.get (page s.p s.c s.m ((f + j) % s.p)) ≠ 0 := fun hz j j0 j1 => by
    by_cases hj : j < t.many
    · exact hseen j j0 hj
    · have ej : j = t.many := by omega
      subst ej; rw [← hat]; exact hz
  rcases hcs with ⟨he, hz, e⟩ | ⟨he, hz, e⟩ | ⟨he, hz, e⟩ | ⟨he, hz, e⟩
  · rw [e] at hwf' e1 e2 e3 e4 ⊢
    refine ⟨hwf', e1, e2, e3, e4, fun _ => rfl, hm, fun _ => b7, hseen, (fun h => by cases h), fun _ => ⟨?_, fun i => ?_⟩, (fun _ h => by cases h)⟩
    · show w0.get t.at' = 0
      rw [← hg]; exact hz
    · show (w.swap t.c t.at' 0 (held t.c)).ws i = if i = t.at'.toNat then held c else w0.ws i
      rw [ws_swap_yes hz, hno hff, hc]
  · rw [e] at hwf' e1 e2 e3 e4 ⊢
    rw [hg] at hz
    refine ⟨hwf', e1, e2, e3, e4, (fun h => by have h : t.fd = true := h; rw [hff] at h; cases h), ⟨by show 0 ≤ t.many + 1; omega, by show t.many + 1 ≤ _; omega⟩, (fun h => by have h : t.fd = true := h; rw [hff] at h; cases h), hsn hz, fun _ i => ?_, (fun h => by have h : t.fd = true := h; rw [hff] at h; cases h), fun h _ => ?_⟩
    · show (w.swap t.c t.at' 0 (held t.c)).ws i = _
      rw [ws_swap_no (by rw [hg]; exact hz), hno hff]
    · have h : decide (t.many + 1 = t.s.p) = true := h
      rw [hs] at h; show t.many + 1 = s.p; simpa using h
  · rw [e] at hwf' e1 e2 e3 e4 ⊢
    exact ⟨hwf', e1, e2, e3, e4, (fun h => by have h : t.fd = true := h; rw [hff] at h; cases h), hm, fun _ => b7, hseen, fun _ i => hno hff i, (fun h => by have h : t.fd = true := h; rw [hff] at h; cases h), (fun h => by have h : t.dn = true := h; rw [hd] at h; cases h)⟩
  · rw [e] at hwf' e1 e2 e3 e4 ⊢
    rw [hg] at hz
    refine ⟨hwf', e1, e2, e3, e4, (fun h => by have h : t.fd = true := h; rw [hff] at h; cases h), ⟨by show 0 ≤ t.many + 1; omega, by show t.many + 1 ≤ _; omega⟩, (fun h => by have h : t.fd = true := h; rw [hff] at h; cases h), hsn hz, fun _ i => hno hff i, (fun h => by have h : t.fd = true := h; rw [hff] at h; cases h), fun h _ => ?_⟩
    have h : decide (t.many + 1 = t.s.p) = true := h
    rw [hs] at h; show t.many + 1 = s.p; simpa using h
theorem Al.its (h : Al s c f w0 t w) (n : Nat) : Al s c f w0 (its Pc.step n t w).1 (its Pc.step n t w).2 := by
  induction n with
  | zero => exact h
  | succ n ih => exact ih.step

/-- The first empty page from f + i on. -/
def First (s : Sh) (f : Int) (w0 : Wd) (i want : Int) : Prop :=
  (want = -1 ∧ ∀ j, i ≤ j → j < s.p → w0.get (page s.p s.c s.m ((f + j) % s.p)) ≠ 0) ∨
  ∃ j, i ≤ j ∧ j < s.p ∧ want = (f + j) % s.p ∧ w0.get (page s.p s.c s.m want) = 0 ∧ ∀ j', i ≤ j' → j' < j → w0.get (page s.p s.c s.m ((f + j') % s.p)) ≠ 0
theorem First.top : First s f w0 s.p (-1) := .inl ⟨rfl, fun j h1 h2 => by omega⟩
theorem First.yes (hi : i < s.p) (hz : w0.get (page s.p s.c s.m ((f + i) % s.p)) = 0) : First s f w0 i ((f + i) % s.p) :=
  .inr ⟨i, Int.le_refl _, hi, rfl, hz, fun j' a b => by omega⟩
theorem First.no (h : First s f w0 (i + 1) want) (hz : w0.get (page s.p s.c s.m ((f + i) % s.p)) ≠ 0) : First s f w0 i want := by
  rcases h with ⟨h1, h2⟩ | ⟨j, h1, h2, h3, h4, h5⟩
  · refine .inl ⟨h1, fun j a b => ?_⟩
    by_cases e : j = i
    · subst e; exact hz
    · exact h2 j (by omega) b
  · refine .inr ⟨j, by omega, h2, h3, h4, fun j' a b => ?_⟩
    by_cases e : j' = i
    · subst e; exact hz
    · exact h5 j' (by omega) b
theorem Al.first (h : Al s c f w0 t w) (hd : t.dn = true) (hp : 0 < s.p) (hF : First s f w0 0 want) : t.fd = decide (0 ≤ want) ∧ (t.fd = true → t.pg = want) := by
  have hpg : t.pg = (f + t.many) % s.p := by unfold pg; rw [h.hs, h.hf]
  have hat : t.at' = page s.p s.c s.m ((f + t.many) % s.p) := by unfold at'; rw [hpg, h.hs]
  have hmd := mod_bd (a := f + t.many) (p := s.p) hp
  cases hf : t.fd
  · refine ⟨?_, fun h => by cases h⟩
    have hm := h.fin hd hf
    rcases hF with ⟨e, -⟩ | ⟨j, a, b, d, e, -⟩
    · subst e; rfl
    · exfalso
      rw [d] at e
      exact h.seen j a (by omega) e
  · have hl := h.lt hf
    have hz := (h.yes hf).1
    rw [hat] at hz
    rcases hF with ⟨-, e⟩ | ⟨j, a, b, d, e, g⟩
    · exact absurd hz (e _ h.many.1 hl)
    · have ej : j = t.many := by
        rcases Int.lt_trichotomy j t.many with hj | hj | hj
        · rw [d] at e; exact absurd e (h.seen j a hj)
        · exact hj
        · exact absurd hz (g _ h.many.1 hj)
      subst ej
      refine ⟨(decide_eq_true (by omega)).symm, fun _ => by rw [hpg, d]⟩
/-- What it has not claimed it has not touched. -/
theorem Al.rest (h : Al s c f w0 t w) (j : Nat) : w.ws j = w0.ws j ∨ (t.fd = true ∧ j = t.at'.toNat ∧ w.ws j = held c) := by
  cases hf : t.fd
  · exact .inl (h.no hf j)
  · have := (h.yes hf).2 j
    by_cases e : j = t.at'.toNat
    · right; rw [if_pos e] at this; exact ⟨rfl, e, this⟩
    · left; rw [if_neg e] at this; exact this

/-- There are never more steps left than two for each page. -/
theorem left_le (h : t.wf) (hp : 0 ≤ t.s.p) : t.left ≤ 2 * t.s.p := by
  unfold left
  split
  · omega
  · rename_i h1
    have := h.of (by simpa using h1)
    split <;> omega
theorem new_dn (hm : may s.p s.c s.m = true) (h1 : 0 ≤ c) (h2 : c < s.c) (h3 : 0 ≤ f) (h4 : f < s.p) : (Pc.new s c f).dn = false := by
  show (decide (status s.p s.c s.m c < 0) || decide (page s.p s.c s.m f < 0)) = false
  rw [Bool.or_eq_false_iff]
  constructor
  · rw [decide_eq_false_iff_not, status_lt0]; simp [hm]; omega
  · rw [decide_eq_false_iff_not, page_lt0]; simp [hm]; omega
end Pc

/-- As they begin. -/
theorem PgInv.init {n : Nat} {s : Sh} {full : Int → Prop} {w : Wd} {f : Nat → Int} (hof : w.of s) (hm : may s.p s.c s.m = true) (hn : (n : Int) ≤ s.c) (hf : ∀ c, c < n → 0 ≤ f c ∧ f c < s.p)
    (h1 : ∀ q, 0 ≤ q → q < s.p → full q → w.get (s.c + q) ≠ 0) (h2 : ∀ q, 0 ≤ q → q < s.p → ¬ full q → w.get (s.c + q) = 0) : PgInv n s full (fun c => Pc.new s c (f c)) w := by
  refine ⟨hof, hm, hn, fun c hc => ⟨Pc.new_wf s c (f c), rfl, rfl⟩, (fun c hc h => by cases h), (fun c hc h => by cases h), h1, fun q q0 q1 hq => .inl (h2 q q0 q1 hq), fun c hc _ j j0 j1 => ?_, fun c hc hd => ?_⟩
  · have j1 : j < 0 := j1; omega
  · have := Pc.new_dn hm (c := (c : Int)) (f := f c) (by omega) (by omega) (hf c hc).1 (hf c hc).2
    have hd : (Pc.new s c (f c)).dn = true := hd
    rw [this] at hd; cases hd
/-- Two that have ended have two pages, or there is but one. -/
theorem PgInv.both {s : Sh} {ts : Nat → Pc} {w : Wd} (h : PgInv 2 s (fun _ => False) ts w) (h0 : (ts 0).dn = true) (h1 : (ts 1).dn = true) :
    ((ts 0).fd = true ∧ (ts 1).fd = true ∧ (ts 0).pg ≠ (ts 1).pg) ∨ (s.p = 1 ∧ (ts 0).fd = !(ts 1).fd) := by
  have hm := (may_iff _ _ _).1 h.ok
  have hnc := h.nc
  have none : ∀ a, a < 2 → (ts a).dn = true → (ts a).fd = false → ∀ q, 0 ≤ q → q < s.p → ∃ c, c < 2 ∧ (ts c).fd = true ∧ (ts c).pg = q := fun a ha hd hf q q0 q1 => by
    obtain ⟨f0, f1, fm⟩ := h.fin a ha hd hf
    have hsn := h.seen a ha hf ((q - (ts a).f) % s.p) (Int.emod_nonneg _ (by omega)) (by rw [fm]; exact Int.emod_lt_of_pos _ (by omega))
    have e : ((ts a).f + (q - (ts a).f) % s.p) % s.p = q := by
      rw [Int.add_emod_emod, show (ts a).f + (q - (ts a).f) = q by omega]; exact Int.emod_eq_of_lt q0 q1
    rw [e] at hsn
    rcases h.em q q0 q1 (fun h => h) with hz | hx
    · exact absurd hz hsn
    · exact hx
  cases e0 : (ts 0).fd <;> cases e1 : (ts 1).fd
  · obtain ⟨c, hc, hf, -⟩ := none 0 (by decide) h0 e0 0 (by omega) (by omega)
    rcases (by omega : c = 0 ∨ c = 1) with rfl | rfl
    · rw [e0] at hf; cases hf
    · rw [e1] at hf; cases hf
  · right
    refine ⟨?_, rfl⟩
    have hq : ∀ q, 0 ≤ q → q < s.p → (ts 1).pg = q := fun q q0 q1 => by
      obtain ⟨c, hc, hf, hp⟩ := none 0 (by decide) h0 e0 q q0 q1
      rcases (by omega : c = 0 ∨ c = 1) with rfl | rfl
      · rw [e0] at hf; cases hf
      · exact hp
    have a := hq 0 (by omega) (by omega)
    by_cases h2 : s.p = 1
    · exact h2
    · have b := hq 1 (by omega) (by omega); omega
  · right
    refine ⟨?_, rfl⟩
    have hq : ∀ q, 0 ≤ q → q < s.p → (ts 0).pg = q := fun q q0 q1 => by
      obtain ⟨c, hc, hf, hp⟩ := none 1 (by decide) h1 e1 q q0 q1
      rcases (by omega : c = 0 ∨ c = 1) with rfl | rfl
      · exact hp
      · rw [e1] at hf; cases hf
    have a := hq 0 (by omega) (by omega)
    by_cases h2 : s.p = 1
    · exact h2
    · have b := hq 1 (by omega) (by omega); omega
  · left
    refine ⟨rfl, rfl, fun e => ?_⟩
    obtain ⟨a0, a1, -, a3⟩ := h.own 0 (by decide) e0
    obtain ⟨b0, b1, -, b3⟩ := h.own 1 (by decide) e1
    rw [e, b3] at a3
    have := held_inj (by omega) (by omega) (by omega) (by omega) a3
    omega
end Go.Ma
