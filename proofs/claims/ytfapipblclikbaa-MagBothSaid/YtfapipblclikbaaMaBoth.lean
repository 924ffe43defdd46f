/-
  A putter and a taker alone, plain: what was put is taken again, the first entry of the class first. Conditions: none.
-/
import Derived.Test.YtfapipblclikbaaMaTwo
import Derived.Test.YtfapipblclikbaaMaAlone
set_option linter.unusedVariables false
namespace Go.Ma
open Go.Pl

/-- The first one from i on that is so, or none. -/
def Fst (P : Int → Prop) (n i want : Int) : Prop := (want = -1 ∧ ∀ j, i ≤ j → j < n → ¬ P j) ∨ (i ≤ want ∧ want < n ∧ P want ∧ ∀ j, i ≤ j → j < want → ¬ P j)
theorem Fst.top {P : Int → Prop} {n : Int} : Fst P n n (-1) := .inl ⟨rfl, fun j a b => by omega⟩
theorem Fst.yes {P : Int → Prop} {n i : Int} (h : P i) (hi : i < n) : Fst P n i i := .inr ⟨Int.le_refl _, hi, h, fun j a b => by omega⟩
theorem Fst.no {P : Int → Prop} {n i want : Int} (h : Fst P n (i + 1) want) (hi : ¬ P i) : Fst P n i want := by
  rcases h with ⟨h1, h2⟩ | ⟨h1, h2, h3, h4⟩
  · refine .inl ⟨h1, fun j a b => ?_⟩
    by_cases e : j = i
    · subst e; exact hi
    · exact h2 j (by omega) b
  · refine .inr ⟨by omega, h2, h3, fun j a b => ?_⟩
    by_cases e : j = i
    · subst e; exact hi
    · exact h4 j (by omega) b
theorem Fst.one {P : Int → Prop} {n want i : Int} {b : Bool} (h : Fst P n 0 want) (h0 : 0 ≤ i) (hn : b = false → ∀ j, 0 ≤ j → j < n → ¬ P j) (hy : b = true → i < n ∧ P i ∧ ∀ j, 0 ≤ j → j < i → ¬ P j) : b = decide (0 ≤ want) ∧ (b = true → i = want) := by
  cases b
  · refine ⟨?_, fun h => by cases h⟩
    rcases h with ⟨h1, -⟩ | ⟨h1, h2, h3, -⟩
    · subst h1; rfl
    · exact absurd h3 (hn rfl _ h1 h2)
  · obtain ⟨g1, g2, g3⟩ := hy rfl
    rcases h with ⟨-, h2⟩ | ⟨h1, h2, h3, h4⟩
    · exact absurd g2 (h2 i h0 g1)
    · have e : i = want := by
        rcases Int.lt_trichotomy i want with hj | hj | hj
        · exact absurd g2 (h4 _ h0 hj)
        · exact hj
        · exact absurd h3 (g3 _ h1 hj)
      exact ⟨(decide_eq_true h1).symm, fun _ => e⟩

theorem mag_nn {s : Sh} (hm : may s.p s.c s.m = true) {c j : Int} (h0 : 0 ≤ c) (h1 : c < s.c) (j0 : 0 ≤ j) (j1 : j < s.m) : 0 ≤ mag s.p s.c s.m c j := by
  rw [mag_yes hm h0 h1 j0 j1]
  obtain ⟨b1, b2, b3, b4, b5, b6⟩ := (may_iff _ _ _).1 hm
  have := Int.mul_nonneg h0 b5
  omega
namespace Pu
/-- What a putter has done that is alone from w0 on. -/
structure Al (s : Sh) (c x : Int) (w0 : Wd) (t : Pu) (w : Wd) : Prop where
  wf : t.wf
  hs : t.s = s
  hc : t.c = c
  hx : putEn t.ep t.es t.ek = x
  hn : w.n = w0.n
  i0 : 0 ≤ t.i
  pdn : t.put = true → t.dn = true
  seen : ∀ j, 0 ≤ j → j < t.i → w0.get (mag s.p s.c s.m c j) ≠ 0
  hit : t.dn = false → t.hit = true → w0.get (mag s.p s.c s.m c t.i) = 0
  no : t.put = false → ∀ a, 0 ≤ a → w.get a = w0.get a
  yes : t.put = true → (t.i < s.m ∧ w0.get (mag s.p s.c s.m c t.i) = 0) ∧ ∀ a, 0 ≤ a → w.get a = if a = mag s.p s.c s.m c t.i then x else w0.get a
  fin : t.dn = true → t.put = false → t.i = s.m
variable {t : Pu} {w w0 : Wd} {s : Sh} {c x want : Int}
theorem Al.start (h : t.wf) (hd : t.dn = false ∨ t.i = t.s.m) (hf : t.put = false) (hi : t.i = 0) (hh : t.hit = false) : Al t.s t.c (putEn t.ep t.es t.ek) w t w :=
  ⟨h, rfl, rfl, rfl, rfl, by omega, (fun h => by rw [hf] at h; cases h), fun j j0 j1 => by omega, (fun _ h => by rw [hh] at h; cases h), fun _ _ _ => rfl, (fun h => by rw [hf] at h; cases h), fun h _ => by
    rcases hd with hd | hd
    · rw [hd] at h; cases h
    · exact hd⟩
theorem Al.step (h : Al s c x w0 t w) : Al s c x w0 (t.step w).1 (t.step w).2 := by
  obtain ⟨hwf, hs, hc, hx, hn, hi0, hpd, hseen, hhit, hno, hyes, hfin⟩ := h
  have hwf' := step_wf (w := w) hwf
  rcases step_cases t w with ⟨hd, e⟩ | ⟨hd, hcs⟩
  · rw [e]; exact ⟨hwf, hs, hc, hx, hn, hi0, hpd, hseen, hhit, hno, hyes, hfin⟩
  have hff : t.put = false := by
    cases hq : t.put
    · rfl
    · rw [hpd hq] at hd; cases hd
  obtain ⟨b1, b2, b3, b4, b5⟩ := hwf.of hd
  have hat : t.at' = mag s.p s.c s.m c t.i := by unfold at'; rw [hs, hc]
  have hap : 0 ≤ t.at' := mag_nn b1 b2 b3 b4 b5
  rw [hs] at b5
  have nop : ∀ {P : Prop}, t.put = true → P := fun h => by rw [hff] at h; cases h
  have nod : ∀ {P : Prop}, t.dn = true → P := fun h => by rw [hd] at h; cases h
  rcases hcs with ⟨hb, e⟩ | ⟨hb, hz, e⟩ | ⟨hb, hz, e⟩
  · rw [e] at hwf' ⊢
    refine ⟨hwf', hs, hc, hx, hn, hi0, fun _ => rfl, hseen, (fun h => by cases h), (fun h => by cases h), fun _ => ⟨⟨b5, hhit hd hb⟩, fun a ha => ?_⟩, (fun _ h => by cases h)⟩
    show (w.store t.c t.at' (putEn t.ep t.es t.ek)).get a = if a = mag s.p s.c s.m c t.i then x else w0.get a
    rw [get_store hap ha, hat, hx, hno hff a ha]
  · rw [e] at hwf' ⊢
    refine ⟨hwf', hs, hc, hx, hn, hi0, nop, hseen, fun _ _ => ?_, fun _ a ha => hno hff a ha, nop, nod⟩
    show w0.get (mag s.p s.c s.m c t.i) = 0
    rw [← hat, ← hno hff _ hap]; exact hz
  · rw [e] at hwf' ⊢
    refine ⟨hwf', hs, hc, hx, hn, by show 0 ≤ t.i + 1; omega, nop, fun j j0 j1 => ?_, (fun _ h => by have h : t.hit = true := h; rw [hb] at h; cases h), fun _ a ha => hno hff a ha, nop, fun h _ => ?_⟩
    · have j1 : j < t.i + 1 := j1
      by_cases ej : j = t.i
      · subst ej; rw [← hat, ← hno hff _ hap]; exact hz
      · exact hseen j j0 (by omega)
    · have h : decide (t.i + 1 = t.s.m) = true := h
      rw [hs] at h; simpa using h
theorem Al.its (h : Al s c x w0 t w) (n : Nat) : Al s c x w0 (its Pu.step n t w).1 (its Pu.step n t w).2 := by
  induction n with
  | zero => exact h
  | succ n ih => exact ih.step
theorem Al.first (h : Al s c x w0 t w) (hd : t.dn = true) (hF : Fst (fun j => w0.get (mag s.p s.c s.m c j) = 0) s.m 0 want) : t.put = decide (0 ≤ want) ∧ (t.put = true → t.i = want) :=
  hF.one h.i0 (fun hp j j0 j1 => h.seen j j0 (by rw [h.fin hd hp]; exact j1)) fun hp => ⟨(h.yes hp).1.1, (h.yes hp).1.2, h.seen⟩
end Pu
/-- Is there an entry of class k? -/
def hitAt (s : Sh) (k x : Int) : Bool := okEn s x && decide (enK s x = k)
namespace Tk
/-- What a taker has done that is alone from w0 on. -/
structure Al (s : Sh) (c k : Int) (w0 : Wd) (t : Tk) (w : Wd) : Prop where
  wf : t.wf
  hs : t.s = s
  hc : t.c = c
  hk : t.k = k
  hn : w.n = w0.n
  i0 : 0 ≤ t.i
  pdn : t.fd = true → t.dn = true
  seen : ∀ j, 0 ≤ j → j < t.i → hitAt s k (w0.get (mag s.p s.c s.m c j)) = false
  hit : t.dn = false → t.hit = true → hitAt s k (w0.get (mag s.p s.c s.m c t.i)) = true ∧ t.ep = enP s (w0.get (mag s.p s.c s.m c t.i)) ∧ t.es = enS s (w0.get (mag s.p s.c s.m c t.i))
  no : t.fd = false → ∀ a, 0 ≤ a → w.get a = w0.get a
  yes : t.fd = true → (t.i < s.m ∧ hitAt s k (w0.get (mag s.p s.c s.m c t.i)) = true ∧ t.ep = enP s (w0.get (mag s.p s.c s.m c t.i)) ∧ t.es = enS s (w0.get (mag s.p s.c s.m c t.i))) ∧ ∀ a, 0 ≤ a → w.get a = if a = mag s.p s.c s.m c t.i then 0 else w0.get a
  fin : t.dn = true → t.fd = false → t.i = s.m
variable {t : Tk} {w w0 : Wd} {s : Sh} {c k want : Int}
theorem Al.start (h : t.wf) (hd : t.dn = false ∨ t.i = t.s.m) (hf : t.fd = false) (hi : t.i = 0) (hh : t.hit = false) : Al t.s t.c t.k w t w :=
  ⟨h, rfl, rfl, rfl, rfl, by omega, (fun h => by rw [hf] at h; cases h), fun j j0 j1 => by omega, (fun _ h => by rw [hh] at h; cases h), fun _ _ _ => rfl, (fun h => by rw [hf] at h; cases h), fun h _ => by
    rcases hd with hd | hd
    · rw [hd] at h; cases h
    · exact hd⟩
theorem Al.step (h : Al s c k w0 t w) : Al s c k w0 (t.step w).1 (t.step w).2 := by
  obtain ⟨hwf, hs, hc, hk, hn, hi0, hpd, hseen, hhit, hno, hyes, hfin⟩ := h
  have hwf' := step_wf (w := w) hwf
  rcases step_cases t w with ⟨hd, e⟩ | ⟨hd, hcs⟩
  · rw [e]; exact ⟨hwf, hs, hc, hk, hn, hi0, hpd, hseen, hhit, hno, hyes, hfin⟩
  have hff : t.fd = false := by
    cases hq : t.fd
    · rfl
    · rw [hpd hq] at hd; cases hd
  obtain ⟨b1, b2, b3, b4, b5⟩ := hwf.of hd
  have hat : t.at' = mag s.p s.c s.m c t.i := by unfold at'; rw [hs, hc]
  have hap : 0 ≤ t.at' := mag_nn b1 b2 b3 b4 b5
  rw [hs] at b5
  have hw : w.get t.at' = w0.get (mag s.p s.c s.m c t.i) := by rw [hno hff _ hap, hat]
  have hh : t.hits w = hitAt s k (w0.get (mag s.p s.c s.m c t.i)) := by unfold hits hitAt; rw [hw, hs, hk]
  have nop : ∀ {P : Prop}, t.fd = true → P := fun h => by rw [hff] at h; cases h
  have nod : ∀ {P : Prop}, t.dn = true → P := fun h => by rw [hd] at h; cases h
  rcases hcs with ⟨hb, e⟩ | ⟨hb, hz, e⟩ | ⟨hb, hz, e⟩
  · rw [e] at hwf' ⊢
    refine ⟨hwf', hs, hc, hk, hn, hi0, fun _ => rfl, hseen, (fun h => by cases h), (fun h => by cases h), fun _ => ⟨⟨b5, hhit hd hb⟩, fun a ha => ?_⟩, (fun _ h => by cases h)⟩
    show (w.store t.c t.at' 0).get a = if a = mag s.p s.c s.m c t.i then 0 else w0.get a
    rw [get_store hap ha, hat, hno hff a ha]
  · rw [e] at hwf' ⊢
    rw [hh] at hz
    exact ⟨hwf', hs, hc, hk, hn, hi0, nop, hseen, fun _ _ => ⟨hz, by show enP t.s (w.get t.at') = _; rw [hw, hs], by show enS t.s (w.get t.at') = _; rw [hw, hs]⟩, fun _ a ha => hno hff a ha, nop, nod⟩
  · rw [e] at hwf' ⊢
    rw [hh] at hz
    refine ⟨hwf', hs, hc, hk, hn, by show 0 ≤ t.i + 1; omega, nop, fun j j0 j1 => ?_, (fun _ h => by have h : t.hit = true := h; rw [hb] at h; cases h), fun _ a ha => hno hff a ha, nop, fun h _ => ?_⟩
    · have j1 : j < t.i + 1 := j1
      by_cases ej : j = t.i
      · subst ej; exact hz
      · exact hseen j j0 (by omega)
    · have h : decide (t.i + 1 = t.s.m) = true := h
      rw [hs] at h; simpa using h
theorem Al.its (h : Al s c k w0 t w) (n : Nat) : Al s c k w0 (its Tk.step n t w).1 (its Tk.step n t w).2 := by
  induction n with
  | zero => exact h
  | succ n ih => exact ih.step
theorem Al.first (h : Al s c k w0 t w) (hd : t.dn = true) (hF : Fst (fun j => hitAt s k (w0.get (mag s.p s.c s.m c j)) = true) s.m 0 want) : t.fd = decide (0 ≤ want) ∧ (t.fd = true → t.i = want) :=
  hF.one h.i0 (fun hp j j0 j1 => by rw [h.seen j j0 (by rw [h.fin hd hp]; exact j1)]; decide) fun hp => ⟨(h.yes hp).1.1, (h.yes hp).1.2.1, fun j j0 j1 => by rw [h.seen j j0 j1]; decide⟩
end Tk

/-! ### The magazine and its model -/
def encM (v : Int) : Int := if v = 0 then 0 else putEn ((v - 1) / 8) ((v - 1) / 4 % 2) ((v - 1) % 4)
def sh4 (n : Int) : Sh := ⟨4, 2, n⟩
theorem encM_ne {v : Int} (h0 : 0 ≤ v) (h1 : v ≤ 32) : encM v = 0 ↔ v = 0 := by
  unfold encM putEn
  by_cases h : v = 0
  · simp [h]
  · rw [if_neg h, if_pos (by omega)]; omega
theorem encM_hit {n v k : Int} (hn0 : 0 ≤ n) (hn : n ≤ 8) (h0 : 0 ≤ v) (h1 : v ≤ 32) (k0 : 0 ≤ k) (k1 : k ≤ 3) : (hitAt (sh4 n) k (encM v) = true ↔ (0 < v ∧ (v - 1) % 4 = k)) ∧ (0 < v → enP (sh4 n) (encM v) = (v - 1) / 8 ∧ enS (sh4 n) (encM v) = (v - 1) / 4 % 2) := by
  have key : ∀ n : Fin 9, ∀ v : Fin 33, ∀ k : Fin 4, (hitAt (sh4 n.val) k.val (encM v.val) = (decide (0 < v.val) && decide ((v.val - 1) % 4 = k.val))) ∧ (0 < v.val → enP (sh4 n.val) (encM v.val) = ((v.val : Int) - 1) / 8 ∧ enS (sh4 n.val) (encM v.val) = ((v.val : Int) - 1) / 4 % 2) := by decide +kernel
  obtain ⟨n, rfl⟩ := Int.eq_ofNat_of_zero_le hn0
  obtain ⟨v, rfl⟩ := Int.eq_ofNat_of_zero_le h0
  obtain ⟨k, rfl⟩ := Int.eq_ofNat_of_zero_le k0
  obtain ⟨h2, h3⟩ := key ⟨n, by omega⟩ ⟨v, by omega⟩ ⟨k, by omega⟩
  simp only at h2 h3
  refine ⟨?_, fun h => h3 (by omega)⟩
  rw [h2, Bool.and_eq_true, decide_eq_true_iff, decide_eq_true_iff]
  omega
end Go.Ma
