/-
  A claimer of slots alone, plain: it comes to the first open slot of its class, and touches nothing else. Conditions: none.
-/
import Derived.Test.YtfapipblclikbaaMaAlone
import Derived.Test.YtfapipblclikbaaMaIts
set_option linter.unusedVariables false
namespace Go.Ma
open Go.Pl

/-- Is page q bound to class k? -/
def mineAt (s : Sh) (k q : Int) (w : Wd) : Bool := okPg s q (w.get (page s.p s.c s.m q)) && decide (pgK s q (w.get (page s.p s.c s.m q)) = 2) && decide (pgA s q (w.get (page s.p s.c s.m q)) = k)
/-- Page q has no open slot of class k. -/
def Clear (s : Sh) (k q : Int) (w : Wd) : Prop := mineAt s k q w = false ∨ ∀ i, 0 ≤ i → i < slots k → w.get (slot s.p s.c s.m q i) ≠ opn k
namespace Sc
theorem mine_eq (t : Sc) (w : Wd) : t.mine w = mineAt t.s t.k t.pg w := rfl
/-- What a claimer has done that is alone from w0 on. -/
structure Al (s : Sh) (c k f : Int) (w0 : Wd) (t : Sc) (w : Wd) : Prop where
  wf : t.wf
  hs : t.s = s
  hc : t.c = c
  hk : t.k = k
  hf : t.f = f
  hn : w.n = w0.n
  fd : t.fd = true → t.dn = true
  many : 0 ≤ t.many ∧ t.many ≤ s.p
  seen : ∀ j, 0 ≤ j → j < t.many → Clear s k ((f + j) % s.p) w0
  cur : t.dn = false → t.nx ≠ 0 → mineAt s k t.pg w0 = true
  bel : t.dn = false → ∀ i, 0 ≤ i → i < t.i → w0.get (slot s.p s.c s.m t.pg i) ≠ opn k
  no : t.fd = false → ∀ i, w.ws i = w0.ws i
  yes : t.fd = true → (t.many < s.p ∧ mineAt s k t.pg w0 = true ∧ 0 ≤ t.i ∧ t.i < slots k ∧ w0.get t.at' = opn k ∧ ∀ i, 0 ≤ i → i < t.i → w0.get (slot s.p s.c s.m t.pg i) ≠ opn k) ∧ ∀ i, w.ws i = if i = t.at'.toNat then way c else w0.ws i
  fin : t.dn = true → t.fd = false → t.many = s.p

variable {t : Sc} {w w0 : Wd} {s : Sh} {c k f pg at' i : Int}
theorem Al.start (h : t.wf) (hd : t.dn = false) (hf : t.fd = false) (hm : t.many = 0) (hn : t.nx = 0) (hi : t.i = 0) : Al t.s t.c t.k t.f w t w := by
  have hp := h.of hd
  refine ⟨h, rfl, rfl, rfl, rfl, rfl, (fun h => by rw [hf] at h; cases h), by omega, (fun j h1 h2 => by omega), fun _ h => absurd hn h, (fun _ i h1 h2 => by omega), fun _ _ => rfl, (fun h => by rw [hf] at h; cases h), (fun h => by rw [hd] at h; cases h)⟩

theorem Al.step (h : Al s c k f w0 t w) : Al s c k f w0 (t.step w).1 (t.step w).2 := by
  obtain ⟨hwf, hs, hc, hk, hf, hn, hfd, hm, hseen, hcur, hbel, hno, hyes, hfin⟩ := h
  have hwf' := step_wf (w := w) hwf
  rcases step_cases t w with ⟨hd, e⟩ | ⟨hd, hcs⟩
  · rw [e]; exact ⟨hwf, hs, hc, hk, hf, hn, hfd, hm, hseen, hcur, hbel, hno, hyes, hfin⟩
  have hff : t.fd = false := by
    cases hq : t.fd
    · rfl
    · rw [hfd hq] at hd; cases hd
  obtain ⟨b1, b2, b3, b4, b5, b6, b7, b8, b9, b10, b11⟩ := hwf.of hd
  rw [hs] at b7
  rw [hk] at b9
  have hg : ∀ a, w.get a = w0.get a := fun a => hno hff _
  have hmi : t.mine w = mineAt s k t.pg w0 := by rw [mine_eq, hs, hk]; unfold mineAt; rw [hg]
  have hat : t.at' = slot s.p s.c s.m t.pg t.i := by unfold at'; rw [hs]
  have hpg : t.pg = (f + t.many) % s.p := by unfold pg; rw [hs, hf]
  have hff' : ∀ {P : Prop}, t.fd = true → P := fun h => by rw [hff] at h; cases h
  have hdd' : ∀ {P : Prop}, t.dn = true → P := fun h => by rw [hd] at h; cases h
  -- a turn
  have hsn : Clear s k t.pg w0 → ∀ j, 0 ≤ j → j < t.many + 1 → Clear s k ((f + j) % s.p) w0 := fun hz j j0 j1 => by
    by_cases hj : j < t.many
    · exact hseen j j0 hj
    · have ej : j = t.many := by omega
      subst ej; rw [← hpg]; exact hz
  have turn : ∀ (t2 : Sc) (w2 : Wd), t2.wf → t2.s = s → t2.c = c → t2.k = k → t2.f = f → t2.many = t.many + 1 → t2.i = 0 → t2.nx = 0 → t2.fd = false → t2.dn = decide (t.many + 1 = s.p) → w2.n = w0.n → (∀ i, w2.ws i = w0.ws i) → Clear s k t.pg w0 → Al s c k f w0 t2 w2 := fun t2 w2 a0 a1 a2 a3 a4 a5 a6 a7 a8 a9 a10 a11 hz =>
    ⟨a0, a1, a2, a3, a4, a10, (fun h => by rw [a8] at h; cases h), by omega, by rw [a5]; exact hsn hz, fun _ h => absurd a7 h, fun _ i h1 h2 => by omega, fun _ => a11, (fun h => by rw [a8] at h; cases h), (fun h _ => by rw [a9] at h; have : t.many + 1 = s.p := of_decide_eq_true h; rw [a5]; exact this)⟩
  have miss : t.nx ≠ 0 → w0.get t.at' ≠ opn k → ∀ w2 : Wd, t.miss.wf → w2.n = w0.n → (∀ i, w2.ws i = w0.ws i) → Al s c k f w0 t.miss w2 := fun hx hz w2 a0 a10 a11 => by
    have hb : ∀ i, 0 ≤ i → i < t.i + 1 → w0.get (slot s.p s.c s.m t.pg i) ≠ opn k := fun i h1 h2 => by
      by_cases hi : i < t.i
      · exact hbel hd i h1 hi
      · have : i = t.i := by omega
        subst this; rw [← hat]; exact hz
    by_cases hl : t.i + 1 = slots t.k
    · have e : t.miss = ({ t with i := t.i + 1, nx := 1 } : Sc).turn := by unfold Sc.miss; rw [if_pos hl]
      rw [e] at a0 ⊢
      exact turn _ w2 a0 hs hc hk hf rfl rfl rfl hff (by show decide (t.many + 1 = t.s.p) = _; rw [hs]) a10 a11 (.inr fun i h1 h2 => hb i h1 (by rw [hk] at hl; omega))
    · have e : t.miss = ({ t with i := t.i + 1, nx := 1 } : Sc) := by unfold Sc.miss; rw [if_neg hl]
      rw [e] at a0 ⊢
      exact ⟨a0, hs, hc, hk, hf, a10, hff', hm, hseen, fun _ _ => hcur hd hx, fun _ => hb, fun _ => a11, hff', hdd'⟩
  rcases hcs with ⟨hx, hz, e⟩ | ⟨hx, hz, e⟩ | ⟨hx, hz, e⟩ | ⟨hx, hz, e⟩ | ⟨hx, hx1, hz, e⟩ | ⟨hx, hx1, hz, e⟩
  · rw [e] at hwf' ⊢
    rw [hmi] at hz
    exact ⟨hwf', hs, hc, hk, hf, hn, hff', hm, hseen, fun _ _ => hz, fun _ => hbel hd, fun _ i => hno hff i, hff', hdd'⟩
  · rw [e] at hwf' ⊢
    rw [hmi] at hz
    exact turn _ _ hwf' hs hc hk hf rfl rfl rfl hff (by show decide (t.many + 1 = t.s.p) = _; rw [hs]) hn (fun i => hno hff i) (.inl hz)
  · rw [e] at hwf' ⊢
    exact ⟨hwf', hs, hc, hk, hf, hn, hff', hm, hseen, fun _ _ => hcur hd (by omega), fun _ => hbel hd, fun _ i => hno hff i, hff', hdd'⟩
  · rw [e] at hwf' ⊢
    rw [hg, hk] at hz
    exact miss (by omega) hz _ hwf' hn (fun i => hno hff i)
  · rw [e] at hwf' ⊢
    refine ⟨hwf', hs, hc, hk, hf, hn, fun _ => rfl, hm, hseen, (fun h => by cases h), (fun h => by cases h), (fun h => by cases h), fun _ => ⟨⟨b7, hcur hd hx, b8, b9, ?_, hbel hd⟩, fun i => ?_⟩, (fun _ h => by cases h)⟩
    · show w0.get t.at' = _
      rw [← hg, hz, hk]
    · show (w.swap t.c t.at' (opn t.k) (way t.c)).ws i = if i = t.at'.toNat then way c else w0.ws i
      rw [ws_swap_yes hz, hno hff, hc]
  · rw [e] at hwf' ⊢
    refine miss hx (by rw [← hg, ← hk]; exact hz) _ hwf' hn (fun i => ?_)
    rw [ws_swap_no hz, hno hff]
theorem Al.its (h : Al s c k f w0 t w) (n : Nat) : Al s c k f w0 (its Sc.step n t w).1 (its Sc.step n t w).2 := by
  induction n with
  | zero => exact h
  | succ n ih => exact ih.step

/-- The first open slot from page f + i on. -/
def First (s : Sh) (k f : Int) (w0 : Wd) (i pg at' : Int) : Prop :=
  (pg = -1 ∧ at' = -1 ∧ ∀ j, i ≤ j → j < s.p → Clear s k ((f + j) % s.p) w0) ∨
  ∃ j, i ≤ j ∧ j < s.p ∧ pg = (f + j) % s.p ∧ mineAt s k pg w0 = true ∧ 0 ≤ at' ∧ at' < slots k ∧ w0.get (slot s.p s.c s.m pg at') = opn k ∧ (∀ a, 0 ≤ a → a < at' → w0.get (slot s.p s.c s.m pg a) ≠ opn k) ∧
    ∀ j', i ≤ j' → j' < j → Clear s k ((f + j') % s.p) w0
/-- Within a page, from slot a on; what is behind the page is first of what is behind. -/
def Within (s : Sh) (k f : Int) (w0 : Wd) (i a pg at' : Int) : Prop :=
  (First s k f w0 (i + 1) pg at' ∧ ∀ b, a ≤ b → b < slots k → w0.get (slot s.p s.c s.m ((f + i) % s.p) b) ≠ opn k) ∨
  (pg = (f + i) % s.p ∧ a ≤ at' ∧ at' < slots k ∧ w0.get (slot s.p s.c s.m pg at') = opn k ∧ ∀ b, a ≤ b → b < at' → w0.get (slot s.p s.c s.m pg b) ≠ opn k)
theorem First.top : First s k f w0 s.p (-1) (-1) := .inl ⟨rfl, rfl, fun j h1 h2 => by omega⟩
theorem First.skip (h : First s k f w0 (i + 1) pg at') (hz : Clear s k ((f + i) % s.p) w0) : First s k f w0 i pg at' := by
  rcases h with ⟨h1, h2, h3⟩ | ⟨j, h1, h2, h3, h4, h5, h6, h7, h8, h9⟩
  · refine .inl ⟨h1, h2, fun j a b => ?_⟩
    by_cases e : j = i
    · subst e; exact hz
    · exact h3 j (by omega) b
  · refine .inr ⟨j, by omega, h2, h3, h4, h5, h6, h7, h8, fun j' a b => ?_⟩
    by_cases e : j' = i
    · subst e; exact hz
    · exact h9 j' (by omega) b
theorem First.within (h : First s k f w0 (i + 1) pg at') : Within s k f w0 i (slots k) pg at' := .inl ⟨h, fun b h1 h2 => by omega⟩
theorem Within.yes {a : Int} (h0 : 0 ≤ a) (h1 : a < slots k) (hz : w0.get (slot s.p s.c s.m ((f + i) % s.p) a) = opn k) : Within s k f w0 i a ((f + i) % s.p) a :=
  .inr ⟨rfl, Int.le_refl _, h1, hz, fun b h1 h2 => by omega⟩
theorem Within.no {a : Int} (h : Within s k f w0 i (a + 1) pg at') (hz : w0.get (slot s.p s.c s.m ((f + i) % s.p) a) ≠ opn k) : Within s k f w0 i a pg at' := by
  rcases h with ⟨h1, h2⟩ | ⟨h1, h2, h3, h4, h5⟩
  · refine .inl ⟨h1, fun b h3 h4 => ?_⟩
    by_cases e : b = a
    · subst e; exact hz
    · exact h2 b (by omega) h4
  · refine .inr ⟨h1, by omega, h3, h4, fun b h6 h7 => ?_⟩
    by_cases e : b = a
    · subst e; rw [h1]; exact hz
    · exact h5 b (by omega) h7
theorem Within.done (h : Within s k f w0 i 0 pg at') (hi : i < s.p) (hm : mineAt s k ((f + i) % s.p) w0 = true) : First s k f w0 i pg at' := by
  rcases h with ⟨h1, h2⟩ | ⟨h1, h2, h3, h4, h5⟩
  · exact h1.skip (.inr h2)
  · exact .inr ⟨i, Int.le_refl _, hi, h1, by rw [h1]; exact hm, h2, h3, h4, h5, fun j' a b => by omega⟩
theorem Al.first (h : Al s c k f w0 t w) (hd : t.dn = true) (hp : 0 < s.p) (hF : First s k f w0 0 pg at') : t.fd = decide (0 ≤ pg) ∧ (t.fd = true → t.pg = pg ∧ t.i = at') := by
  have hpg : t.pg = (f + t.many) % s.p := by unfold Sc.pg; rw [h.hs, h.hf]
  have hat : t.at' = slot s.p s.c s.m t.pg t.i := by unfold Sc.at'; rw [h.hs]
  cases hf : t.fd
  · refine ⟨?_, fun h => by cases h⟩
    have hm := h.fin hd hf
    rcases hF with ⟨e, -⟩ | ⟨j, a, b, d, e1, e2, e3, e4, -⟩
    · subst e; rfl
    · exfalso
      have := h.seen j a (by omega)
      rw [← d] at this
      rcases this with h1 | h1
      · rw [e1] at h1; cases h1
      · exact h1 _ e2 e3 e4
  · obtain ⟨⟨y1, y2, y3, y4, y5, y6⟩, -⟩ := h.yes hf
    rw [hat] at y5
    have hcl : ¬ Clear s k t.pg w0 := fun hc => by
      rcases hc with h1 | h1
      · rw [y2] at h1; cases h1
      · exact h1 _ y3 y4 y5
    rcases hF with ⟨-, -, e⟩ | ⟨j, a, b, d, e1, e2, e3, e4, e5, g⟩
    · exact absurd (by rw [hpg]; exact e _ h.many.1 y1) hcl
    · have ej : j = t.many := by
        rcases Int.lt_trichotomy j t.many with hj | hj | hj
        · exfalso
          have := h.seen j a hj
          rw [← d] at this
          rcases this with h1 | h1
          · rw [e1] at h1; cases h1
          · exact h1 _ e2 e3 e4
        · exact hj
        · exact absurd (by rw [hpg]; exact g _ h.many.1 hj) hcl
      subst ej
      have epg : t.pg = pg := by rw [hpg, d]
      refine ⟨?_, fun _ => ⟨epg, ?_⟩⟩
      · have := mod_bd (a := f + t.many) (p := s.p) hp
        exact (decide_eq_true (by omega)).symm
      · rw [epg] at y5 y6
        rcases Int.lt_trichotomy t.i at' with hj | hj | hj
        · exact absurd y5 (e5 _ y3 hj)
        · exact hj
        · exact absurd e4 (y6 _ e2 hj)
theorem Al.rest (h : Al s c k f w0 t w) (j : Nat) : w.ws j = w0.ws j ∨ (t.fd = true ∧ j = t.at'.toNat ∧ w.ws j = way c) := by
  cases hf : t.fd
  · exact .inl (h.no hf j)
  · have := (h.yes hf).2 j
    by_cases e : j = t.at'.toNat
    · right; rw [if_pos e] at this; exact ⟨rfl, e, this⟩
    · left; rw [if_neg e] at this; exact this
theorem left_le (h : t.wf) (hp : 0 ≤ t.s.p) : t.left ≤ 33 * t.s.p := by
  unfold left
  split
  · omega
  · rename_i h1
    have h1 : t.dn = false := by simpa using h1
    have := h.of h1; have := rest_bd h h1; omega
end Sc
end Go.Ma
