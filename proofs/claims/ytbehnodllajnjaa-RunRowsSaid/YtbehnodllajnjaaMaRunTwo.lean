/-
  Two that look for rows of pages in a blank heap: their rows have no page in common, and one of them finds its row. Conditions: none.
-/
import Derived.Test.YtbehnodllajnjaaMaRun
import Derived.Test.YtbehnodllajnjaaMaMany
set_option linter.unusedVariables false
set_option linter.unusedSimpArgs false
namespace Go.Ma
open Go.Pl

theorem isE_iff {s : Sh} {q x : Int} (hm : may s.p s.c s.m = true) (hq : 0 ≤ q ∧ q < s.p) : (okPg s q x && decide (pgK s q x = 0)) = true ↔ x = 0 := by
  have hb := (may_iff _ _ _).1 hm
  constructor
  · intro h
    simp only [Bool.and_eq_true, decide_eq_true_eq] at h
    obtain ⟨h1, h2⟩ := h
    have h3 : x % 16 = 0 := by unfold pgK at h2; rwa [if_pos h1] at h2
    unfold okPg at h1
    simp only [Bool.and_eq_true, decide_eq_true_eq] at h1
    have h4 := h1.1
    unfold putPg at h4
    rw [h3] at h4
    split at h4
    · omega
    · exact h4.symm
  · rintro rfl
    have hp : page s.p s.c s.m q = s.c + q := page_yes hm hq.1 hq.2
    have h1 : okPg s q 0 = true := by
      unfold okPg fits
      rw [decide_eq_true (by decide : putPg (0 % 16) (pt 0 16) (pt 0 4096) = 0), decide_eq_true (by omega : 0 ≤ page s.p s.c s.m q)]
      rfl
    have h2 : pgK s q 0 = 0 := by unfold pgK; rw [if_pos h1]; decide
    rw [h1, h2]; rfl
theorem isS_mod {s : Sh} {q x : Int} (h : (okPg s q x && decide (pgK s q x = 2)) = true) : x % 16 = 2 := by
  simp only [Bool.and_eq_true, decide_eq_true_eq] at h
  have h2 := h.2
  unfold pgK at h2
  rwa [if_pos h.1] at h2
def body (h : Int) : Int := putPg 4 h 0
theorem held_mod {c : Int} (h : 0 ≤ c ∧ c ≤ 255) : held c % 16 = 1 := by unfold held putPg; rw [if_pos (by omega)]; omega
theorem body_mod {c : Int} (h : 0 ≤ c ∧ c ≤ 255) : body c % 16 = 4 := by unfold body putPg; rw [if_pos (by omega)]; omega
namespace Rn
/-- The end of what it has, and of its bodies. -/
def top (t : Rn) : Int := if t.dn then (if t.fd then t.hd + t.n else t.hd) else if t.nx ≤ 3 then t.at' else if t.nx = 4 then t.i else t.hd + t.n
def bt (t : Rn) : Int := if t.dn then t.hd + t.n else if t.nx = 5 then t.i else t.hd
def wd (t : Rn) (q : Int) : Int := if t.hd < q ∧ q < t.bt then body t.hd else held t.c
def In (t : Rn) (q : Int) : Prop := t.hd ≤ q ∧ q < t.top
def Lose (t : Rn) : Prop := (t.dn = true ∧ t.fd = false) ∨ (t.dn = false ∧ t.nx = 4)
def Win (t : Rn) : Prop := t.fd = true ∨ (t.dn = false ∧ t.nx ≠ 4)
def mq (t : Rn) : Int := if t.dn then t.at' - 1 else t.at'
theorem win_lose {t : Rn} (hf : t.fd = true → t.dn = true) (h1 : t.Win) (h2 : t.Lose) : False := by
  rcases h1 with h1 | ⟨h1, h3⟩ <;> rcases h2 with ⟨h2, h4⟩ | ⟨h2, h4⟩
  · rw [h4] at h1; cases h1
  · have := hf h1; rw [this] at h2; cases h2
  · rw [h2] at h1; cases h1
  · exact h3 h4
theorem top_lost {t : Rn} (h : t.dn = true) (hf : t.fd = false) : t.top = t.hd := by unfold top; rw [h, hf]; rfl
theorem top_won {t : Rn} (h : t.dn = true) (hf : t.fd = true) : t.top = t.hd + t.n := by unfold top; rw [h, hf]; rfl
theorem top_at {t : Rn} (h : t.dn = false) (hn : t.nx ≤ 3) : t.top = t.at' := by unfold top; rw [h, if_neg (by decide), if_pos hn]
theorem top_i {t : Rn} (h : t.dn = false) (hn : t.nx = 4) : t.top = t.i := by unfold top; rw [h, if_neg (by decide), if_neg (by omega), if_pos hn]
theorem top_5 {t : Rn} (h : t.dn = false) (hn : t.nx = 5) : t.top = t.hd + t.n := by unfold top; rw [h, if_neg (by decide), if_neg (by omega), if_neg (by omega)]
theorem bt_5 {t : Rn} (h : t.dn = false) (hn : t.nx = 5) : t.bt = t.i := by unfold bt; rw [h, if_neg (by decide), if_pos hn]
theorem bt_lo {t : Rn} (h : t.dn = false) (hn : t.nx ≤ 4) : t.bt = t.hd := by unfold bt; rw [h, if_neg (by decide), if_neg (by omega)]
theorem bt_dn {t : Rn} (h : t.dn = true) : t.bt = t.hd + t.n := by unfold bt; rw [h]; rfl
theorem wd_held {t : Rn} {q : Int} (h : t.bt ≤ t.hd) : t.wd q = held t.c := by unfold wd; rw [if_neg (by omega)]
theorem mq_dn {t : Rn} (h : t.dn = true) : t.mq = t.at' - 1 := by unfold mq; rw [if_pos h]
theorem mq_no {t : Rn} (h : t.dn = false) : t.mq = t.at' := by unfold mq; rw [h]; rfl
theorem wd_nz {t : Rn} {q : Int} (hc : 0 ≤ t.c ∧ t.c ≤ 255) (hh : 0 ≤ t.hd ∧ t.hd ≤ 255) : t.wd q ≠ 0 ∧ t.wd q % 16 ≠ 2 := by
  have h1 := held_mod hc
  have h2 := body_mod hh
  unfold wd
  split <;> omega

/-- Two runners in one heap. -/
structure Two (s : Sh) (a b : Rn) (w : Wd) : Prop where
  of : w.of s
  ok : may s.p s.c s.m = true
  wa : a.wf ∧ a.s = s ∧ 0 ≤ a.c ∧ a.c ≤ 255 ∧ (a.fd = true → a.dn = true) ∧ 0 ≤ a.hd ∧ a.hd ≤ 255
  wb : b.wf ∧ b.s = s ∧ 0 ≤ b.c ∧ b.c ≤ 255 ∧ (b.fd = true → b.dn = true) ∧ 0 ≤ b.hd ∧ b.hd ≤ 255
  na : a.dn = false → a.nx ≠ 2 ∧ a.nx ≠ 3
  nb : b.dn = false → b.nx ≠ 2 ∧ b.nx ≠ 3
  ha : ∀ q, a.In q → 0 ≤ q ∧ q < s.p ∧ w.get (s.c + q) = a.wd q
  hb : ∀ q, b.In q → 0 ≤ q ∧ q < s.p ∧ w.get (s.c + q) = b.wd q
  z : ∀ q, 0 ≤ q → q < s.p → ¬ a.In q → ¬ b.In q → w.get (s.c + q) = 0
  dj : ∀ q, a.In q → b.In q → False
  la : a.n ≤ s.p → b.n ≤ s.p → a.Lose → b.In a.mq ∧ b.Win
  lb : a.n ≤ s.p → b.n ≤ s.p → b.Lose → a.In b.mq ∧ a.Win
variable {s : Sh} {a b : Rn} {w : Wd}
theorem Two.symm (h : Two s a b w) : Two s b a w :=
  ⟨h.of, h.ok, h.wb, h.wa, h.nb, h.na, h.hb, h.ha, fun q h1 h2 h3 h4 => h.z q h1 h2 h4 h3, fun q h1 h2 => h.dj q h2 h1, fun h1 h2 => h.lb h2 h1, fun h1 h2 => h.la h2 h1⟩
theorem Two.init {c d n m : Int} (hm : may s.p s.c s.m = true) (ho : w.of s) (hz : ∀ q, 0 ≤ q → q < s.p → w.get (s.c + q) = 0) (hc : 0 ≤ c ∧ c < s.c) (hd : 0 ≤ d ∧ d < s.c) (h1 : 1 ≤ n ∧ n ≤ 8) (h2 : 1 ≤ m ∧ m ≤ 8) : Two s (new s c n) (new s d m) w := by
  have hb := (may_iff _ _ _).1 hm
  have T : ∀ c n : Int, ¬ ∃ q, (new s c n).In q := by
    rintro c n ⟨q, h1, h2⟩
    have h1 : 0 ≤ q := h1
    have : (new s c n).top = 0 := by
      unfold top
      cases hd : (new s c n).dn
      · rfl
      · rfl
    omega
  have L : ∀ c n : Int, 0 ≤ c ∧ c < s.c → 1 ≤ n ∧ n ≤ 8 → n ≤ s.p → ¬ (new s c n).Lose := by
    rintro c n hc hn hp (⟨h1, -⟩ | ⟨-, h1⟩)
    · have h1 : (!Rn.ok s c n) = true := h1
      have hst : ¬ status s.p s.c s.m c < 0 := by rw [status_lt0]; exact fun h => h ⟨hm, hc.1, hc.2⟩
      unfold Rn.ok at h1
      rw [decide_eq_true (by omega : 0 ≤ status s.p s.c s.m c), decide_eq_true hn.1, decide_eq_true hn.2, decide_eq_true hp] at h1
      cases h1
    · have h1 : (0 : Int) = 4 := h1
      omega
  refine ⟨ho, hm, ⟨new_wf .., rfl, hc.1, by show c ≤ 255; omega, fun h => (by cases h), by show (0 : Int) ≤ 0; decide, by show (0 : Int) ≤ 255; decide⟩, ⟨new_wf .., rfl, hd.1, by show d ≤ 255; omega, fun h => (by cases h), by show (0 : Int) ≤ 0; decide, by show (0 : Int) ≤ 255; decide⟩,
    fun _ => ⟨by show (0 : Int) ≠ 2; decide, by show (0 : Int) ≠ 3; decide⟩, fun _ => ⟨by show (0 : Int) ≠ 2; decide, by show (0 : Int) ≠ 3; decide⟩, fun q hq => absurd ⟨q, hq⟩ (T _ _), fun q hq => absurd ⟨q, hq⟩ (T _ _), fun q h1 h2 _ _ => hz q h1 h2, fun q hq _ => T _ _ ⟨q, hq⟩, fun hn _ hl => absurd hl (L c n hc h1 hn), fun _ hn hl => absurd hl (L d m hd h2 hn)⟩
theorem Two.miss (h : Two s a b w) (hd : a.dn = false) (hn : a.nx = 0 ∨ a.nx = 1) {w' : Wd} (hw' : w'.of s) (hg : ∀ q, 0 ≤ q → q < s.p → w'.get (s.c + q) = w.get (s.c + q)) (hx : w.get (s.c + a.at') ≠ 0) (hwf : a.miss.wf) : Two s a.miss b w' := by
  obtain ⟨wa1, rfl, wa3, wa4, wa5, wa6, wa7⟩ := h.wa
  obtain ⟨hm, hf, ar⟩ := wa1.of hd
  unfold Ar at ar
  have hmb := (may_iff _ _ _).1 hm
  have ta : a.top = a.at' := top_at hd (by omega)
  have ba : a.bt = a.hd := bt_lo hd (by omega)
  have nin : ¬ a.In a.at' := fun ⟨_, h2⟩ => by omega
  have inb : b.In a.at' := by
    apply Classical.byContradiction
    intro hb
    exact hx (h.z a.at' (by omega) (by omega) nin hb)
  have wb : b.Win ∧ (b.Lose → False) := by
    obtain ⟨wb1, wb2, -, -, wb5, -⟩ := h.wb
    have nl : b.Lose → False := by
      rintro (⟨e1, e2⟩ | ⟨e1, e2⟩)
      · obtain ⟨i1, i2⟩ := inb
        rw [top_lost e1 e2] at i2; omega
      · by_cases hp : b.n ≤ a.s.p
        · have hl := (h.lb (by omega) hp (.inr ⟨e1, e2⟩)).1
          rw [mq_no e1] at hl
          obtain ⟨i1, i2⟩ := hl
          obtain ⟨-, -, arb⟩ := wb1.of e1
          unfold Ar at arb
          obtain ⟨j1, j2⟩ := inb
          rw [top_i e1 e2] at j2
          omega
        · obtain ⟨-, -, arb⟩ := wb1.of e1
          unfold Ar at arb
          rw [wb2] at arb; omega
    refine ⟨?_, nl⟩
    cases e1 : b.dn
    · exact .inr ⟨e1, fun e2 => nl (.inr ⟨e1, e2⟩)⟩
    · cases e2 : b.fd
      · exact (nl (.inl ⟨e1, e2⟩)).elim
      · exact .inl e2
  by_cases hlt : a.hd < a.at'
  · have e : a.miss = { a with nx := 4, i := a.at', gx := a.at' + 1 } := by unfold Rn.miss gone; rw [if_pos (by exact hlt)]
    rw [e] at hwf ⊢
    have ta' : ({ a with nx := 4, i := a.at', gx := a.at' + 1 } : Rn).top = a.at' := top_i (t := { a with nx := 4, i := a.at', gx := a.at' + 1 }) hd rfl
    have ba' : ({ a with nx := 4, i := a.at', gx := a.at' + 1 } : Rn).bt = a.hd := bt_lo (t := { a with nx := 4, i := a.at', gx := a.at' + 1 }) hd (by show (4 : Int) ≤ 4; decide)
    have inq : ∀ q, ({ a with nx := 4, i := a.at', gx := a.at' + 1 } : Rn).In q ↔ a.In q := fun q => by
      constructor
      · rintro ⟨i1, i2⟩; rw [ta'] at i2; exact ⟨i1, by rw [ta]; exact i2⟩
      · rintro ⟨i1, i2⟩; rw [ta] at i2; exact ⟨i1, by rw [ta']; exact i2⟩
    refine ⟨hw', hm, ⟨hwf, rfl, wa3, wa4, wa5, wa6, wa7⟩, h.wb, fun _ => ⟨by show (4 : Int) ≠ 2; decide, by show (4 : Int) ≠ 3; decide⟩, h.nb, fun q hq => ?_, fun q hq => ?_, fun q h1 h2 h3 h4 => ?_, fun q h1 h2 => h.dj q ((inq q).1 h1) h2, fun _ _ _ => ?_, fun _ _ hl => (wb.2 hl).elim⟩
    · have := h.ha q ((inq q).1 hq)
      refine ⟨this.1, this.2.1, ?_⟩
      rw [hg q this.1 this.2.1, this.2.2, wd_held (by omega), wd_held (t := { a with nx := 4, i := a.at', gx := a.at' + 1 }) (by rw [ba']; exact Int.le_refl _)]
    · have := h.hb q hq; exact ⟨this.1, this.2.1, by rw [hg q this.1 this.2.1]; exact this.2.2⟩
    · rw [hg q h1 h2]; exact h.z q h1 h2 (fun hh => h3 ((inq q).2 hh)) h4
    · rw [mq_no (t := { a with nx := 4, i := a.at', gx := a.at' + 1 }) hd]; exact ⟨inb, wb.1⟩
  · have e : a.miss = { a with nx := 0, i := a.at', gx := a.at' + 1, at' := a.at' + 1, hd := a.at' + 1, dn := decide (a.s.p - a.n < a.at' + 1) } := by unfold Rn.miss gone; rw [if_neg (by exact hlt)]
    rw [e] at hwf ⊢
    obtain ⟨u, hu⟩ : ∃ u : Rn, u = { a with nx := 0, i := a.at', gx := a.at' + 1, at' := a.at' + 1, hd := a.at' + 1, dn := decide (a.s.p - a.n < a.at' + 1) } := ⟨_, rfl⟩
    rw [← hu] at hwf ⊢
    have u1 : u.s = a.s ∧ u.c = a.c ∧ u.n = a.n ∧ u.fd = a.fd ∧ u.hd = a.at' + 1 ∧ u.at' = a.at' + 1 ∧ u.nx = 0 := by rw [hu]; exact ⟨rfl, rfl, rfl, rfl, rfl, rfl, rfl⟩
    obtain ⟨u1, u2, u3, u4, u5, u6, u7⟩ := u1
    have tu : u.top = a.at' + 1 := by
      cases e1 : u.dn
      · rw [top_at e1 (by omega)]; exact u6
      · rw [top_lost e1 (by rw [u4]; exact hf)]; exact u5
    have ninu : ∀ q, ¬ u.In q := fun q ⟨i1, i2⟩ => by omega
    have nina : ∀ q, ¬ a.In q := fun q ⟨i1, i2⟩ => by omega
    refine ⟨hw', hm, ⟨hwf, u1, by omega, by omega, fun hh => (by rw [u4, hf] at hh; cases hh), by omega, by omega⟩, h.wb, fun _ => ⟨by omega, by omega⟩, h.nb, fun q hq => (ninu q hq).elim, fun q hq => ?_, fun q h1 h2 h3 h4 => ?_, fun q h1 h2 => ninu q h1, fun _ _ hl => ?_, fun _ _ hl => (wb.2 hl).elim⟩
    · have := h.hb q hq; exact ⟨this.1, this.2.1, by rw [hg q this.1 this.2.1]; exact this.2.2⟩
    · rw [hg q h1 h2]; exact h.z q h1 h2 (nina q) h4
    · rcases hl with ⟨e1, -⟩ | ⟨-, e1⟩
      · rw [mq_dn e1, u6, show a.at' + 1 - 1 = a.at' by omega]; exact ⟨inb, wb.1⟩
      · omega
theorem Two.own (h : Two s a b w) (hd : a.dn = false) (hn : a.nx = 1) {w' : Wd} (hw' : w'.of s) (hg : ∀ q, 0 ≤ q → q < s.p → w'.get (s.c + q) = if q = a.at' then held a.c else w.get (s.c + q)) (hx : w.get (s.c + a.at') = 0) (hwf : a.own.wf) : Two s a.own b w' := by
  obtain ⟨wa1, rfl, wa3, wa4, wa5, wa6, wa7⟩ := h.wa
  obtain ⟨wb1, wb2, wb3, wb4, wb5, wb6, wb7⟩ := h.wb
  obtain ⟨hm, hf, ar⟩ := wa1.of hd
  unfold Ar at ar
  have hmb := (may_iff _ _ _).1 hm
  have ta : a.top = a.at' := top_at hd (by omega)
  have ba : a.bt = a.hd := bt_lo hd (by omega)
  have ninb : ¬ b.In a.at' := fun hb => by
    have := (h.hb _ hb).2.2
    have := (wd_nz (t := b) (q := a.at') ⟨wb3, wb4⟩ ⟨wb6, wb7⟩).1
    omega
  obtain ⟨u, hu⟩ : ∃ u : Rn, u = a.own := ⟨_, rfl⟩
  rw [← hu] at hwf ⊢
  have hk := own_k a
  rw [← hu] at hk
  obtain ⟨k1, k2, k3⟩ := hk
  have u1 : u.hd = a.hd ∧ u.top = a.at' + 1 ∧ u.bt ≤ a.hd + 1 ∧ (u.fd = true → u.dn = true) ∧ (u.dn = false → u.nx = 0 ∨ u.nx = 5) ∧ u.Win := by
    rw [hu]
    unfold Rn.own
    split
    · rename_i he
      unfold written
      split
      · rename_i h1
        have h1 : a.hd + 1 = a.hd + a.n := h1
        refine ⟨rfl, ?_, ?_, fun _ => rfl, fun hh => (by cases hh), .inl rfl⟩
        · show a.hd + a.n = _; omega
        · show a.hd + a.n ≤ _; omega
      · rename_i h1
        have h1 : ¬ a.hd + 1 = a.hd + a.n := h1
        refine ⟨rfl, ?_, ?_, fun hh => (by have hh : a.fd = true := hh; rw [hf] at hh; cases hh), fun _ => .inr rfl, .inr ⟨hd, by show (5 : Int) ≠ 4; decide⟩⟩
        · rw [top_5 (t := { a with at' := a.at' + 1, nx := 5, i := a.hd + 1 }) hd rfl]; show a.hd + a.n = _; omega
        · rw [bt_5 (t := { a with at' := a.at' + 1, nx := 5, i := a.hd + 1 }) hd rfl]; exact Int.le_refl _
    · refine ⟨rfl, ?_, ?_, fun hh => (by have hh : a.fd = true := hh; rw [hf] at hh; cases hh), fun _ => .inl rfl, .inr ⟨hd, by show (0 : Int) ≠ 4; decide⟩⟩
      · exact top_at (t := { a with at' := a.at' + 1, nx := 0 }) hd (by show (0 : Int) ≤ 3; decide)
      · rw [bt_lo (t := { a with at' := a.at' + 1, nx := 0 }) hd (by show (0 : Int) ≤ 4; decide)]; show a.hd ≤ _; omega
  obtain ⟨u1, u2, u3, u4, u5, u6⟩ := u1
  have wdu : ∀ q, u.wd q = held a.c := fun q => by unfold wd; rw [if_neg (by omega), k2]
  have inq : ∀ q, u.In q ↔ (a.In q ∨ q = a.at') := fun q => by
    constructor
    · rintro ⟨i1, i2⟩
      by_cases he : q = a.at'
      · exact .inr he
      · exact .inl ⟨by omega, by omega⟩
    · rintro (⟨i1, i2⟩ | rfl)
      · exact ⟨by omega, by omega⟩
      · exact ⟨by omega, by omega⟩
  have nlu : u.Lose → False := fun hl => win_lose u4 u6 hl
  refine ⟨hw', hm, ⟨hwf, k1, by omega, by omega, u4, by omega, by omega⟩, h.wb, fun hh => (by have := u5 hh; omega), h.nb, fun q hq => ?_, fun q hq => ?_, fun q h1 h2 h3 h4 => ?_, fun q h1 h2 => ?_, fun _ _ hl => (nlu hl).elim, fun p1 p2 hl => ?_⟩
  · rw [wdu]
    rcases (inq q).1 hq with hq | rfl
    · have := h.ha q hq
      have hne : q ≠ a.at' := by obtain ⟨i1, i2⟩ := hq; omega
      refine ⟨this.1, this.2.1, ?_⟩
      rw [hg q this.1 this.2.1, if_neg hne, this.2.2, wd_held (by omega)]
    · refine ⟨by omega, by omega, ?_⟩
      rw [hg _ (by omega) (by omega), if_pos rfl]
  · have := h.hb q hq
    have hne : q ≠ a.at' := fun he => ninb (he ▸ hq)
    refine ⟨this.1, this.2.1, ?_⟩
    rw [hg q this.1 this.2.1, if_neg hne]; exact this.2.2
  · have hne : q ≠ a.at' := fun he => h3 ((inq q).2 (.inr he))
    rw [hg q h1 h2, if_neg hne]
    exact h.z q h1 h2 (fun hh => h3 ((inq q).2 (.inl hh))) h4
  · rcases (inq q).1 h1 with h1 | rfl
    · exact h.dj q h1 h2
    · exact ninb h2
  · have := h.lb (by omega) p2 hl
    exact ⟨(inq _).2 (.inl this.1), u6⟩
theorem Two.back (h : Two s a b w) (hd : a.dn = false) (hn : a.nx = 4) {w' : Wd} (hw' : w'.of s) (hg : ∀ q, 0 ≤ q → q < s.p → w'.get (s.c + q) = if q = a.i - 1 then 0 else w.get (s.c + q)) (hwf : ({ a with i := a.i - 1 } : Rn).gone.wf) : Two s ({ a with i := a.i - 1 } : Rn).gone b w' := by
  obtain ⟨wa1, rfl, wa3, wa4, wa5, wa6, wa7⟩ := h.wa
  obtain ⟨hm, hf, ar⟩ := wa1.of hd
  unfold Ar at ar
  have hmb := (may_iff _ _ _).1 hm
  have ta : a.top = a.i := top_i hd hn
  have ba : a.bt = a.hd := bt_lo hd (by omega)
  have ina : a.In (a.i - 1) := ⟨by omega, by omega⟩
  have ninb : ¬ b.In (a.i - 1) := fun hb => h.dj _ ina hb
  have la : a.n ≤ a.s.p → b.n ≤ a.s.p → b.In a.at' ∧ b.Win := fun p1 p2 => by
    have := h.la p1 p2 (.inr ⟨hd, hn⟩)
    rwa [mq_no hd] at this
  have lb : a.n ≤ a.s.p → b.n ≤ a.s.p → b.Lose → False := fun p1 p2 hl => win_lose wa5 (h.lb p1 p2 hl).2 (.inr ⟨hd, hn⟩)
  obtain ⟨u, hu⟩ : ∃ u : Rn, u = ({ a with i := a.i - 1 } : Rn).gone := ⟨_, rfl⟩
  rw [← hu] at hwf ⊢
  have hk := gone_k { a with i := a.i - 1 }
  rw [← hu] at hk
  obtain ⟨k1, k2, k3⟩ := hk
  have k1 : u.s = a.s := k1
  have k2 : u.c = a.c := k2
  have k3 : u.n = a.n := k3
  have u1 : u.fd = false ∧ 0 ≤ u.hd ∧ u.hd ≤ 255 ∧ (u.dn = false → (u.nx = 0 ∨ u.nx = 4) ∧ u.bt ≤ u.hd) ∧ (∀ q, u.In q ↔ (a.In q ∧ q ≠ a.i - 1)) ∧ (∀ q, u.In q → u.wd q = held a.c) ∧ (u.Lose → u.mq = a.at') := by
    rw [hu]
    unfold Rn.gone
    split
    · rename_i h1
      have h1 : a.hd < a.i - 1 := h1
      have tu : ({ a with i := a.i - 1 } : Rn).top = a.i - 1 := top_i (t := { a with i := a.i - 1 }) hd hn
      have bu : ({ a with i := a.i - 1 } : Rn).bt = a.hd := bt_lo (t := { a with i := a.i - 1 }) hd (by show a.nx ≤ 4; omega)
      refine ⟨hf, by show 0 ≤ a.hd; omega, wa7, fun _ => ⟨.inr hn, by rw [bu]; exact Int.le_refl _⟩, fun q => ?_, fun q _ => wd_held (t := { a with i := a.i - 1 }) (by rw [bu]; exact Int.le_refl _), fun _ => mq_no (t := { a with i := a.i - 1 }) hd⟩
      constructor
      · rintro ⟨i1, i2⟩
        rw [tu] at i2
        have i1 : a.hd ≤ q := i1
        exact ⟨⟨i1, by omega⟩, by omega⟩
      · rintro ⟨⟨i1, i2⟩, i3⟩
        exact ⟨i1, by rw [tu]; omega⟩
    · rename_i h1
      have h1 : ¬ a.hd < a.i - 1 := h1
      have F : ∀ v : Rn, v = { a with i := a.i - 1, at' := a.at' + 1, hd := a.at' + 1, nx := 0, dn := decide (a.s.p - a.n < a.at' + 1) } → v.fd = false ∧ 0 ≤ v.hd ∧ v.hd ≤ 255 ∧ (v.dn = false → (v.nx = 0 ∨ v.nx = 4) ∧ v.bt ≤ v.hd) ∧ (∀ q, v.In q ↔ (a.In q ∧ q ≠ a.i - 1)) ∧ (∀ q, v.In q → v.wd q = held a.c) ∧ (v.Lose → v.mq = a.at') := by
        intro v hv
        have v1 : v.fd = false := by rw [hv]; exact hf
        have v2 : v.hd = a.at' + 1 := by rw [hv]
        have v3 : v.at' = a.at' + 1 := by rw [hv]
        have v4 : v.nx = 0 := by rw [hv]
        have tv : v.top = a.at' + 1 := by
          cases e1 : v.dn
          · rw [top_at e1 (by omega)]; exact v3
          · rw [top_lost e1 v1]; exact v2
        have nv : ∀ q, ¬ v.In q := fun q ⟨i1, i2⟩ => by omega
        refine ⟨v1, by omega, by omega, fun e => ⟨.inl v4, by rw [bt_lo e (by omega)]; exact Int.le_refl _⟩, fun q => ⟨fun hq => (nv q hq).elim, fun ⟨⟨i1, i2⟩, i3⟩ => by omega⟩, fun q hq => (nv q hq).elim, fun hl => ?_⟩
        rcases hl with ⟨e1, -⟩ | ⟨-, e1⟩
        · rw [mq_dn e1]; omega
        · omega
      exact F _ rfl
  obtain ⟨u1, u2, u3, u4, u5, u6, u7⟩ := u1
  refine ⟨hw', hm, ⟨hwf, k1, by omega, by omega, fun hh => (by rw [u1] at hh; cases hh), u2, u3⟩, h.wb, fun hh => (by have := (u4 hh).1; omega), h.nb, fun q hq => ?_, fun q hq => ?_, fun q h1 h2 h3 h4 => ?_, fun q h1 h2 => h.dj q ((u5 q).1 h1).1 h2, fun p1 p2 hl => ?_, fun p1 p2 hl => (lb (by omega) p2 hl).elim⟩
  · have hq2 := (u5 q).1 hq
    have := h.ha q hq2.1
    refine ⟨this.1, this.2.1, ?_⟩
    rw [hg q this.1 this.2.1, if_neg hq2.2, this.2.2, u6 q hq, wd_held (by omega)]
  · have := h.hb q hq
    have hne : q ≠ a.i - 1 := fun he => ninb (he ▸ hq)
    exact ⟨this.1, this.2.1, by rw [hg q this.1 this.2.1, if_neg hne]; exact this.2.2⟩
  · rw [hg q h1 h2]
    by_cases he : q = a.i - 1
    · rw [if_pos he]
    · rw [if_neg he]
      exact h.z q h1 h2 (fun hh => h3 ((u5 q).2 ⟨hh, he⟩)) h4
  · rw [u7 hl]; exact la (by omega) p2
theorem Two.write (h : Two s a b w) (hd : a.dn = false) (hn : a.nx = 5) {w' : Wd} (hw' : w'.of s) (hg : ∀ q, 0 ≤ q → q < s.p → w'.get (s.c + q) = if q = a.i then body a.hd else w.get (s.c + q)) (hwf : a.written.wf) : Two s a.written b w' := by
  obtain ⟨wa1, rfl, wa3, wa4, wa5, wa6, wa7⟩ := h.wa
  obtain ⟨hm, hf, ar⟩ := wa1.of hd
  unfold Ar at ar
  have hmb := (may_iff _ _ _).1 hm
  have ta : a.top = a.hd + a.n := top_5 hd hn
  have ba : a.bt = a.i := bt_5 hd hn
  have ina : a.In a.i := ⟨by omega, by omega⟩
  have ninb : ¬ b.In a.i := fun hb => h.dj _ ina hb
  obtain ⟨u, hu⟩ : ∃ u : Rn, u = a.written := ⟨_, rfl⟩
  rw [← hu] at hwf ⊢
  have hk := written_k a
  rw [← hu] at hk
  obtain ⟨k1, k2, k3⟩ := hk
  have u1 : u.hd = a.hd ∧ u.top = a.hd + a.n ∧ u.bt = a.i + 1 ∧ (u.fd = true → u.dn = true) ∧ (u.dn = false → u.nx = 5) ∧ u.Win := by
    rw [hu]
    unfold written
    split
    · rename_i h1
      exact ⟨rfl, rfl, by show a.hd + a.n = _; omega, fun _ => rfl, fun hh => (by cases hh), .inl rfl⟩
    · rename_i h1
      exact ⟨rfl, top_5 (t := { a with i := a.i + 1 }) hd hn, bt_5 (t := { a with i := a.i + 1 }) hd hn, fun hh => (by have hh : a.fd = true := hh; rw [hf] at hh; cases hh), fun _ => hn, .inr ⟨hd, by show a.nx ≠ 4; omega⟩⟩
  obtain ⟨u1, u2, u3, u4, u5, u6⟩ := u1
  have inq : ∀ q, u.In q ↔ a.In q := fun q => by unfold In; rw [u1, u2, ta]
  have wdu : ∀ q, u.In q → u.wd q = if q = a.i then body a.hd else a.wd q := fun q hq => by
    unfold wd
    rw [u1, u3, ba, k2]
    by_cases he : q = a.i
    · rw [if_pos he, if_pos (by omega)]
    · rw [if_neg he]
      by_cases h1 : a.hd < q ∧ q < a.i
      · rw [if_pos (by omega), if_pos h1]
      · rw [if_neg (by omega), if_neg h1]
  refine ⟨hw', hm, ⟨hwf, k1, by omega, by omega, u4, by omega, by omega⟩, h.wb, fun hh => (by have := u5 hh; omega), h.nb, fun q hq => ?_, fun q hq => ?_, fun q h1 h2 h3 h4 => ?_, fun q h1 h2 => h.dj q ((inq q).1 h1) h2, fun _ _ hl => (win_lose u4 u6 hl).elim, fun p1 p2 hl => ⟨(inq _).2 (h.lb (by omega) p2 hl).1, u6⟩⟩
  · have := h.ha q ((inq q).1 hq)
    refine ⟨this.1, this.2.1, ?_⟩
    rw [hg q this.1 this.2.1, wdu q hq, this.2.2]
  · have := h.hb q hq
    have hne : q ≠ a.i := fun he => ninb (he ▸ hq)
    exact ⟨this.1, this.2.1, by rw [hg q this.1 this.2.1, if_neg hne]; exact this.2.2⟩
  · have hne : q ≠ a.i := fun he => h3 ((inq q).2 (he ▸ ina))
    rw [hg q h1 h2, if_neg hne]
    exact h.z q h1 h2 (fun hh => h3 ((inq q).2 hh)) h4
theorem Two.step (h : Two s a b w) : Two s (a.step w).1 b (a.step w).2 := by
  obtain ⟨wa1, rfl, wa3, wa4, wa5, wa6, wa7⟩ := h.wa
  have hwf := step_wf wa1 w
  have hof := step_of wa1 h.of
  have hk := step_k wa1 w
  rcases step_cases wa1 w with ⟨-, e⟩ | ⟨hd, ⟨hn, e⟩ | ⟨hn, e⟩ | ⟨hn, q, -, -, -, -, -, -, e⟩ | ⟨hn, e⟩ | ⟨hn, e⟩ | ⟨hn, e⟩⟩
  · rw [e]; exact h
  all_goals
    obtain ⟨hm, hf, ar⟩ := wa1.of hd
    unfold Ar at ar
    have hmb := (may_iff _ _ _).1 hm
    rw [e] at hwf hof ⊢
  · have hp : a.pat = a.s.c + a.at' := page_yes hm (by omega) (by omega)
    have hwf : (a.look (w.get a.pat)).wf := hwf
    show Two a.s (a.look (w.get a.pat)) b (w.load a.c a.pat)
    have hS : a.isS (w.get a.pat) = false := by
      cases hS : a.isS (w.get a.pat)
      · rfl
      · exfalso
        have h2 := isS_mod hS
        rw [hp] at h2
        by_cases hb : b.In a.at'
        · have := (h.hb _ hb).2.2
          have := (wd_nz (t := b) (q := a.at') ⟨h.wb.2.2.1, h.wb.2.2.2.1⟩ ⟨h.wb.2.2.2.2.2.1, h.wb.2.2.2.2.2.2⟩).2
          omega
        · have ta : a.top = a.at' := top_at hd (by omega)
          have := h.z a.at' (by omega) (by omega) (fun ⟨_, h2⟩ => by omega) hb
          omega
    unfold look at hwf ⊢
    by_cases hE : a.isE (w.get a.pat) = true
    · rw [if_pos hE] at hwf ⊢
      have T : ({ a with nx := 1 } : Rn).top = a.top := by rw [top_at hd (by omega), top_at (t := { a with nx := 1 }) hd (by show (1 : Int) ≤ 3; decide)]
      have inq : ∀ q, ({ a with nx := 1 } : Rn).In q ↔ a.In q := fun q => by unfold In; rw [T]
      have B : ({ a with nx := 1 } : Rn).bt ≤ a.hd := by rw [bt_lo (t := { a with nx := 1 }) hd (by show (1 : Int) ≤ 4; decide)]; exact Int.le_refl _
      have ba : a.bt = a.hd := bt_lo hd (by omega)
      have nl : ({ a with nx := 1 } : Rn).Lose → False := by
        rintro (⟨e1, -⟩ | ⟨-, e1⟩)
        · have e1 : a.dn = true := e1; rw [hd] at e1; cases e1
        · have e1 : (1 : Int) = 4 := e1; omega
      refine ⟨hof, hm, ⟨hwf, rfl, wa3, wa4, wa5, wa6, wa7⟩, h.wb, fun _ => ⟨by show (1 : Int) ≠ 2; decide, by show (1 : Int) ≠ 3; decide⟩, h.nb, fun q hq => ?_, h.hb, fun q h1 h2 h3 h4 => h.z q h1 h2 (fun hh => h3 ((inq q).2 hh)) h4, fun q h1 h2 => h.dj q ((inq q).1 h1) h2, fun _ _ hl => (nl hl).elim, fun p1 p2 hl => ⟨(inq _).2 (h.lb p1 p2 hl).1, .inr ⟨hd, by show (1 : Int) ≠ 4; decide⟩⟩⟩
      have := h.ha q ((inq q).1 hq)
      refine ⟨this.1, this.2.1, ?_⟩
      show w.get (a.s.c + q) = _
      rw [this.2.2, wd_held (by omega), wd_held (t := { a with nx := 1 }) B]
    · rw [if_neg hE, hS, if_neg (by decide)] at hwf ⊢
      refine h.miss hd (.inl hn) hof (fun q _ _ => rfl) (fun hz => hE ?_) hwf
      rw [hp, hz]
      exact (isE_iff hm ⟨by omega, by omega⟩).2 rfl
  · have hp : a.pat = a.s.c + a.at' := page_yes hm (by omega) (by omega)
    have hwf : (a.claim (w.get a.pat)).wf := hwf
    show Two a.s (a.claim (w.get a.pat)) b (w.swap a.c a.pat 0 (held a.c))
    unfold claim at hwf ⊢
    by_cases hz : w.get a.pat = 0
    · rw [if_pos hz] at hwf ⊢
      refine h.own hd hn hof (fun q h1 h2 => ?_) (by rw [← hp]; exact hz) hwf
      rw [hp, get_swap (by omega) (by omega)]
      by_cases he : q = a.at'
      · rw [if_pos he, if_pos (by omega), if_pos (by rw [← hp]; exact hz)]
      · rw [if_neg he, if_neg (by omega)]
    · rw [if_neg hz] at hwf ⊢
      refine h.miss hd (.inr hn) hof (fun q h1 h2 => ?_) (by rw [← hp]; exact hz) hwf
      rw [hp, get_swap (by omega) (by omega)]
      by_cases he : a.s.c + q = a.s.c + a.at'
      · rw [if_pos he, if_neg (by rw [← hp]; exact hz), he]
      · rw [if_neg he]
  · exact absurd hn (h.na hd).1
  · exact absurd hn (h.na hd).2
  · have hp : a.bat = a.s.c + (a.i - 1) := page_yes hm (by omega) (by omega)
    refine h.back hd hn hof (fun q h1 h2 => ?_) hwf
    show (w.store a.c a.bat 0).get (a.s.c + q) = _
    rw [hp, get_store (by omega) (by omega)]
    by_cases he : q = a.i - 1
    · rw [if_pos he, if_pos (by omega)]
    · rw [if_neg he, if_neg (by omega)]
  · have hp : a.iat = a.s.c + a.i := page_yes hm (by omega) (by omega)
    refine h.write hd hn hof (fun q h1 h2 => ?_) hwf
    show (w.store a.c a.iat (putPg 4 a.hd 0)).get (a.s.c + q) = _
    rw [hp, get_store (by omega) (by omega)]
    by_cases he : q = a.i
    · rw [if_pos he, if_pos (by omega)]; rfl
    · rw [if_neg he, if_neg (by omega)]
theorem Two.step2 (h : Two s a b w) : Two s a (b.step w).1 (b.step w).2 := h.symm.step.symm
/-- Both are done: one of them has its row. -/
theorem Two.one (h : Two s a b w) (da : a.dn = true) (db : b.dn = true) (ha : a.n ≤ s.p) (hb : b.n ≤ s.p) : a.fd = true ∨ b.fd = true := by
  cases fa : a.fd
  · cases fb : b.fd
    · exact (win_lose h.wb.2.2.2.2.1 (h.la ha hb (.inl ⟨da, fa⟩)).2 (.inl ⟨db, fb⟩)).elim
    · exact .inr rfl
  · exact .inl rfl
end Rn
end Go.Ma
