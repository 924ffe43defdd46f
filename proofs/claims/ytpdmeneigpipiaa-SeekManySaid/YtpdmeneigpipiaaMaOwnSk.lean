/-
  Who seeks a slot, among many: what it has at each step; each step keeps that, and what the others have. Conditions: none.
-/
import Derived.Test.YtpdmeneigpipiaaMaOwn
import Derived.Test.YtpdmeneigpipiaaMaSeekMore
set_option linter.unusedVariables false
set_option linter.unusedSectionVars false
set_option linter.unusedSimpArgs false
namespace Go.Ma
open Go.Pl
namespace Ow
theorem held_v {c : Int} (h0 : 0 ≤ c) (h1 : c ≤ 255) : held c = 1 + 16 * c := Rk.held_val h0 h1
theorem body_v {c : Int} (h0 : 0 ≤ c) (h1 : c ≤ 255) : putPg 4 c 0 = 4 + 16 * c := Rk.body_val h0 h1
theorem super_v {k c : Int} (h0 : 0 ≤ k) (h1 : k ≤ 255) (h2 : 0 ≤ c) (h3 : c ≤ 255) : super k c = 2 + 16 * k + 4096 * c := Rk.super_val h0 h1 h2 h3
theorem large_v {n : Int} (h0 : 0 ≤ n) (h1 : n ≤ 255) : putPg 3 n 0 = 3 + 16 * n := by unfold putPg; rw [if_pos (by omega)]; omega
theorem way_v {c : Int} (h0 : 0 ≤ c) (h1 : c ≤ 255) : way c = 2 + 16 * c := by unfold way putSl; rw [if_pos (by omega)]
theorem opn_v {k : Int} (h0 : 0 ≤ k) (h1 : k ≤ 255) : opn k = 1 + 16 * k := by unfold opn putSl; rw [if_pos (by omega)]
theorem taken_v {k : Int} (h0 : 0 ≤ k) (h1 : k ≤ 255) : taken k = 3 + 16 * k := by unfold taken putSl; rw [if_pos (by omega)]
theorem slots_k {k : Int} (h : 0 < slots k) : 0 ≤ k ∧ k ≤ 3 := by
  unfold slots at h; split at h
  · omega
  · split at h
    · omega
    · split at h
      · omega
      · split at h <;> omega
/-- A page's word, read. -/
theorem pg_read {s : Sh} {q x : Int} (hm : may s.p s.c s.m = true) (q0 : 0 ≤ q) (q1 : q < s.p) (h : okPg s q x = true) (hk : pgK s q x = 2) : Sup s (pgA s q x) x := by
  have hB := (may_iff _ _ _).1 hm
  have ha := Gv.ok_super h hk
  have h1 : x % 16 = 2 := by unfold pgK at hk; rw [if_pos h] at hk; exact hk
  have h2 : pgA s q x = pt x 16 := by unfold pgA; rw [if_pos h]
  rw [h2] at ha ⊢
  unfold okPg at h
  rw [h1] at h
  simp only [Bool.and_eq_true, decide_eq_true_eq] at h
  obtain ⟨h3, h4, h5⟩ := h
  unfold fits at h5
  rw [if_neg (by decide), if_pos rfl] at h5
  simp only [Bool.and_eq_true, decide_eq_true_eq] at h5
  refine ⟨ha.1, by omega, pt x 4096, ?_, h5.2, ?_⟩
  · unfold pt; exact Int.emod_nonneg _ (by decide)
  · unfold putPg at h3
    split at h3
    · omega
    · omega
theorem sup_read {s : Sh} {q k x : Int} (hm : may s.p s.c s.m = true) (q0 : 0 ≤ q) (q1 : q < s.p) (h : Sup s k x) : okPg s q x = true ∧ pgK s q x = 2 ∧ pgA s q x = k := by
  have hB := (may_iff _ _ _).1 hm
  obtain ⟨k0, k1, b, b0, b1, rfl⟩ := h
  rw [← super_v k0 (by omega) b0 (by omega)]
  exact Sa.super_ok hm q0 q1 k0 k1 b0 b1
end Ow
open Ow

/-! ### The stripper -/
namespace St
def hp (t : St) (q : Int) : Prop := t.hd = true ∧ q = t.p
def hs (t : St) (q i : Int) : Prop := t.hd = false ∧ q = t.p ∧ 0 ≤ i ∧ i < t.i
theorem own {t : St} {w : Wd} {s : Sh} {c : Int} {A : Int → Prop} {B : Int → Int → Prop} (hs' : t.s = s) (hc' : t.c = c) (wf : t.wf) (hd : t.dn = false) (hh : t.hd = false) (hB : Bs s w.ws)
    (ho : Own s w.ws c ⟨fun q => A q ∨ t.hp q, B, t.hs⟩) (hk : 0 < t.i → Sup s t.k (pgAt s w.ws t.p)) :
    Nx s c w.ws (t.step w).2.ws ⟨fun q => A q ∨ (t.step w).1.hp q, B, (t.step w).1.hs⟩ ∧ ((t.step w).1.hd = false → 0 < (t.step w).1.i → Sup s t.k (pgAt s (t.step w).2.ws t.p)) ∧
      ((t.step w).1.dn = true → (t.step w).1.hd = false → (t.step w).1.i = 0) ∧ ((t.step w).1.dn = false → (t.step w).1.hd = false) ∧ ((t.step w).1.hd = true → ∀ q i, q = t.p → 0 ≤ i → i < 16 → slAt s (t.step w).2.ws q i = 0 ∨ slAt s (t.step w).2.ws q i = 2 + 16 * c) := by
  obtain ⟨hm, c0, c1, p0, p1, k0, i0, i1, hbk⟩ := wf.of hd
  rw [hs'] at hm c1 p1
  rw [hc'] at c0 c1
  have hb := (may_iff _ _ _).1 hm
  obtain ⟨k0', k3⟩ := slots_k k0
  have hsl := slots_four k0' k3
  have hat : ∀ i, t.at' i = slot s.p s.c s.m t.p i := fun i => by unfold St.at'; rw [hs']
  have hpat : t.pat = page s.p s.c s.m t.p := by unfold St.pat; rw [hs']
  by_cases hb' : t.bk = true
  · have hi := hbk hb'
    have es : t.step w = ({ t with i := t.i - 1, dn := decide (t.i - 1 = 0) }, w.store t.c (t.at' (t.i - 1)) (opn t.k)) := by unfold St.step; rw [if_neg (by rw [hd]; decide), if_pos hb']
    rw [es]
    have hsup := hk hi
    have nx := freeO (o' := ⟨fun q => A q ∨ t.hp q, B, ({ t with i := t.i - 1, dn := decide (t.i - 1 = 0) } : St).hs⟩) hm hB ho c0 c1 p0 p1 (i := t.i - 1) (k := t.k) (y := 1 + 16 * t.k) (by omega) (by omega) hsup ⟨hh, rfl, by omega, by omega⟩ (.inl rfl) rfl rfl (fun x j => by
      show (t.hd = false ∧ x = t.p ∧ 0 ≤ j ∧ j < t.i - 1) ↔ (t.hd = false ∧ x = t.p ∧ 0 ≤ j ∧ j < t.i) ∧ ¬ (x = t.p ∧ j = t.i - 1)
      constructor
      · rintro ⟨a, b, c, d⟩; exact ⟨⟨a, b, c, by omega⟩, fun g => by omega⟩
      · rintro ⟨⟨a, b, c, d⟩, g⟩; exact ⟨a, b, c, by omega⟩)
    have ew : (w.store t.c (t.at' (t.i - 1)) (opn t.k)).ws = upW w.ws (slot s.p s.c s.m t.p (t.i - 1)) (1 + 16 * t.k) := by rw [store_ws, hat, opn_v k0' (by omega)]
    rw [ew]
    refine ⟨nx, fun _ _ => ?_, fun g _ => by have := of_decide_eq_true g; exact this, fun _ => hh, fun g => by have g : t.hd = true := g; rw [hh] at g; cases g⟩
    rw [pg_sl hm p0 p1 (by omega) (by omega) p0 p1]; exact hsup
  by_cases hi : t.i = slots t.k
  · have es : t.step w = ({ t with hd := true, dn := true }, w.store t.c t.pat (held t.c)) := by unfold St.step; rw [if_neg (by rw [hd]; decide), if_neg hb', if_pos hi]
    rw [es]
    have hsup := hk (by omega)
    have nx := claimS (o' := ⟨fun q => A q ∨ ({ t with hd := true, dn := true } : St).hp q, B, ({ t with hd := true, dn := true } : St).hs⟩) hm hB ho c0 c1 p0 p1 hsup (fun i a b => ⟨hh, rfl, a, by omega⟩) (fun x => by
      show (A x ∨ (true = true ∧ x = t.p)) ↔ (A x ∨ (t.hd = true ∧ x = t.p)) ∨ x = t.p
      rw [hh]; simp) rfl (fun x j => by
      show (true = false ∧ _) ↔ (t.hd = false ∧ x = t.p ∧ 0 ≤ j ∧ j < t.i) ∧ x ≠ t.p
      constructor
      · rintro ⟨g, -⟩; cases g
      · rintro ⟨⟨-, g, -⟩, g2⟩; exact absurd g g2)
    have ew : (w.store t.c t.pat (held t.c)).ws = upW w.ws (page s.p s.c s.m t.p) (1 + 16 * c) := by rw [store_ws, hpat, hc', held_v c0 (by omega)]
    rw [ew]
    refine ⟨nx, fun g => (by cases g), fun _ g => (by cases g), fun g => (by cases g), fun _ q i e a b => ?_⟩
    rw [e, sl_pg hm p0 p1 p0 a]
    rcases (hB.pg t.p p0 p1).sup (by omega) hsup i a b with ⟨g, -⟩ | ⟨-, g⟩
    · exact .inr ((ho.sl t.p i p0 p1 a b).2 (.inl ⟨hh, rfl, a, by omega⟩)).2
    · exact .inl g
  have hg : w.get (t.at' t.i) = slAt s w.ws t.p t.i := by rw [hat, slot_at hm p0 p1 i0 (by omega)]
  by_cases hz : w.get (t.at' t.i) = opn t.k
  · have es : t.step w = ({ t with i := t.i + 1 }, w.swap t.c (t.at' t.i) (opn t.k) (way t.c)) := by unfold St.step; rw [if_neg (by rw [hd]; decide), if_neg hb', if_neg hi, if_pos hz]
    rw [es]
    have hz2 := hz
    rw [hg, opn_v k0' (by omega)] at hz2
    have hsup := ((hB.pg t.p p0 p1).open (by omega) k0' k3 i0 (by omega) (.inl hz2)).1
    have nx := claimO (o' := ⟨fun q => A q ∨ t.hp q, B, ({ t with i := t.i + 1 } : St).hs⟩) hm hB ho c0 c1 p0 p1 i0 (by omega) k0' k3 (.inl hz2) rfl rfl (fun x j => by
      show (t.hd = false ∧ x = t.p ∧ 0 ≤ j ∧ j < t.i + 1) ↔ (t.hd = false ∧ x = t.p ∧ 0 ≤ j ∧ j < t.i) ∨ (x = t.p ∧ j = t.i)
      constructor
      · rintro ⟨a, b, c, d⟩
        by_cases g : j = t.i
        · exact .inr ⟨b, g⟩
        · exact .inl ⟨a, b, c, by omega⟩
      · rintro (⟨a, b, c, d⟩ | ⟨b, d⟩)
        · exact ⟨a, b, c, by omega⟩
        · exact ⟨hh, b, by omega, by omega⟩)
    have ew : (w.swap t.c (t.at' t.i) (opn t.k) (way t.c)).ws = upW w.ws (slot s.p s.c s.m t.p t.i) (2 + 16 * c) := by rw [swap_yes hz, hat, hc', way_v c0 (by omega)]
    rw [ew]
    refine ⟨nx, fun _ _ => ?_, fun g => (by have g : t.dn = true := g; rw [hd] at g; cases g), fun _ => hh, fun g => by have g : t.hd = true := g; rw [hh] at g; cases g⟩
    rw [pg_sl hm p0 p1 i0 (by omega) p0 p1]; exact hsup
  · have es : t.step w = ({ t with bk := true, dn := decide (t.i = 0) }, w.swap t.c (t.at' t.i) (opn t.k) (way t.c)) := by unfold St.step; rw [if_neg (by rw [hd]; decide), if_neg hb', if_neg hi, if_neg hz]
    rw [es]
    have ew : (w.swap t.c (t.at' t.i) (opn t.k) (way t.c)).ws = w.ws := swap_no hz
    rw [ew]
    exact ⟨Nx.id hB ho, fun _ g => hk g, fun g _ => of_decide_eq_true g, fun _ => hh, fun g => by have g : t.hd = true := g; rw [hh] at g; cases g⟩
end St

/-! ### The binder -/
namespace Bi
def hp (t : Bi) (q : Int) : Prop := t.bd = false ∧ q = t.p
def hs (t : Bi) (q i : Int) : Prop := t.bd = true ∧ q = t.p ∧ 0 ≤ i ∧ i ≤ t.i
def ho (t : Bi) : Ho := ⟨t.hp, fun _ _ => False, t.hs⟩
def Ft (s : Sh) (t : Bi) (ws : Nat → Int) : Prop := (t.bd = false → ∀ j, 0 ≤ j → j < t.i → slAt s ws t.p j = if j < slots t.k then 2 + 16 * t.c else 0) ∧ (t.bd = true → Sup s t.k (pgAt s ws t.p))
theorem own {t : Bi} {w : Wd} {s : Sh} {c : Int} (hs' : t.s = s) (hc' : t.c = c) (wf : t.wf) (hd : t.dn = false) (hB : Bs s w.ws) (ho' : Own s w.ws c t.ho) (hf : t.Ft s w.ws) :
    Nx s c w.ws (t.step w).2.ws (t.step w).1.ho ∧ (t.step w).1.Ft s (t.step w).2.ws ∧ ((t.step w).1.dn = true → (t.step w).1.bd = true ∧ (t.step w).1.i = 0) := by
  obtain ⟨hm, c0, c1, p0, p1, k0, i0, i1, hbd⟩ := wf.of hd
  rw [hs'] at hm c1 p1
  have c0' := c0
  have c1' := c1
  rw [hc'] at c0 c1
  have hb := (may_iff _ _ _).1 hm
  obtain ⟨k0', k3⟩ := slots_k k0
  have hsl := slots_four k0' k3
  have hat : t.at' = slot s.p s.c s.m t.p t.i := by unfold Bi.at'; rw [hs']
  have hpat : t.pat = page s.p s.c s.m t.p := by unfold Bi.pat; rw [hs']
  by_cases hbd' : t.bd = true
  · obtain ⟨g1, g2⟩ := hbd hbd'
    have hsup := hf.2 hbd'
    have es : t.step w = ({ t with i := t.i - 1, dn := decide (t.i - 1 = 0) }, w.store t.c t.at' (opn t.k)) := by unfold Bi.step; rw [if_neg (by rw [hd]; decide), if_pos hbd']
    rw [es]
    have ew : (w.store t.c t.at' (opn t.k)).ws = upW w.ws (slot s.p s.c s.m t.p t.i) (1 + 16 * t.k) := by rw [store_ws, hat, opn_v k0' (by omega)]
    rw [ew]
    refine ⟨freeO hm hB ho' c0 c1 p0 p1 (by omega) (by omega) hsup ⟨hbd', rfl, by omega, by omega⟩ (.inl rfl) rfl rfl fun x j => ?_, ⟨fun g => ?_, fun _ => ?_⟩, fun g => ⟨hbd', of_decide_eq_true g⟩⟩
    · show (t.bd = true ∧ x = t.p ∧ 0 ≤ j ∧ j ≤ t.i - 1) ↔ (t.bd = true ∧ x = t.p ∧ 0 ≤ j ∧ j ≤ t.i) ∧ ¬ (x = t.p ∧ j = t.i)
      constructor
      · rintro ⟨a, b, c, d⟩; exact ⟨⟨a, b, c, by omega⟩, fun g => by omega⟩
      · rintro ⟨⟨a, b, c, d⟩, g⟩; exact ⟨a, b, c, by omega⟩
    · have g : t.bd = false := g
      rw [hbd'] at g; cases g
    · rw [pg_sl hm p0 p1 (by omega) (by omega) p0 p1]; exact hsup
  have hbd'' : t.bd = false := by cases e : t.bd; rfl; exact absurd e hbd'
  have hf1 := hf.1 hbd''
  by_cases hi : t.i = 16
  · have es : t.step w = ({ t with bd := true, i := slots t.k - 1 }, w.store t.c t.pat (super t.k t.c)) := by unfold Bi.step; rw [if_neg (by rw [hd]; decide), if_neg hbd', if_pos hi]
    rw [es]
    have ew : (w.store t.c t.pat (super t.k t.c)).ws = upW w.ws (page s.p s.c s.m t.p) (2 + 16 * t.k + 4096 * c) := by rw [store_ws, hpat, hc', super_v k0' (by omega) c0 (by omega)]
    rw [ew]
    refine ⟨bind hm hB ho' c0 c1 p0 p1 k0' k3 ⟨hbd'', rfl⟩ (fun i a b => by rw [hf1 i a (by omega), hc']) (fun x _ _ g => g) (fun x => ?_) rfl (fun x j => ?_), ⟨fun g => (by cases g), fun _ => ?_⟩, fun g => by have g : t.dn = true := g; rw [hd] at g; cases g⟩
    · show (true = false ∧ x = t.p) ↔ (t.bd = false ∧ x = t.p) ∧ x ≠ t.p
      constructor
      · rintro ⟨g, -⟩; cases g
      · rintro ⟨⟨-, g⟩, g2⟩; exact absurd g g2
    · show (true = true ∧ x = t.p ∧ 0 ≤ j ∧ j ≤ slots t.k - 1) ↔ (t.bd = true ∧ x = t.p ∧ 0 ≤ j ∧ j ≤ t.i) ∨ (x = t.p ∧ 0 ≤ j ∧ j < slots t.k)
      constructor
      · rintro ⟨a, b, c, d⟩; exact .inr ⟨b, c, by omega⟩
      · rintro (⟨a, b, c, d⟩ | ⟨b, c, d⟩)
        · rw [hbd''] at a; cases a
        · exact ⟨rfl, b, c, by omega⟩
    · rw [pg_pg hm p0 p1 p0 p1, if_pos rfl]; exact ⟨k0', k3, c, c0, c1, rfl⟩
  · have es : t.step w = ({ t with i := t.i + 1 }, w.store t.c t.at' (if t.i < slots t.k then way t.c else 0)) := by unfold Bi.step; rw [if_neg (by rw [hd]; decide), if_neg hbd', if_neg hi]
    rw [es]
    have ew : (w.store t.c t.at' (if t.i < slots t.k then way t.c else 0)).ws = upW w.ws (slot s.p s.c s.m t.p t.i) (if t.i < slots t.k then 2 + 16 * c else 0) := by
      rw [store_ws, hat, hc', way_v c0 (by omega)]
    rw [ew]
    have heq : ({ t with i := t.i + 1 } : Bi).ho = t.ho := by
      have : ({ t with i := t.i + 1 } : Bi).hs = t.hs := by
        funext x j
        show (t.bd = true ∧ x = t.p ∧ 0 ≤ j ∧ j ≤ t.i + 1) = (t.bd = true ∧ x = t.p ∧ 0 ≤ j ∧ j ≤ t.i)
        rw [hbd'']; simp
      unfold Bi.ho; rw [this]; rfl
    show Nx s c w.ws _ ({ t with i := t.i + 1 } : Bi).ho ∧ _ ∧ _
    rw [heq]
    refine ⟨hslot hm hB ho' c0 c1 p0 p1 i0 (by omega) ⟨hbd'', rfl⟩ ?_, ⟨fun _ j j0 j1 => ?_, fun g => ?_⟩, fun g => by have g : t.dn = true := g; rw [hd] at g; cases g⟩
    · split
      · exact .inr rfl
      · exact .inl rfl
    · have j1 : j < t.i + 1 := j1
      show slAt s _ t.p j = if j < slots t.k then 2 + 16 * t.c else 0
      rw [sl_sl hm p0 p1 i0 (by omega) p0 j0 (by omega)]
      by_cases e : j = t.i
      · rw [if_pos ⟨rfl, e⟩, e, hc']
      · rw [if_neg fun g => e g.2]; exact hf1 j j0 (by omega)
    · have g : t.bd = true := g
      exact absurd g hbd'
theorem step_same {t : Bi} {w : Wd} : (t.step w).1.p = t.p ∧ (t.step w).1.k = t.k ∧ (t.step w).1.c = t.c := by
  unfold Bi.step; split
  · exact ⟨rfl, rfl, rfl⟩
  · split
    · exact ⟨rfl, rfl, rfl⟩
    · split <;> exact ⟨rfl, rfl, rfl⟩
/-- What another one does leaves it. -/
theorem Ft.rel {t : Bi} {s : Sh} {ws ws' : Nat → Int} (hp : 0 ≤ t.p ∧ t.p < s.p) (hi : t.i ≤ 16) (hi2 : t.bd = true → 0 ≤ t.i) (ho' : Own s ws t.c t.ho) (r : Rel s t.c ws ws') (h : t.Ft s ws) : t.Ft s ws' := by
  refine ⟨fun g j j0 j1 => ?_, fun g => ?_⟩
  · rw [r.hs t.p j hp.1 hp.2 j0 (by omega) ((ho'.pg t.p hp.1 hp.2).2 ⟨g, rfl⟩)]; exact h.1 g j j0 j1
  · have := (ho'.sl t.p 0 hp.1 hp.2 (by omega) (by omega)).2 (.inl ⟨g, rfl, by omega, hi2 g⟩)
    rw [r.sp t.p 0 hp.1 hp.2 (by omega) (by omega) this.1 this.2]; exact h.2 g
end Bi

/-! ### The seeker -/
namespace Ow
def nil : Ho := ⟨fun _ => False, fun _ _ => False, fun _ _ => False⟩
def one (p i : Int) : Ho := ⟨fun _ => False, fun _ _ => False, fun q j => q = p ∧ j = i⟩
theorem Own.congr {s : Sh} {ws : Nat → Int} {c : Int} {o o' : Ho} (h : Own s ws c o) (h1 : ∀ q, o'.hp q ↔ o.hp q) (h2 : ∀ q h, o'.hb q h ↔ o.hb q h) (h3 : ∀ q i, o'.hs q i ↔ o.hs q i) : Own s ws c o' :=
  ⟨fun q a b => by rw [h1]; exact h.pg q a b, fun q d a b a' b' => by rw [h2]; exact h.bd q d a b a' b', fun q i a b a' b' => by rw [h3]; exact h.sl q i a b a' b', fun q i a b a' b' => by rw [h3]; exact h.dj q i a b a' b'⟩
theorem Nx.congr {s : Sh} {ws ws' : Nat → Int} {c : Int} {o o' : Ho} (h : Nx s c ws ws' o) (h1 : ∀ q, o'.hp q ↔ o.hp q) (h2 : ∀ q h, o'.hb q h ↔ o.hb q h) (h3 : ∀ q i, o'.hs q i ↔ o.hs q i) : Nx s c ws ws' o' := ⟨h.bs, h.ow.congr h1 h2 h3, h.re⟩
theorem Own.zero {s : Sh} {ws : Nat → Int} {c : Int} (c0 : 0 ≤ c) (hz : ∀ j, ws j = 0) : Own s ws c nil :=
  ⟨fun q _ _ => ⟨fun g => by have : pgAt s ws q = 0 := hz _
                             omega, fun g => g.elim⟩,
   fun q h _ _ _ _ => ⟨fun ⟨_, g⟩ => by have : pgAt s ws h = 0 := hz _
                                        omega, fun g => g.elim⟩,
   fun q i _ _ _ _ => ⟨fun ⟨_, g⟩ => by have : slAt s ws q i = 0 := hz _
                                        omega, fun g => by
      rcases g with g | ⟨j, k, j0, j1, k0, k1, g⟩
      · exact g.elim
      · have : mgAt s ws c j = 0 := hz _
        omega⟩,
   fun q i _ _ _ _ g => g.elim⟩
end Ow
namespace Sk
def ho (t : Sk) : Ho := if t.dn then (if t.fd then one t.pg t.sl else nil) else match t.nw with
  | .st m => ⟨m.hp, fun _ _ => False, m.hs⟩
  | .bi m => m.ho
  | _ => nil
def FtN (s : Sh) (c k : Int) (n : Nw) (ws : Nat → Int) : Prop := match n with
  | .tk m => m.hit = true → 0 ≤ m.ep ∧ m.ep < s.p ∧ 0 ≤ m.es ∧ m.es < slots k ∧ mgAt s ws c m.i = 1 + 16 * m.ep + 4096 * m.es + 1048576 * k
  | .st m => m.hd = false ∧ (0 < m.i → Sup s m.k (pgAt s ws m.p))
  | .bi m => m.Ft s ws
  | _ => True
def Ft (s : Sh) (t : Sk) (ws : Nat → Int) : Prop := if t.dn then (t.fd = true → 0 ≤ t.pg ∧ t.pg < s.p ∧ 0 ≤ t.sl ∧ t.sl < slots t.k ∧ Sup s t.k (pgAt s ws t.pg)) else FtN s t.c t.k t.nw ws
structure In (s : Sh) (c : Int) (t : Sk) (ws : Nat → Int) : Prop where
  m : may s.p s.c s.m = true
  c0 : 0 ≤ c
  c1 : c < s.c
  wf : t.wf
  es : t.s = s
  ec : t.c = c
  ow : Own s ws c t.ho
  ft : t.Ft s ws
section
variable {s : Sh} {c : Int} {t : Sk} {w : Wd}
theorem ho_nil (hd : t.dn = false) {n : Nw} (e : t.nw = n) (h : (∃ m, n = .tk m) ∨ (∃ m, n = .sc m) ∨ (∃ m, n = .pc m) ∨ n = .no) : t.ho = nil := by
  unfold ho
  rw [hd, e]
  rcases h with ⟨m, rfl⟩ | ⟨m, rfl⟩ | ⟨m, rfl⟩ | rfl <;> rfl
theorem ho_st (hd : t.dn = false) {m : St} (e : t.nw = .st m) : t.ho = ⟨m.hp, fun _ _ => False, m.hs⟩ := by unfold ho; rw [hd, e]; rfl
theorem ho_bi (hd : t.dn = false) {m : Bi} (e : t.nw = .bi m) : t.ho = m.ho := by unfold ho; rw [hd, e]; rfl
theorem ho_fin (p i : Int) : (t.fin p i).ho = one p i := by unfold ho fin; rfl
theorem ho_turn : t.fd = false → t.turn.ho = nil := fun hf => by
  unfold ho turn
  show (if decide (t.many + 1 = t.s.p) = true then (if t.fd = true then _ else nil) else nil) = nil
  rw [hf]; split <;> rfl
theorem ho_bind (p : Int) (hd : t.dn = false) : (t.bind p).ho = (Bi.new t.s t.c p t.k).ho := ho_bi (t := t.bind p) hd rfl
theorem Ft_turn {ws : Nat → Int} (hf : t.fd = false) : t.turn.Ft s ws := by
  unfold Ft turn
  show if decide (t.many + 1 = t.s.p) = true then (t.fd = true → _) else FtN s t.c t.k .no ws
  split
  · rw [hf]; exact fun g => by cases g
  · trivial
theorem Ft_of {ws : Nat → Int} (hd : t.dn = false) {n : Nw} (e : t.nw = n) : t.Ft s ws = FtN s t.c t.k n ws := by
  unfold Ft; rw [hd, e]; rfl
theorem Ft_bind {ws : Nat → Int} (p : Int) (hd : t.dn = false) : (t.bind p).Ft s ws := by
  rw [Ft_of (t := t.bind p) hd rfl]
  exact ⟨fun _ j j0 j1 => by have j1 : j < 0 := j1; omega, fun g => by cases g⟩
theorem hp_new (s' : Sh) (c' p k : Int) (q : Int) : (Bi.new s' c' p k).ho.hp q ↔ q = p := ⟨fun g => (show false = false ∧ q = p from g).2, fun g => (show false = false ∧ q = p from ⟨rfl, g⟩)⟩
theorem hs_new (s' : Sh) (c' p k : Int) (q i : Int) : (Bi.new s' c' p k).ho.hs q i ↔ False := ⟨fun g => (by cases (show false = true ∧ _ from g).1), fun g => g.elim⟩
theorem In.step' (h : In s c t w.ws) (hB : Bs s w.ws) : Nx s c w.ws (t.step w).2.ws (t.step w).1.ho ∧ (t.step w).1.Ft s (t.step w).2.ws := by
  have hm := h.m
  have hb := (may_iff _ _ _).1 hm
  have c0 := h.c0
  have c1 := h.c1
  have hts := h.es
  have htc := h.ec
  have ow := h.ow
  have ft := h.ft
  rcases step_cases t w with ⟨hd, e⟩ | ⟨hd, hc⟩
  · rw [e]; exact ⟨Nx.id hB ow, ft⟩
  have hfd := h.wf.fd hd
  obtain ⟨ok, nd⟩ := h.wf.nw hd
  obtain ⟨b1, b2, b3, b4, b5, b6, b7, b8⟩ := h.wf.of hd
  obtain ⟨k0, k3⟩ := slots_k b4
  have hsk := slots_four k0 k3
  have hnil : ∀ (u : Sk) (ws' : Nat → Int), ws' = w.ws → t.ho = nil → u.ho = nil → u.Ft s ws' → Nx s c w.ws ws' u.ho ∧ u.Ft s ws' := fun u ws' g1 g2 g3 g4 => by
    rw [g1] at g4 ⊢; rw [g3]; rw [g2] at ow; exact ⟨Nx.id hB ow, g4⟩
  rcases hc with ⟨m, en, e⟩ | ⟨m, en, e⟩ | ⟨m, en, e⟩ | ⟨en, e⟩ | ⟨m, en, e⟩ | ⟨m, en, e⟩ <;> rw [e]
  · -- the magazine
    rw [en] at ok nd
    have nd : m.dn = false := nd
    obtain ⟨o1, o2, o3, o4, o5, o6⟩ := ok
    obtain ⟨-, -, -, i0, i1⟩ := o1.of nd
    rw [o2, hts] at i1
    have t0 := ho_nil hd en (.inl ⟨m, rfl⟩)
    rw [t0] at ow
    rw [Ft_of hd en] at ft
    have hat : m.at' = mag s.p s.c s.m c m.i := by unfold Tk.at'; rw [o2, hts, o3, htc]
    have hg : w.get m.at' = mgAt s w.ws c m.i := by rw [hat, mag_at hm c0 c1 i0 i1]
    cases hh : m.hit
    · cases hhits : m.hits w
      · have es : m.step w = ({ m with i := m.i + 1, dn := decide (m.i + 1 = m.s.m) }, w.load m.c m.at') := by
          unfold Tk.step; rw [if_neg (by rw [nd]; decide), if_neg (by rw [hh]; decide), if_neg (by rw [hhits]; decide)]
        rw [es]
        by_cases hl : m.i + 1 = m.s.m
        · rw [Sa.set_af _ (by exact decide_eq_true hl)]
          have ea : ({ t with nw := .tk { m with i := m.i + 1, dn := decide (m.i + 1 = m.s.m) } } : Sk).after = { t with nw := .sc (Sc.new t.s t.c t.k t.f) } := by
            show (if m.fd then _ else _ : Sk) = _; rw [o6 nd]; rfl
          rw [ea]
          refine hnil _ _ rfl t0 (ho_nil (t := { t with nw := .sc (Sc.new t.s t.c t.k t.f) }) hd rfl (.inr (.inl ⟨_, rfl⟩))) ?_
          rw [Ft_of (t := { t with nw := .sc (Sc.new t.s t.c t.k t.f) }) hd rfl]; trivial
        · rw [Sa.set_go _ (by exact decide_eq_false hl)]
          refine hnil _ _ rfl t0 (ho_nil (t := { t with nw := .tk _ }) hd rfl (.inl ⟨_, rfl⟩)) ?_
          rw [Ft_of (t := { t with nw := .tk _ }) hd rfl]
          exact fun g => by have g : m.hit = true := g; rw [hh] at g; cases g
      · have hh2 := hhits
        unfold Tk.hits at hh2
        rw [hg, o2, hts, o4] at hh2
        simp only [Bool.and_eq_true, decide_eq_true_eq] at hh2
        obtain ⟨hok, hek⟩ := hh2
        have es : m.step w = ({ m with ep := enP m.s (w.get m.at'), es := enS m.s (w.get m.at'), ek := enK m.s (w.get m.at'), hit := true }, w.load m.c m.at') := by
          unfold Tk.step; rw [if_neg (by rw [nd]; decide), if_neg (by rw [hh]; decide), if_pos hhits]
        rw [es, Sa.set_go _ (by exact nd)]
        refine hnil _ _ rfl t0 (ho_nil (t := { t with nw := .tk _ }) hd rfl (.inl ⟨_, rfl⟩)) ?_
        rw [Ft_of (t := { t with nw := .tk _ }) hd rfl]
        intro _
        show 0 ≤ enP m.s (w.get m.at') ∧ enP m.s (w.get m.at') < s.p ∧ 0 ≤ enS m.s (w.get m.at') ∧ enS m.s (w.get m.at') < slots t.k ∧ mgAt s w.ws t.c m.i = 1 + 16 * enP m.s (w.get m.at') + 4096 * enS m.s (w.get m.at') + 1048576 * t.k
        rw [hg, o2, hts, htc]
        have hne : mgAt s w.ws c m.i ≠ 0 := fun g => by
          rw [g] at hok
          unfold okEn at hok
          simp only [Bool.and_eq_true, decide_eq_true_eq] at hok
          have := hok.1
          have e0 : putEn (pt 0 16) (pt 0 4096) (pt 0 1048576) = 1 := by decide
          omega
        obtain ⟨p, i, k', g1, g2, g3, g4, g5, g6, g7⟩ := hB.mg c m.i c0 c1 i0 i1 hne
        have hk' := g6.bd
        have hs' := slots_bd k'
        have hpe : mgAt s w.ws c m.i = putEn p i k' := by unfold putEn; rw [if_pos (by omega)]; exact g5
        obtain ⟨f1, f2, f3, f4, f5⟩ := en_put hm g1 g2 g3 g4 hk'.1 hk'.2
        rw [hpe] at hek ⊢
        rw [f2, f3]
        rw [f4] at hek
        subst hek
        exact ⟨g1, g2, g3, g4, by rw [← hpe]; exact g5⟩
    · obtain ⟨e0, e1, e2, e3, e4⟩ := ft hh
      rw [htc] at e4
      have es : m.step w = ({ m with fd := true, dn := true }, w.store m.c m.at' 0) := by
        unfold Tk.step; rw [if_neg (by rw [nd]; decide), if_pos hh]
      rw [es, Sa.set_af _ rfl]
      have ea : ({ t with nw := .tk { m with fd := true, dn := true } } : Sk).after = ({ t with nw := .tk { m with fd := true, dn := true } } : Sk).fin m.ep m.es := rfl
      rw [ea, ho_fin]
      have ew : (w.store m.c m.at' 0).ws = upW w.ws (mag s.p s.c s.m c m.i) 0 := by rw [store_ws, hat]
      rw [ew]
      refine ⟨take hm hB ow c0 c1 i0 i1 e2 (by omega) e0 (by omega) k0 k3 e4 rfl rfl fun x i' => ?_, fun _ => ⟨e0, e1, e2, e3, ?_⟩⟩
      · exact ⟨fun g => .inr g, fun g => g.resolve_left id⟩
      · show Sup s t.k (pgAt s (upW w.ws (mag s.p s.c s.m c m.i) 0) m.ep)
        rw [pg_mg hm c0 c1 i0 i1 e0 e1]
        obtain ⟨p, i, k', g1, g2, g3, g4, g5, g6, g7⟩ := hB.mg c m.i c0 c1 i0 i1 (by omega)
        have hk' := g6.bd
        have hs' := slots_bd k'
        have : p = m.ep := by omega
        have e5 : k' = t.k := by omega
        rw [← this, ← e5]; exact g6
  · -- an open slot
    rw [en] at ok nd
    have nd : m.dn = false := nd
    obtain ⟨o1, o2, o3, o4, o5, -, o7, -⟩ := ok
    obtain ⟨-, -, -, -, -, q0, q1, i0, i1, x0, x1⟩ := o1.of nd
    have t0 := ho_nil hd en (.inr (.inl ⟨m, rfl⟩))
    rw [o4] at i1
    have hsp : m.s.p = s.p := by rw [o2, hts]
    have hq : 0 ≤ m.pg ∧ m.pg < s.p := by unfold Sc.pg; rw [hsp]; exact mod_bd (by omega)
    have hat : m.at' = slot s.p s.c s.m m.pg m.i := by unfold Sc.at'; rw [o2, hts]
    have hgs : w.get m.at' = slAt s w.ws m.pg m.i := by rw [hat, slot_at hm hq.1 hq.2 i0 (by omega)]
    have go : ∀ (m' : Sc) (w' : Wd), w'.ws = w.ws → m'.fd = false → Nx s c w.ws w'.ws (t.set (.sc m')).ho ∧ (t.set (.sc m')).Ft s w'.ws := fun m' w' g1 g2 => by
      cases hd' : m'.dn
      · rw [Sa.set_go _ (by exact hd')]
        refine hnil _ _ g1 t0 (ho_nil (t := { t with nw := .sc _ }) hd rfl (.inr (.inl ⟨_, rfl⟩))) ?_
        rw [Ft_of (t := { t with nw := .sc _ }) hd rfl]; trivial
      · rw [Sa.set_af _ (by exact hd')]
        have ea : ({ t with nw := .sc m' } : Sk).after = { t with nw := .pc (Pc.new t.s t.c t.f) } := by
          show (if m'.fd then _ else _ : Sk) = _; rw [g2]; rfl
        rw [ea]
        refine hnil _ _ g1 t0 (ho_nil (t := { t with nw := .pc _ }) hd rfl (.inr (.inr (.inl ⟨_, rfl⟩)))) ?_
        rw [Ft_of (t := { t with nw := .pc _ }) hd rfl]; trivial
    have hmf := o7 nd
    have missf : m.miss.fd = false := by unfold Sc.miss; split <;> exact hmf
    by_cases hx0 : m.nx = 0
    · have es : m.step w = (if m.mine w then { m with nx := 1 } else m.turn, w.load m.c m.pat) := by
        unfold Sc.step; rw [if_neg (by rw [nd]; decide), if_pos hx0]
      rw [es]
      exact go _ _ rfl (by split <;> exact hmf)
    by_cases hx1 : m.nx = 1
    · have es : m.step w = (if w.get m.at' = opn m.k then { m with nx := 2 } else m.miss, w.load m.c m.at') := by
        unfold Sc.step; rw [if_neg (by rw [nd]; decide), if_neg hx0, if_pos hx1]
      rw [es]
      exact go _ _ rfl (by split; exact hmf; exact missf)
    by_cases hz : w.get m.at' = opn m.k
    · have es : m.step w = ({ m with fd := true, dn := true }, w.swap m.c m.at' (opn m.k) (way m.c)) := by
        unfold Sc.step; rw [if_neg (by rw [nd]; decide), if_neg hx0, if_neg hx1, if_pos hz]
      have hz2 := hz
      rw [hgs, o4, opn_v k0 (by omega)] at hz2
      rw [es, Sa.set_af _ rfl]
      have ea : ({ t with nw := .sc { m with fd := true, dn := true } } : Sk).after = ({ t with nw := .sc { m with fd := true, dn := true } } : Sk).fin m.pg m.i := rfl
      rw [ea, ho_fin]
      rw [t0] at ow
      have ew : (w.swap m.c m.at' (opn m.k) (way m.c)).ws = upW w.ws (slot s.p s.c s.m m.pg m.i) (2 + 16 * c) := by rw [swap_yes hz, hat, o3, htc, way_v c0 (by omega)]
      rw [ew]
      refine ⟨claimO hm hB ow c0 c1 hq.1 hq.2 i0 (by omega) k0 k3 (.inl hz2) rfl rfl fun x j => ⟨fun g => .inr g, fun g => g.resolve_left id⟩, fun _ => ⟨hq.1, hq.2, i0, i1, ?_⟩⟩
      show Sup s t.k (pgAt s (upW w.ws (slot s.p s.c s.m m.pg m.i) (2 + 16 * c)) m.pg)
      rw [pg_sl hm hq.1 hq.2 i0 (by omega) hq.1 hq.2]
      exact ((hB.pg m.pg hq.1 hq.2).open (by omega) k0 k3 i0 (by omega) (.inl hz2)).1
    · have es : m.step w = (m.miss, w.swap m.c m.at' (opn m.k) (way m.c)) := by
        unfold Sc.step; rw [if_neg (by rw [nd]; decide), if_neg hx0, if_neg hx1, if_neg hz]
      rw [es]
      exact go _ _ (swap_no hz) missf
  · -- an empty page
    rw [en] at ok nd
    have nd : m.dn = false := nd
    obtain ⟨o1, o2, o3, o4, -, o6, -⟩ := ok
    obtain ⟨-, -, -, -, -, q0, q1⟩ := o1.of nd
    have t0 := ho_nil hd en (.inr (.inr (.inl ⟨m, rfl⟩)))
    have hsp : m.s.p = s.p := by rw [o2, hts]
    have hq : 0 ≤ m.pg ∧ m.pg < s.p := by unfold Pc.pg; rw [hsp]; exact mod_bd (by omega)
    have hat : m.at' = page s.p s.c s.m m.pg := by unfold Pc.at'; rw [o2, hts]
    have hmf := o6 nd
    have go : ∀ (m' : Pc) (w' : Wd), w'.ws = w.ws → m'.fd = false → Nx s c w.ws w'.ws (t.set (.pc m')).ho ∧ (t.set (.pc m')).Ft s w'.ws := fun m' w' g1 g2 => by
      cases hd' : m'.dn
      · rw [Sa.set_go _ (by exact hd')]
        refine hnil _ _ g1 t0 (ho_nil (t := { t with nw := .pc _ }) hd rfl (.inr (.inr (.inl ⟨_, rfl⟩)))) ?_
        rw [Ft_of (t := { t with nw := .pc _ }) hd rfl]; trivial
      · rw [Sa.set_af _ (by exact hd')]
        have ea : ({ t with nw := .pc m' } : Sk).after = { t with nw := .no } := by
          show (if m'.fd then _ else _ : Sk) = _; rw [g2]; rfl
        rw [ea]
        refine hnil _ _ g1 t0 (ho_nil (t := { t with nw := .no }) hd rfl (.inr (.inr (.inr rfl)))) ?_
        rw [Ft_of (t := { t with nw := .no }) hd rfl]; trivial
    cases hem : m.em
    · have es : m.step w = (if w.get m.at' = 0 then { m with em := true } else m.next, w.load m.c m.at') := by
        unfold Pc.step; rw [if_neg (by rw [nd]; decide), if_neg (by rw [hem]; decide)]
      rw [es]
      exact go _ _ rfl (by split <;> exact hmf)
    by_cases hz : w.get m.at' = 0
    · have es : m.step w = ({ m with fd := true, dn := true }, w.swap m.c m.at' 0 (held m.c)) := by
        unfold Pc.step; rw [if_neg (by rw [nd]; decide), if_pos hem, if_pos hz]
      have hz2 : pgAt s w.ws m.pg = 0 := by rw [hat] at hz; exact hz
      rw [es, Sa.set_af _ rfl]
      have ea : ({ t with nw := .pc { m with fd := true, dn := true } } : Sk).after = ({ t with nw := .pc { m with fd := true, dn := true } } : Sk).bind m.pg := rfl
      rw [ea, ho_bind _ (by exact hd)]
      rw [t0] at ow
      have ew : (w.swap m.c m.at' 0 (held m.c)).ws = upW w.ws (page s.p s.c s.m m.pg) (1 + 16 * c) := by rw [swap_yes hz, hat, o3, htc, held_v c0 (by omega)]
      rw [ew]
      refine ⟨(claimE (o' := ⟨fun q => q = m.pg, fun _ _ => False, fun _ _ => False⟩) hm hB ow c0 c1 hq.1 hq.2 hz2 (fun x => ⟨fun g => .inr g, fun g => g.resolve_left id⟩) rfl rfl).congr (hp_new _ _ _ _) (fun _ _ => Iff.rfl) (hs_new _ _ _ _), Ft_bind _ (by exact hd)⟩
    · have es : m.step w = (m.next, w.swap m.c m.at' 0 (held m.c)) := by
        unfold Pc.step; rw [if_neg (by rw [nd]; decide), if_pos hem, if_neg hz]
      rw [es]
      exact go _ _ (swap_no hz) hmf
  · -- the look at a page to strip
    have t0 := ho_nil hd en (.inr (.inr (.inr rfl)))
    unfold look
    cases hS : t.isSup w
    · exact hnil _ _ rfl t0 (ho_turn hfd) (Ft_turn hfd)
    · refine hnil _ _ rfl t0 ?_ ?_
      · show Sk.ho { t with nw := .st _ } = nil
        rw [ho_st (t := { t with nw := .st _ }) hd rfl]
        unfold nil
        congr 1
        · funext q; exact eq_false fun g => by cases g.1
        · funext q i; exact eq_false fun g => by
            obtain ⟨-, -, g0, g1⟩ := g
            have g1 : i < 0 := g1
            omega
      · show Sk.Ft s { t with nw := .st _ } _
        rw [Ft_of (t := { t with nw := .st _ }) hd rfl]
        exact ⟨rfl, fun g => by have g : (0 : Int) < 0 := g; omega⟩
  · -- the stripper
    rw [en] at ok nd
    have nd : m.dn = false := nd
    obtain ⟨o1, o2, o3, o4, o5⟩ := ok
    rw [Ft_of hd en] at ft
    rw [ho_st hd en] at ow
    have hcfg := h.wf.cfg hd
    have hbd := here_bd hcfg
    rw [hts] at hbd
    obtain ⟨s1, s2, s3, s4, s5⟩ := St.own (A := fun _ => False) (B := fun _ _ => False) (o2.trans hts) (o3.trans htc) o1 nd (o5 nd) hB (ow.congr (fun q => by simp) (fun _ _ => Iff.rfl) fun _ _ => Iff.rfl) ft.2
    have hmp : (m.step w).1.p = t.here := by
      rw [← o4]; unfold St.step; split
      · rfl
      · split
        · rfl
        · split
          · rfl
          · dsimp only; split <;> rfl
    cases hd' : (m.step w).1.dn
    · rw [Sa.set_go _ (by exact hd')]
      have hh' := s4 hd'
      refine ⟨?_, ?_⟩
      · rw [ho_st (t := { t with nw := .st _ }) hd rfl]
        exact s1.congr (fun q => by simp) (fun _ _ => Iff.rfl) fun _ _ => Iff.rfl
      · rw [Ft_of (t := { t with nw := .st _ }) hd rfl]
        refine ⟨hh', fun g => ?_⟩
        have hp : (m.step w).1.p = m.p := hmp.trans o4.symm
        have hk : (m.step w).1.k = m.k := by
          unfold St.step; split
          · rfl
          · split
            · rfl
            · split
              · rfl
              · dsimp only; split <;> rfl
        show Sup s (m.step w).1.k (pgAt s (m.step w).2.ws (m.step w).1.p)
        rw [hp, hk]; exact s2 hh' g
    · rw [Sa.set_af _ (by exact hd')]
      cases hh : (m.step w).1.hd
      · have ea : ({ t with nw := .st (m.step w).1 } : Sk).after = ({ t with nw := .st (m.step w).1 } : Sk).turn := by
          show (if (m.step w).1.hd then _ else _ : Sk) = _; rw [hh]; rfl
        rw [ea, ho_turn (by exact hfd)]
        refine ⟨s1.congr (fun q => ?_) (fun _ _ => Iff.rfl) fun q i => ?_, Ft_turn hfd⟩
        · exact ⟨fun g => g.elim, fun g => by rcases g with g | ⟨g, -⟩; exact g; rw [hh] at g; cases g⟩
        · refine ⟨fun g => g.elim, fun ⟨_, _, g0, g1⟩ => ?_⟩
          rw [s3 hd' hh] at g1; omega
      · have ea : ({ t with nw := .st (m.step w).1 } : Sk).after = ({ t with nw := .st (m.step w).1 } : Sk).bind t.here := by
          show (if (m.step w).1.hd then _ else _ : Sk) = _; rw [hh]; rfl
        rw [ea, ho_bind _ (by exact hd)]
        refine ⟨s1.congr (fun q => ?_) (fun _ _ => Iff.rfl) (fun q i => ?_), Ft_bind _ (by exact hd)⟩
        · rw [hp_new]
          exact ⟨fun g => .inr ⟨hh, by rw [hmp]; exact g⟩, fun g => by rcases g with g | ⟨-, g⟩; exact g.elim; exact g.trans hmp⟩
        · rw [hs_new]
          exact ⟨fun g => g.elim, fun ⟨g, _⟩ => by rw [hh] at g; cases g⟩
  · -- the binder
    rw [en] at ok nd
    have nd : m.dn = false := nd
    obtain ⟨o1, o2, o3, o4, o5, o6, o7⟩ := ok
    rw [Ft_of hd en] at ft
    rw [ho_bi hd en] at ow
    obtain ⟨s1, s2, s3⟩ := Bi.own (o2.trans hts) (o3.trans htc) o1 nd hB ow ft
    have hf := Bi.step_same (t := m) (w := w)
    cases hd' : (m.step w).1.dn
    · rw [Sa.set_go _ (by exact hd')]
      refine ⟨?_, ?_⟩
      · rw [ho_bi (t := { t with nw := .bi _ }) hd rfl]; exact s1
      · rw [Ft_of (t := { t with nw := .bi _ }) hd rfl]; exact s2
    · rw [Sa.set_af _ (by exact hd')]
      obtain ⟨g1, g2⟩ := s3 hd'
      have ea : ({ t with nw := .bi (m.step w).1 } : Sk).after = ({ t with nw := .bi (m.step w).1 } : Sk).fin t.pg 0 := rfl
      rw [ea, ho_fin]
      have hp : (m.step w).1.p = t.pg := hf.1.trans o5
      refine ⟨s1.congr (fun q => ⟨fun g => g.elim, fun ⟨g, _⟩ => by rw [g1] at g; cases g⟩) (fun _ _ => Iff.rfl) (fun q i => ?_), fun _ => ⟨o6, by rw [hts] at o7; exact o7, Int.le_refl _, b4, ?_⟩⟩
      · show (q = t.pg ∧ i = 0) ↔ ((m.step w).1.bd = true ∧ q = (m.step w).1.p ∧ 0 ≤ i ∧ i ≤ (m.step w).1.i)
        rw [hp, g2]
        exact ⟨fun ⟨a, b⟩ => ⟨g1, a, by omega, by omega⟩, fun ⟨_, a, b, d⟩ => ⟨a, by omega⟩⟩
      · have := s2.2 g1
        rw [hp, hf.2.1, o4] at this
        exact this
theorem In.step (h : In s c t w.ws) (hB : Bs s w.ws) : Nx s c w.ws (t.step w).2.ws (t.step w).1.ho ∧ In s c (t.step w).1 (t.step w).2.ws := by
  obtain ⟨n, f⟩ := h.step' hB
  have hk := step_kp (t := t) (w := w)
  exact ⟨n, ⟨h.m, h.c0, h.c1, step_wf h.wf, hk.1.trans h.es, hk.2.1.trans h.ec, n.ow, f⟩⟩
/-- What another one does leaves it. -/
theorem In.rel {ws ws' : Nat → Int} (h : In s c t ws) (r : Rel s c ws ws') : In s c t ws' := by
  have hm := h.m
  have hb := (may_iff _ _ _).1 hm
  refine ⟨h.m, h.c0, h.c1, h.wf, h.es, h.ec, h.ow.rel r, ?_⟩
  have ft := h.ft
  have ow := h.ow
  cases hd : t.dn
  · obtain ⟨ok, nd⟩ := h.wf.nw hd
    obtain ⟨b1, b2, b3, b4, b5, b6, b7, b8⟩ := h.wf.of hd
    cases en : t.nw with
    | tk m =>
      rw [en] at ok nd
      have nd : m.dn = false := nd
      obtain ⟨o1, o2, o3, -⟩ := ok
      obtain ⟨-, -, -, i0, i1⟩ := o1.of nd
      rw [o2, h.es] at i1
      rw [Ft_of hd en] at ft ⊢
      intro g
      obtain ⟨g1, g2, g3, g4, g5⟩ := ft g
      exact ⟨g1, g2, g3, g4, by rw [h.ec] at g5 ⊢; rw [r.mg m.i i0 i1]; exact g5⟩
    | sc m => rw [Ft_of hd en]; trivial
    | pc m => rw [Ft_of hd en]; trivial
    | no => rw [Ft_of hd en]; trivial
    | st m =>
      rw [en] at ok nd
      have nd : m.dn = false := nd
      obtain ⟨o1, o2, o3, -⟩ := ok
      obtain ⟨-, -, -, p0, p1, k0, i0, i1, -⟩ := o1.of nd
      have hs := slots_bd m.k
      rw [o2, h.es] at p1
      rw [Ft_of hd en] at ft ⊢
      rw [ho_st hd en] at ow
      refine ⟨ft.1, fun g => ?_⟩
      have := (ow.sl m.p 0 p0 p1 (by omega) (by omega)).2 (.inl ⟨ft.1, rfl, by omega, g⟩)
      rw [r.sp m.p 0 p0 p1 (by omega) (by omega) this.1 this.2]
      exact ft.2 g
    | bi m =>
      rw [en] at ok nd
      have nd : m.dn = false := nd
      obtain ⟨o1, o2, o3, -⟩ := ok
      obtain ⟨-, -, -, p0, p1, k0, i0, i1, i2⟩ := o1.of nd
      rw [o2, h.es] at p1
      rw [Ft_of hd en] at ft ⊢
      rw [ho_bi hd en] at ow
      have hmc : m.c = c := o3.trans h.ec
      refine Bi.Ft.rel (t := m) ⟨p0, p1⟩ i1 (fun _ => i0) ?_ ?_ ft
      · rw [hmc]; exact ow
      · rw [hmc]; exact r
  · unfold Ft at ft ⊢
    rw [hd] at ft ⊢
    simp only [if_true] at ft ⊢
    intro g
    obtain ⟨g1, g2, g3, g4, g5⟩ := ft g
    refine ⟨g1, g2, g3, g4, ?_⟩
    have hs := slots_bd t.k
    have ow : Own s ws c (one t.pg t.sl) := by
      have : t.ho = one t.pg t.sl := by unfold ho; rw [hd, g]; rfl
      rw [← this]; exact ow
    have := (ow.sl t.pg t.sl g1 g2 g3 (by omega)).2 (.inl ⟨rfl, rfl⟩)
    rw [r.sp t.pg t.sl g1 g2 g3 (by omega) this.1 this.2]; exact g5
theorem In.fin {ws : Nat → Int} (h : In s c t ws) (hd : t.dn = true) (hf : t.fd = true) : 0 ≤ t.pg ∧ t.pg < s.p ∧ 0 ≤ t.sl ∧ t.sl < slots t.k ∧ Sup s t.k (pgAt s ws t.pg) ∧ slAt s ws t.pg t.sl = 2 + 16 * c := by
  have ft := h.ft
  unfold Ft at ft
  rw [hd] at ft
  simp only [if_true] at ft
  obtain ⟨g1, g2, g3, g4, g5⟩ := ft hf
  have hs := slots_bd t.k
  have ow : Own s ws c (one t.pg t.sl) := by
    have : t.ho = one t.pg t.sl := by unfold ho; rw [hd, hf]; rfl
    rw [← this]; exact h.ow
  exact ⟨g1, g2, g3, g4, g5, ((ow.sl t.pg t.sl g1 g2 g3 (by omega)).2 (.inl ⟨rfl, rfl⟩)).2⟩
theorem In.new {ws : Nat → Int} (hm : may s.p s.c s.m = true) (c0 : 0 ≤ c) (c1 : c < s.c) (k f : Int) (ow : Own s ws c nil) : In s c (Sk.new s c k f) ws := by
  have hk : (Sk.new s c k f).s = s ∧ (Sk.new s c k f).c = c := by
    unfold Sk.new; split
    · exact ⟨(set_kp _ _).1, (set_kp _ _).2.1⟩
    · exact ⟨rfl, rfl⟩
  suffices hh : (Sk.new s c k f).ho = nil ∧ (Sk.new s c k f).Ft s ws from ⟨hm, c0, c1, Sk.new_wf .., hk.1, hk.2, by rw [hh.1]; exact ow, hh.2⟩
  unfold Sk.new
  split
  · cases hd : (Tk.new s c k).dn
    · rw [Sa.set_go _ (by exact hd)]
      refine ⟨ho_nil (t := ⟨s, c, k, f, .tk _, 0, 0, 0, false, false⟩) rfl rfl (.inl ⟨_, rfl⟩), ?_⟩
      rw [Ft_of (t := ⟨s, c, k, f, .tk _, 0, 0, 0, false, false⟩) rfl rfl]
      exact fun g => by cases g
    · rw [Sa.set_af _ (by exact hd)]
      refine ⟨ho_nil (t := ⟨s, c, k, f, .sc _, 0, 0, 0, false, false⟩) rfl rfl (.inr (.inl ⟨_, rfl⟩)), ?_⟩
      show Ft s ⟨s, c, k, f, .sc (Sc.new s c k f), 0, 0, 0, false, false⟩ ws
      rw [Ft_of (t := ⟨s, c, k, f, .sc _, 0, 0, 0, false, false⟩) rfl rfl]
      trivial
  · exact ⟨rfl, fun g => by cases g⟩
end
end Sk
end Go.Ma
