/-
  A word that is written touches the word of one page, of one slot, of one entry or of one status alone. Conditions: none.
-/
import Derived.Test.YtfopnendmcpglaaMaSound
set_option linter.unusedVariables false
set_option linter.unusedSectionVars false
set_option linter.unusedSimpArgs false
namespace Go.Ma
open Go.Pl

/-- The words with one of them written. -/
def upW (ws : Nat → Int) (a y : Int) : Nat → Int := fun j => if j = a.toNat then y else ws j
theorem store_ws (w : Wd) (c a y : Int) : (w.store c a y).ws = upW w.ws a y := rfl
theorem load_ws (w : Wd) (c a : Int) : (w.load c a).ws = w.ws := rfl
theorem put_ws (w : Wd) (a y : Int) : (w.put a y).ws = upW w.ws a y := rfl
theorem swap_ws (w : Wd) (c a x y : Int) : (w.swap c a x y).ws = upW w.ws a (if w.get a = x then y else w.get a) := by
  funext j
  show (if j = a.toNat then (if w.get a == x then y else w.get a) else w.ws j) = _
  unfold upW
  by_cases e : w.get a = x
  · simp [e]
  · simp [e]
theorem swap_yes {w : Wd} {c a x y : Int} (h : w.get a = x) : (w.swap c a x y).ws = upW w.ws a y := by rw [swap_ws, if_pos h]
theorem swap_no {w : Wd} {c a x y : Int} (h : w.get a ≠ x) : (w.swap c a x y).ws = w.ws := by
  rw [swap_ws, if_neg h]
  funext j
  unfold upW
  split
  · rename_i e; subst e; rfl
  · rfl

theorem mg_inj {c1 i1 c2 i2 m : Int} (h1 : 0 ≤ i1) (h2 : i1 < m) (h3 : 0 ≤ i2) (h4 : i2 < m) (e : c1 * m + i1 = c2 * m + i2) : c1 = c2 ∧ i1 = i2 := by
  rcases Int.lt_trichotomy c1 c2 with h | h | h
  · have := Int.mul_le_mul_of_nonneg_right (by omega : c1 + 1 ≤ c2) (by omega : 0 ≤ m)
    rw [Int.add_mul] at this; omega
  · subst h; exact ⟨rfl, by omega⟩
  · have := Int.mul_le_mul_of_nonneg_right (by omega : c2 + 1 ≤ c1) (by omega : 0 ≤ m)
    rw [Int.add_mul] at this; omega

section
variable {s : Sh} {ws : Nat → Int} {q q' i i' c c' y : Int} (hm : may s.p s.c s.m = true)
include hm
theorem pg_pg (h0 : 0 ≤ q) (h1 : q < s.p) (h2 : 0 ≤ q') (h3 : q' < s.p) : pgAt s (upW ws (page s.p s.c s.m q) y) q' = if q' = q then y else pgAt s ws q' := by
  have hb := (may_iff _ _ _).1 hm
  unfold pgAt upW
  rw [page_yes hm h0 h1, page_yes hm h2 h3]
  by_cases e : q' = q
  · subst e; rw [if_pos rfl, if_pos rfl]
  · rw [if_neg e, if_neg (by omega)]
theorem sl_pg (h0 : 0 ≤ q) (h1 : q < s.p) (h2 : 0 ≤ q') (h3 : 0 ≤ i') : slAt s (upW ws (page s.p s.c s.m q) y) q' i' = slAt s ws q' i' := by
  have hb := (may_iff _ _ _).1 hm
  unfold slAt upW
  rw [page_yes hm h0 h1, if_neg (by omega)]
theorem mg_pg (h0 : 0 ≤ q) (h1 : q < s.p) (h2 : 0 ≤ c') (h3 : 0 ≤ i') : mgAt s (upW ws (page s.p s.c s.m q) y) c' i' = mgAt s ws c' i' := by
  have hb := (may_iff _ _ _).1 hm
  have := Int.mul_nonneg h2 (by omega : 0 ≤ s.m)
  unfold mgAt upW
  rw [page_yes hm h0 h1, if_neg (by omega)]
theorem pg_sl (h0 : 0 ≤ q) (h1 : q < s.p) (h2 : 0 ≤ i) (h3 : i < 16) (h4 : 0 ≤ q') (h5 : q' < s.p) : pgAt s (upW ws (slot s.p s.c s.m q i) y) q' = pgAt s ws q' := by
  have hb := (may_iff _ _ _).1 hm
  unfold pgAt upW
  rw [slot_yes hm h0 h1 h2 h3, page_yes hm h4 h5, if_neg (by omega)]
theorem sl_sl (h0 : 0 ≤ q) (h1 : q < s.p) (h2 : 0 ≤ i) (h3 : i < 16) (h4 : 0 ≤ q') (h5 : 0 ≤ i') (h6 : i' < 16) : slAt s (upW ws (slot s.p s.c s.m q i) y) q' i' = if q' = q ∧ i' = i then y else slAt s ws q' i' := by
  have hb := (may_iff _ _ _).1 hm
  unfold slAt upW
  rw [slot_yes hm h0 h1 h2 h3]
  by_cases e : q' = q ∧ i' = i
  · obtain ⟨rfl, rfl⟩ := e; rw [if_pos rfl, if_pos ⟨rfl, rfl⟩]
  · rw [if_neg e, if_neg (by omega)]
theorem mg_sl (h0 : 0 ≤ q) (h1 : q < s.p) (h2 : 0 ≤ i) (h3 : i < 16) (h4 : 0 ≤ c') (h5 : 0 ≤ i') : mgAt s (upW ws (slot s.p s.c s.m q i) y) c' i' = mgAt s ws c' i' := by
  have hb := (may_iff _ _ _).1 hm
  have := Int.mul_nonneg h4 (by omega : 0 ≤ s.m)
  unfold mgAt upW
  rw [slot_yes hm h0 h1 h2 h3, if_neg (by omega)]
theorem pg_mg (h0 : 0 ≤ c) (h1 : c < s.c) (h2 : 0 ≤ i) (h3 : i < s.m) (h4 : 0 ≤ q') (h5 : q' < s.p) : pgAt s (upW ws (mag s.p s.c s.m c i) y) q' = pgAt s ws q' := by
  have hb := (may_iff _ _ _).1 hm
  have := Int.mul_nonneg h0 (by omega : 0 ≤ s.m)
  unfold pgAt upW
  rw [mag_yes hm h0 h1 h2 h3, page_yes hm h4 h5, if_neg (by omega)]
theorem sl_mg (h0 : 0 ≤ c) (h1 : c < s.c) (h2 : 0 ≤ i) (h3 : i < s.m) (h4 : 0 ≤ q') (h5 : q' < s.p) (h6 : 0 ≤ i') (h7 : i' < 16) : slAt s (upW ws (mag s.p s.c s.m c i) y) q' i' = slAt s ws q' i' := by
  have hb := (may_iff _ _ _).1 hm
  have := Int.mul_nonneg h0 (by omega : 0 ≤ s.m)
  unfold slAt upW
  rw [mag_yes hm h0 h1 h2 h3, if_neg (by omega)]
theorem mg_mg (h0 : 0 ≤ c) (h1 : c < s.c) (h2 : 0 ≤ i) (h3 : i < s.m) (h4 : 0 ≤ c') (h6 : 0 ≤ i') (h7 : i' < s.m) : mgAt s (upW ws (mag s.p s.c s.m c i) y) c' i' = if c' = c ∧ i' = i then y else mgAt s ws c' i' := by
  have hb := (may_iff _ _ _).1 hm
  have g1 := Int.mul_nonneg h0 (by omega : 0 ≤ s.m)
  have g2 := Int.mul_nonneg h4 (by omega : 0 ≤ s.m)
  unfold mgAt upW
  rw [mag_yes hm h0 h1 h2 h3]
  by_cases e : c' = c ∧ i' = i
  · obtain ⟨rfl, rfl⟩ := e; rw [if_pos rfl, if_pos ⟨rfl, rfl⟩]
  · rw [if_neg e, if_neg]
    intro e2
    exact e (mg_inj h6 h7 h2 h3 (by omega))
theorem pg_st (h0 : 0 ≤ c) (h1 : c < s.c) (h4 : 0 ≤ q') (h5 : q' < s.p) : pgAt s (upW ws (status s.p s.c s.m c) y) q' = pgAt s ws q' := by
  have hb := (may_iff _ _ _).1 hm
  unfold pgAt upW
  rw [status_yes hm h0 h1, page_yes hm h4 h5, if_neg (by omega)]
theorem sl_st (h0 : 0 ≤ c) (h1 : c < s.c) (h4 : 0 ≤ q') (h6 : 0 ≤ i') : slAt s (upW ws (status s.p s.c s.m c) y) q' i' = slAt s ws q' i' := by
  have hb := (may_iff _ _ _).1 hm
  unfold slAt upW
  rw [status_yes hm h0 h1, if_neg (by omega)]
theorem mg_st (h0 : 0 ≤ c) (h1 : c < s.c) (h4 : 0 ≤ c') (h6 : 0 ≤ i') : mgAt s (upW ws (status s.p s.c s.m c) y) c' i' = mgAt s ws c' i' := by
  have hb := (may_iff _ _ _).1 hm
  have g2 := Int.mul_nonneg h4 (by omega : 0 ≤ s.m)
  unfold mgAt upW
  rw [status_yes hm h0 h1, if_neg (by omega)]
/-- A status is far from the rest. -/
theorem st_far {x : Int} (h0 : 0 ≤ x) (h1 : x < s.c) {a : Int} (ha : s.c ≤ a) : upW ws a y x.toNat = ws x.toNat := by
  unfold upW; rw [if_neg (by omega)]
theorem st_st {x : Int} (h0 : 0 ≤ x) (h1 : x < s.c) (h2 : 0 ≤ c) (h3 : c < s.c) : upW ws (status s.p s.c s.m c) y x.toNat = if x = c then y else ws x.toNat := by
  unfold upW
  rw [status_yes hm h2 h3]
  by_cases e : x = c
  · rw [if_pos e, if_pos (by omega)]
  · rw [if_neg e, if_neg (by omega)]
omit hm in
theorem slot_at (hm : may s.p s.c s.m = true) {w : Wd} (h0 : 0 ≤ q) (h1 : q < s.p) (h2 : 0 ≤ i) (h3 : i < 16) : w.get (slot s.p s.c s.m q i) = slAt s w.ws q i := by
  unfold Wd.get slAt; rw [slot_yes hm h0 h1 h2 h3]
omit hm in
theorem mag_at (hm : may s.p s.c s.m = true) {w : Wd} (h0 : 0 ≤ c) (h1 : c < s.c) (h2 : 0 ≤ i) (h3 : i < s.m) : w.get (mag s.p s.c s.m c i) = mgAt s w.ws c i := by
  unfold Wd.get mgAt; rw [mag_yes hm h0 h1 h2 h3]
end
theorem page_at {s : Sh} {w : Wd} {q : Int} : w.get (page s.p s.c s.m q) = pgAt s w.ws q := rfl

/-! ### What words say, once more -/
theorem pgK_no {s : Sh} {q x : Int} (h : okPg s q x = false) : pgK s q x = 0 := by unfold pgK; rw [h]; rfl
theorem pgK_zero (s : Sh) (q : Int) : pgK s q 0 = 0 := by
  unfold pgK
  split
  · decide
  · rfl
theorem okPg_zero {s : Sh} {q : Int} (hm : may s.p s.c s.m = true) (h0 : 0 ≤ q) (h1 : q < s.p) : okPg s q 0 = true := by
  have hb := (may_iff _ _ _).1 hm
  have h2 : 0 ≤ page s.p s.c s.m q := by rw [page_yes hm h0 h1]; omega
  have e : fits s q (0 % 16) (pt 0 16) (pt 0 4096) = true := by unfold fits; simp
  have e2 : decide (putPg (0 % 16) (pt 0 16) (pt 0 4096) = 0) = true := by decide
  unfold okPg
  rw [decide_eq_true h2, e, e2]
  rfl
theorem pgK_ne {s : Sh} {q x : Int} (h : pgK s q x ≠ 0) : okPg s q x = true := by
  cases e : okPg s q x
  · exact absurd (pgK_no e) h
  · rfl
theorem way_ne (c : Int) (h0 : 0 ≤ c) (h1 : c ≤ 255) : way c ≠ 0 ∧ slK (way c) = 2 ∧ slA (way c) = c := by
  have e : way c = 2 + 16 * c := by unfold way putSl; rw [if_pos (by omega)]; try omega
  have hp : pt (2 + 16 * c) 16 = c := by unfold pt; omega
  have hk : (2 + 16 * c) % 16 = 2 := by omega
  have ho : okSl (2 + 16 * c) = true := by unfold okSl; rw [hk, hp]; exact decide_eq_true e
  rw [e]
  refine ⟨by omega, ?_, ?_⟩
  · unfold slK; rw [if_pos ho, hk]
  · unfold slA; rw [if_pos ho, hp]
theorem way_inj {c d : Int} (h0 : 0 ≤ c) (h1 : c ≤ 255) (h2 : 0 ≤ d) (h3 : d ≤ 255) (h : way c = way d) : c = d := by
  have := congrArg slA h
  rw [(way_ne c h0 h1).2.2, (way_ne d h2 h3).2.2] at this
  exact this
theorem opn_ne (k : Int) (h0 : 0 ≤ k) (h1 : k ≤ 255) : opn k ≠ 0 ∧ slK (opn k) = 1 ∧ slA (opn k) = k := by
  have e : opn k = 1 + 16 * k := by unfold opn putSl; rw [if_pos (by omega)]; try omega
  have hp : pt (1 + 16 * k) 16 = k := by unfold pt; omega
  have hk : (1 + 16 * k) % 16 = 1 := by omega
  have ho : okSl (1 + 16 * k) = true := by unfold okSl; rw [hk, hp]; exact decide_eq_true e
  rw [e]
  refine ⟨by omega, ?_, ?_⟩
  · unfold slK; rw [if_pos ho, hk]
  · unfold slA; rw [if_pos ho, hp]
theorem taken_ne (k : Int) (h0 : 0 ≤ k) (h1 : k ≤ 255) : taken k ≠ 0 ∧ slK (taken k) = 3 ∧ slA (taken k) = k := by
  have e : taken k = 3 + 16 * k := by unfold taken putSl; rw [if_pos (by omega)]; try omega
  have hp : pt (3 + 16 * k) 16 = k := by unfold pt; omega
  have hk : (3 + 16 * k) % 16 = 3 := by omega
  have ho : okSl (3 + 16 * k) = true := by unfold okSl; rw [hk, hp]; exact decide_eq_true e
  rw [e]
  refine ⟨by omega, ?_, ?_⟩
  · unfold slK; rw [if_pos ho, hk]
  · unfold slA; rw [if_pos ho, hp]
/-- A slot word that is in a way. -/
theorem is_way {x : Int} (hk : slK x = 2) : x = way (slA x) := by
  have ho : okSl x = true := by
    cases e : okSl x
    · unfold slK at hk; rw [e] at hk; cases hk
    · rfl
  have h1 : x % 16 = 2 := by unfold slK at hk; rw [if_pos ho] at hk; exact hk
  unfold slA way
  rw [if_pos ho]
  unfold okSl at ho
  rw [h1] at ho
  exact (of_decide_eq_true ho).symm
end Go.Ma
