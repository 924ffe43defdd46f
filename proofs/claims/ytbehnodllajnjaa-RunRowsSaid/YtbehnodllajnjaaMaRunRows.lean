/-
  One that looks for a row of pages alone, where pages are empty, full, or of open slots: the first such row is found. Conditions: none.
-/
import Derived.Test.YtbehnodllajnjaaMaRunTwo
set_option linter.unusedVariables false
set_option linter.unusedSimpArgs false
namespace Go.Ma
open Go.Pl
/-- A page's word at the beginning. -/
def rwPg (kd cl : Int → Int) (q : Int) : Int := if kd q = 0 then putPg 3 1 0 else if kd q = 1 then super (cl q) 0 else 0
namespace Rn
def rsh (P : Int) : Sh := ⟨P, 1, 0⟩
/-- Pages that are not touched. -/
def Unt (P : Int) (kd cl : Int → Int) (w : Wd) (q : Int) : Prop := w.get (1 + q) = rwPg kd cl q ∧ (kd q = 1 → ∀ j, 0 ≤ j → j < slots (cl q) → w.get (1 + P + q * 16 + j) = opn (cl q))
/-- What holds of pages: it has hd to e, of bodies as far as b. -/
structure Bs (P n : Int) (kd cl : Int → Int) (hd e b : Int) (w : Wd) : Prop where
  of : w.of (rsh P)
  ok : may P 1 0 = true
  clb : ∀ q, 0 ≤ cl q ∧ cl q ≤ 3
  tn : 1 ≤ n ∧ n ≤ 8
  a : 0 ≤ hd ∧ hd ≤ e ∧ e ≤ hd + n ∧ hd + n ≤ P ∧ P ≤ 64
  pw : ∀ q, 0 ≤ q → q < P → ¬ (hd ≤ q ∧ q < e) → w.get (1 + q) = rwPg kd cl q ∨ (w.get (1 + q) = 0 ∧ kd q = 1)
  own : ∀ q, hd ≤ q → q < e → kd q ≠ 0 ∧ w.get (1 + q) = if hd < q ∧ q < b then body hd else held 0
  early : ∀ h, 0 ≤ h → h < hd → ∃ q, h ≤ q ∧ q < h + n ∧ q < P ∧ kd q = 0
/-- Who it is. -/
def Ke (P n : Int) (t : Rn) : Prop := t.s = rsh P ∧ t.c = 0 ∧ t.n = n
/-- At the end. -/
structure Rf (P n : Int) (kd cl : Int → Int) (t : Rn) (w : Wd) : Prop where
  of : w.of (rsh P)
  early : ∀ h, 0 ≤ h → h < t.hd → ∃ q, h ≤ q ∧ q < h + n ∧ q < P ∧ kd q = 0
  lost : t.fd = false → P - n < t.hd ∧ ∀ q, 0 ≤ q → q < P → w.get (1 + q) = rwPg kd cl q ∨ (w.get (1 + q) = 0 ∧ kd q = 1)
  won : t.fd = true → Bs P n kd cl t.hd (t.hd + n) (t.hd + n) w
/-- Under way. -/
inductive Rw (P n : Int) (kd cl : Int → Int) (t : Rn) (w : Wd) : Prop
  | z (hd : t.dn = true) (h : Rf P n kd cl t w)
  | a (hd : t.dn = false) (hf : t.fd = false) (hn : t.nx = 0) (hp : t.hd ≤ t.at' ∧ t.at' < t.hd + n) (h : Bs P n kd cl t.hd t.at' t.hd w) (un : ∀ q, t.at' ≤ q → q < P → Unt P kd cl w q)
  | b (hd : t.dn = false) (hf : t.fd = false) (hn : t.nx = 1) (hp : t.hd ≤ t.at' ∧ t.at' < t.hd + n) (h : Bs P n kd cl t.hd t.at' t.hd w) (un : ∀ q, t.at' ≤ q → q < P → Unt P kd cl w q) (hk : kd t.at' ≠ 0 ∧ kd t.at' ≠ 1)
  | c (hd : t.dn = false) (hf : t.fd = false) (hn : t.nx = 2) (hp : t.hd ≤ t.at' ∧ t.at' < t.hd + n) (h : Bs P n kd cl t.hd t.at' t.hd w) (un : ∀ q, t.at' < q → q < P → Unt P kd cl w q) (hk : kd t.at' = 1) (q : St) (hq : t.st = some q) (e : q.s = rsh P ∧ q.c = 0 ∧ q.p = t.at' ∧ q.k = cl t.at' ∧ q.bk = false ∧ q.hd = false ∧ q.dn = false ∧ 0 ≤ q.i ∧ q.i ≤ slots (cl t.at')) (ho : ∀ j, q.i ≤ j → j < slots (cl t.at') → w.get (1 + P + t.at' * 16 + j) = opn (cl t.at'))
  | d (hd : t.dn = false) (hf : t.fd = false) (hn : t.nx = 3) (hp : t.hd ≤ t.at' ∧ t.at' < t.hd + n) (h : Bs P n kd cl t.hd (t.at' + 1) t.hd w) (un : ∀ q, t.at' < q → q < P → Unt P kd cl w q) (hi : 0 ≤ t.i ∧ t.i < 16)
  | e (hd : t.dn = false) (hf : t.fd = false) (hn : t.nx = 4) (hp : t.hd ≤ t.at' ∧ t.at' < t.hd + n) (h : Bs P n kd cl t.hd t.i t.hd w) (un : ∀ q, t.at' ≤ q → q < P → Unt P kd cl w q) (hk : kd t.at' = 0) (hi : t.hd < t.i ∧ t.i ≤ t.at')
  | f (hd : t.dn = false) (hf : t.fd = false) (hn : t.nx = 5) (h : Bs P n kd cl t.hd (t.hd + n) t.i w) (hi : t.hd < t.i ∧ t.i < t.hd + n)
variable {P n : Int} {kd cl : Int → Int} {t : Rn} {w w' : Wd}
theorem Bs.same {hd e b : Int} (h : Bs P n kd cl hd e b w) (ho : w'.of (rsh P)) (hg : ∀ q, 0 ≤ q → q < P → w'.get (1 + q) = w.get (1 + q)) : Bs P n kd cl hd e b w' := by
  obtain ⟨a1, a2, a3, a4, a5⟩ := h.a
  refine ⟨ho, h.ok, h.clb, h.tn, h.a, fun q h1 h2 h3 => ?_, fun q h1 h2 => ?_, h.early⟩
  · rw [hg q h1 h2]; exact h.pw q h1 h2 h3
  · rw [hg q (by omega) (by omega)]; exact h.own q h1 h2
theorem Bs.take {hd at' : Int} (h : Bs P n kd cl hd at' hd w) (hp : hd ≤ at' ∧ at' < hd + n) (hk : kd at' ≠ 0) (ho : w'.of (rsh P)) (hx : w'.get (1 + at') = held 0) (hg : ∀ q, 0 ≤ q → q < P → q ≠ at' → w'.get (1 + q) = w.get (1 + q)) : Bs P n kd cl hd (at' + 1) hd w' := by
  obtain ⟨a1, a2, a3, a4, a5⟩ := h.a
  refine ⟨ho, h.ok, h.clb, h.tn, by omega, fun q h1 h2 h3 => ?_, fun q h1 h2 => ?_, h.early⟩
  · rw [hg q h1 h2 (by omega)]; exact h.pw q h1 h2 (by omega)
  · by_cases he : q = at'
    · subst he; refine ⟨hk, ?_⟩; rw [if_neg (by omega)]; exact hx
    · rw [hg q (by omega) (by omega) he]; exact h.own q h1 (by omega)
theorem Bs.give {hd i : Int} (h : Bs P n kd cl hd i hd w) (hi : hd < i) (hu : ∀ q, kd q ≠ 0 → kd q ≠ 1 → rwPg kd cl q = 0) (ho : w'.of (rsh P)) (hx : w'.get (1 + (i - 1)) = 0) (hg : ∀ q, 0 ≤ q → q < P → q ≠ i - 1 → w'.get (1 + q) = w.get (1 + q)) : Bs P n kd cl hd (i - 1) hd w' := by
  obtain ⟨a1, a2, a3, a4, a5⟩ := h.a
  refine ⟨ho, h.ok, h.clb, h.tn, by omega, fun q h1 h2 h3 => ?_, fun q h1 h2 => ?_, h.early⟩
  · by_cases he : q = i - 1
    · subst he
      by_cases h1 : kd (i - 1) = 1
      · exact .inr ⟨hx, h1⟩
      · left; rw [hx, hu _ (h.own (i - 1) (by omega) (by omega)).1 h1]
    · rw [hg q h1 h2 he]; exact h.pw q h1 h2 (by omega)
  · rw [hg q (by omega) (by omega) (by omega)]; exact h.own q h1 (by omega)
theorem Bs.body {hd i : Int} (h : Bs P n kd cl hd (hd + n) i w) (hi : hd < i ∧ i < hd + n) (ho : w'.of (rsh P)) (hx : w'.get (1 + i) = Go.Ma.body hd) (hg : ∀ q, 0 ≤ q → q < P → q ≠ i → w'.get (1 + q) = w.get (1 + q)) : Bs P n kd cl hd (hd + n) (i + 1) w' := by
  obtain ⟨a1, a2, a3, a4, a5⟩ := h.a
  refine ⟨ho, h.ok, h.clb, h.tn, by omega, fun q h1 h2 h3 => ?_, fun q h1 h2 => ?_, h.early⟩
  · rw [hg q h1 h2 (by omega)]; exact h.pw q h1 h2 h3
  · have := h.own q h1 h2
    by_cases he : q = i
    · subst he; refine ⟨this.1, ?_⟩; rw [if_pos (by omega)]; exact hx
    · refine ⟨this.1, ?_⟩
      rw [hg q (by omega) (by omega) he, this.2]
      by_cases h3 : hd < q ∧ q < i
      · rw [if_pos h3, if_pos (by omega)]
      · rw [if_neg h3, if_neg (by omega)]
theorem Bs.won (h : Bs P n kd cl t.hd (t.hd + n) (t.hd + n) w) (hf : t.fd = true) : Rf P n kd cl t w :=
  ⟨h.of, h.early, fun hh => (by rw [hf] at hh; cases hh), fun _ => h⟩
theorem Bs.shrink {hd b c : Int} (h : Bs P n kd cl hd (hd + n) b w) (hc : ∀ q, hd < q → q < hd + n → (q < b ↔ q < c)) : Bs P n kd cl hd (hd + n) c w := by
  refine ⟨h.of, h.ok, h.clb, h.tn, h.a, h.pw, fun q h1 h2 => ?_, h.early⟩
  have := h.own q h1 h2
  refine ⟨this.1, this.2.trans ?_⟩
  by_cases h3 : hd < q
  · have := hc q h3 h2
    by_cases h4 : q < b
    · rw [if_pos ⟨h3, h4⟩, if_pos ⟨h3, this.1 h4⟩]
    · rw [if_neg (by omega), if_neg (by omega)]
  · rw [if_neg (by omega), if_neg (by omega)]
theorem Bs.owned {v : Rn} (h : Bs P n kd cl v.hd (v.at' + 1) v.hd w) (K : Ke P n v) (hd : v.dn = false) (hf : v.fd = false) (hp : v.hd ≤ v.at' ∧ v.at' < v.hd + n) (un : ∀ q, v.at' < q → q < P → Unt P kd cl w q) : Rw P n kd cl v.own w := by
  obtain ⟨k1, k2, k3⟩ := K
  have ht := h.tn
  unfold Rn.own
  split
  · rename_i he
    have he2 : v.at' + 1 = v.hd + n := by omega
    rw [he2] at h
    unfold written
    split
    · rename_i h1
      have h1 : v.hd + 1 = v.hd + v.n := h1
      exact .z rfl (Bs.won (t := { v with at' := v.at' + 1, nx := 5, i := v.hd + 1, fd := true, dn := true }) (h.shrink (fun q h2 h3 => by omega)) rfl)
    · rename_i h1
      have h1 : ¬ v.hd + 1 = v.hd + v.n := h1
      exact .f hd hf rfl (h.shrink (c := v.hd + 1) (fun q h2 h3 => by omega)) (by show v.hd < v.hd + 1 ∧ v.hd + 1 < v.hd + n; omega)
  · rename_i he
    exact .a hd hf rfl (by show v.hd ≤ v.at' + 1 ∧ v.at' + 1 < v.hd + n; omega) h (fun q h1 h2 => un q (by have h1 : v.at' + 1 ≤ q := h1; omega) h2)
theorem Bs.gone' {v : Rn} (h : Bs P n kd cl v.hd v.i v.hd w) (K : Ke P n v) (hd : v.dn = false) (hf : v.fd = false) (hn : v.nx = 4) (hp : v.hd ≤ v.at' ∧ v.at' < v.hd + n) (hi : v.hd ≤ v.i ∧ v.i ≤ v.at') (hk : kd v.at' = 0) (un : ∀ q, v.at' ≤ q → q < P → Unt P kd cl w q) : Rw P n kd cl v.gone w := by
  obtain ⟨k1, k2, k3⟩ := K
  obtain ⟨a1, a2, a3, a4, a5⟩ := h.a
  have ht := h.tn
  have e1 : v.s.p = P := by rw [k1]; rfl
  unfold Rn.gone
  split
  · rename_i hl
    exact .e hd hf hn hp h un hk ⟨hl, hi.2⟩
  · rename_i hl
    have pw : ∀ q, 0 ≤ q → q < P → w.get (1 + q) = rwPg kd cl q ∨ (w.get (1 + q) = 0 ∧ kd q = 1) := fun q h1 h2 => h.pw q h1 h2 (by omega)
    have er : ∀ x, 0 ≤ x → x < v.at' + 1 → ∃ q, x ≤ q ∧ q < x + n ∧ q < P ∧ kd q = 0 := fun x h1 h2 => by
      by_cases h3 : x < v.hd
      · exact h.early x h1 h3
      · exact ⟨v.at', by omega, by omega, by omega, hk⟩
    by_cases hl : v.s.p - v.n < v.at' + 1
    · refine .z (decide_eq_true hl) ⟨h.of, er, fun _ => ⟨by show P - n < v.at' + 1; omega, pw⟩, fun hh => ?_⟩
      have hh : v.fd = true := hh
      rw [hf] at hh; cases hh
    · refine .a (decide_eq_false hl) hf rfl (by show v.at' + 1 ≤ v.at' + 1 ∧ v.at' + 1 < v.at' + 1 + n; omega) ⟨h.of, h.ok, h.clb, h.tn, ?_, fun q h1 h2 _ => pw q h1 h2, fun q h1 h2 => ?_, er⟩ (fun q h1 h2 => un q (by have h1 : v.at' + 1 ≤ q := h1; omega) h2)
      · show 0 ≤ v.at' + 1 ∧ v.at' + 1 ≤ v.at' + 1 ∧ v.at' + 1 ≤ v.at' + 1 + n ∧ v.at' + 1 + n ≤ P ∧ P ≤ 64
        omega
      · have h1 : v.at' + 1 ≤ q := h1
        have h2 : q < v.at' + 1 := h2
        omega
theorem Bs.missed (h : Bs P n kd cl t.hd t.at' t.hd w) (K : Ke P n t) (hd : t.dn = false) (hf : t.fd = false) (hp : t.hd ≤ t.at' ∧ t.at' < t.hd + n) (hk : kd t.at' = 0) (un : ∀ q, t.at' ≤ q → q < P → Unt P kd cl w q) : Rw P n kd cl t.miss w :=
  Bs.gone' (v := { t with nx := 4, i := t.at', gx := t.at' + 1 }) h K hd hf rfl hp ⟨hp.1, Int.le_refl _⟩ hk un
theorem rw_0 {q : Int} (h1 : kd q ≠ 0) (h2 : kd q ≠ 1) : rwPg kd cl q = 0 := by unfold rwPg; rw [if_neg h1, if_neg h2]
theorem rw_full {q : Int} (h1 : kd q = 0) : rwPg kd cl q = 19 := by unfold rwPg; rw [if_pos h1]; decide
theorem rw_sup {q : Int} (h1 : kd q = 1) (hc : 0 ≤ cl q ∧ cl q ≤ 3) : rwPg kd cl q = 2 + 16 * cl q := by
  unfold rwPg super putPg; rw [if_neg (by omega), if_pos h1, if_pos (by omega)]; omega
theorem okPg_sup {q k : Int} (hm : may P 1 0 = true) (hq : 0 ≤ q ∧ q < P) (hk : 0 ≤ k ∧ k ≤ 3) : okPg (rsh P) q (2 + 16 * k) = true ∧ pgK (rsh P) q (2 + 16 * k) = 2 ∧ pgA (rsh P) q (2 + 16 * k) = k := by
  have hp : page (rsh P).p (rsh P).c (rsh P).m q = 1 + q := page_yes hm hq.1 hq.2
  have h0 : okPg (rsh P) q (2 + 16 * k) = true := by
    unfold okPg
    rw [decide_eq_true (by omega : 0 ≤ page (rsh P).p (rsh P).c (rsh P).m q)]
    rcases (by omega : k = 0 ∨ k = 1 ∨ k = 2 ∨ k = 3) with rfl | rfl | rfl | rfl <;> rfl
  refine ⟨h0, ?_, ?_⟩
  · unfold pgK; rw [if_pos h0]; omega
  · unfold pgA; rw [if_pos h0]; unfold pt; omega
theorem Unt.same {q : Int} (h : Unt P kd cl w q) (hg : w'.get (1 + q) = w.get (1 + q)) (hs : ∀ j, 0 ≤ j → j < 16 → w'.get (1 + P + q * 16 + j) = w.get (1 + P + q * 16 + j)) : Unt P kd cl w' q := by
  refine ⟨hg.trans h.1, fun hk j h1 h2 => ?_⟩
  have := slots_bd (cl q)
  rw [hs j h1 (by omega)]; exact h.2 hk j h1 h2
theorem Rw.step (h : Rw P n kd cl t w) (K : Ke P n t) : Rw P n kd cl (t.step w).1 (t.step w).2 := by
  obtain ⟨k1, k2, k3⟩ := K
  have e1 : t.s.p = P := by rw [k1]; rfl
  have e2 : t.s.c = 1 := by rw [k1]; rfl
  cases h with
  | z hd h => rw [step_dn hd]; exact .z hd h
  | a hd hf hn hp h un =>
    obtain ⟨a1, a2, a3, a4, a5⟩ := h.a
    have e : t.step w = (t.look (w.get t.pat), w.load t.c t.pat) := by unfold Rn.step; rw [if_neg (by rw [hd]; decide), if_pos hn]
    have hm : may t.s.p t.s.c t.s.m = true := by rw [k1]; exact h.ok
    have hpt : t.pat = 1 + t.at' := by show page t.s.p t.s.c t.s.m t.at' = _; rw [page_yes hm (by omega) (by omega), e2]
    have hl : Bs P n kd cl t.hd t.at' t.hd (w.load t.c t.pat) := h.same (Wd.of_load h.of _ _) (fun q _ _ => rfl)
    have ul : ∀ q, t.at' ≤ q → q < P → Unt P kd cl (w.load t.c t.pat) q := fun q h1 h2 => (un q h1 h2).same rfl (fun _ _ _ => rfl)
    have hx : w.get t.pat = rwPg kd cl t.at' := by rw [hpt]; exact (un _ (Int.le_refl _) (by omega)).1
    have hE := fun x => (isE_iff (s := t.s) (q := t.at') (x := x) hm ⟨by omega, by omega⟩)
    rw [e, hx]
    show Rw P n kd cl (t.look (rwPg kd cl t.at')) (w.load t.c t.pat)
    unfold look
    by_cases h0 : kd t.at' = 0
    · rw [rw_full h0, if_neg (fun hh => by have := (hE _).1 hh; omega), if_neg (fun hh => by have := isS_mod hh; omega)]
      exact hl.missed ⟨k1, k2, k3⟩ hd hf hp h0 ul
    · by_cases h1 : kd t.at' = 1
      · have hc := h.clb t.at'
        obtain ⟨s1, s2, s3⟩ := okPg_sup (P := P) (q := t.at') (k := cl t.at') h.ok ⟨by omega, by omega⟩ hc
        rw [rw_sup h1 hc, if_neg (fun hh => by have := (hE _).1 hh; omega), if_pos (by unfold isS; rw [k1, s1, s2]; rfl)]
        have hsn : t.snew (2 + 16 * cl t.at') = St.new (rsh P) 0 t.at' (cl t.at') := by unfold snew; rw [k1, k2, s3]
        have hdn : (t.snew (2 + 16 * cl t.at')).dn = false := snew_dn hm ⟨by omega, by omega⟩ ⟨by omega, by omega⟩ (by unfold isS; rw [k1, s1, s2]; rfl)
        rw [hsn] at hdn ⊢
        exact .c hd hf rfl hp hl (fun q h2 h3 => ul q (Int.le_of_lt h2) h3) h1 _ rfl ⟨rfl, rfl, rfl, rfl, rfl, rfl, hdn, Int.le_refl _, (slots_bd _).1⟩ (fun j h2 h3 => (ul t.at' (Int.le_refl _) (by omega)).2 h1 j h2 h3)
      · rw [rw_0 h0 h1, if_pos (show t.isE 0 = true from (hE 0).2 rfl)]
        exact .b hd hf rfl hp hl ul ⟨h0, h1⟩
  | b hd hf hn hp h un hk =>
    obtain ⟨a1, a2, a3, a4, a5⟩ := h.a
    have e : t.step w = (t.claim (w.get t.pat), w.swap t.c t.pat 0 (held t.c)) := by unfold Rn.step; rw [if_neg (by rw [hd]; decide), if_neg (by omega), if_pos hn]
    have hm : may t.s.p t.s.c t.s.m = true := by rw [k1]; exact h.ok
    have hpt : t.pat = 1 + t.at' := by show page t.s.p t.s.c t.s.m t.at' = _; rw [page_yes hm (by omega) (by omega), e2]
    have hx : w.get t.pat = 0 := by rw [hpt, (un _ (Int.le_refl _) (by omega)).1]; exact rw_0 hk.1 hk.2
    have hg : ∀ a, 0 ≤ a → a ≠ t.pat → (w.swap t.c t.pat 0 (held t.c)).get a = w.get a := fun a h1 h2 => by rw [get_swap (by omega) h1, if_neg h2]
    rw [e, hx]
    show Rw P n kd cl (t.claim 0) (w.swap t.c t.pat 0 (held t.c))
    unfold claim
    rw [if_pos rfl]
    refine (h.take hp hk.1 (Wd.of_swap h.of (U_held _) _ _ _) ?_ (fun q h1 h2 h3 => hg _ (by omega) (by omega))).owned ⟨k1, k2, k3⟩ hd hf hp (fun q h1 h2 => (un q (by omega) h2).same (hg _ (by omega) (by omega)) (fun j h3 h4 => hg _ (by omega) (by omega)))
    rw [← hpt, get_swap (by omega) (by omega), if_pos rfl, if_pos hx, k2]
  | c hd hf hn hp h un hk q hq e ho =>
    obtain ⟨a1, a2, a3, a4, a5⟩ := h.a
    obtain ⟨q1, q2, q3, q4, q5, q6, q7, q8, q9⟩ := e
    have es : t.step w = (t.outs (q.step w).1, (q.step w).2) := by unfold Rn.step; rw [if_neg (by rw [hd]; decide), if_neg (by omega), if_neg (by omega), if_pos hn, hq]
    have hm : may q.s.p q.s.c q.s.m = true := by rw [q1]; exact h.ok
    have f1 : q.s.p = P := by rw [q1]; rfl
    have f2 : q.s.c = 1 := by rw [q1]; rfl
    have hs := slots_bd (cl t.at')
    rw [es]
    show Rw P n kd cl (t.outs (q.step w).1) (q.step w).2
    rcases St.step_cases q w with ⟨hd', -⟩ | ⟨-, ⟨hb, -⟩ | ⟨hb, hi, e⟩ | ⟨hb, hi, -, e⟩ | ⟨hb, hi, hz, e⟩⟩
    · rw [q7] at hd'; cases hd'
    · rw [q5] at hb; cases hb
    · rw [e]
      have hpt : q.pat = 1 + t.at' := by show page q.s.p q.s.c q.s.m q.p = _; rw [page_yes hm (by omega) (by omega), f2, q3]
      have hg : ∀ a, 0 ≤ a → a ≠ q.pat → (w.store q.c q.pat (held q.c)).get a = w.get a := fun a h1 h2 => by rw [get_store (by omega) h1, if_neg h2]
      show Rw P n kd cl (t.outs { q with hd := true, dn := true }) (w.store q.c q.pat (held q.c))
      unfold outs
      rw [if_pos rfl]
      refine .d hd hf rfl hp (h.take hp (by omega) (Wd.of_store h.of (U_held _) _ _) ?_ (fun q h1 h2 h3 => hg _ (by omega) (by omega))) (fun q h1 h2 => (un q h1 h2).same (hg _ (by have h1 : t.at' < q := h1; omega) (by have h1 : t.at' < q := h1; omega)) (fun j h3 h4 => hg _ (by have h1 : t.at' < q := h1; omega) (by have h1 : t.at' < q := h1; omega))) ⟨Int.le_refl _, by show (0 : Int) < 16; decide⟩
      rw [← hpt, get_store (by omega) (by omega), if_pos rfl, q2]
    · rw [e]
      have hat : q.at' q.i = 1 + P + t.at' * 16 + q.i := by show slot q.s.p q.s.c q.s.m q.p q.i = _; rw [slot_yes hm (by omega) (by omega) (by omega) (by rw [q4] at hi; omega), f1, f2, q3]
      have hg : ∀ a, 0 ≤ a → a ≠ q.at' q.i → (w.swap q.c (q.at' q.i) (opn q.k) (way q.c)).get a = w.get a := fun a h1 h2 => by rw [get_swap (by omega) h1, if_neg h2]
      rw [q4] at hi
      show Rw P n kd cl (t.outs { q with i := q.i + 1 }) (w.swap q.c (q.at' q.i) (opn q.k) (way q.c))
      unfold outs
      rw [if_neg (by show ¬ q.hd = true; rw [q6]; decide), if_neg (by show ¬ q.dn = true; rw [q7]; decide)]
      exact .c hd hf hn hp (h.same (Wd.of_swap h.of (U_way _) _ _ _) (fun q h1 h2 => hg _ (by omega) (by omega))) (fun q' h1 h2 => (un q' h1 h2).same (hg _ (by have h1 : t.at' < q' := h1; omega) (by have h1 : t.at' < q' := h1; omega)) (fun j h3 h4 => hg _ (by have h1 : t.at' < q' := h1; omega) (by have h1 : t.at' < q' := h1; omega))) hk _ rfl ⟨q1, q2, q3, q4, q5, q6, q7, by show 0 ≤ q.i + 1; omega, by show q.i + 1 ≤ slots (cl t.at'); omega⟩ (fun j h1 h2 => by
        have h1 : q.i + 1 ≤ j := h1
        have h2 : j < slots (cl t.at') := h2
        show (w.swap q.c (q.at' q.i) (opn q.k) (way q.c)).get (1 + P + t.at' * 16 + j) = opn (cl t.at')
        rw [hg _ (by omega) (by omega)]
        exact ho j (by omega) h2)
    · exfalso
      have hat : q.at' q.i = 1 + P + t.at' * 16 + q.i := by show slot q.s.p q.s.c q.s.m q.p q.i = _; rw [slot_yes hm (by omega) (by omega) (by omega) (by rw [q4] at hi; omega), f1, f2, q3]
      rw [q4] at hi
      exact hz (by rw [hat, q4]; exact ho q.i (Int.le_refl _) (by omega))
  | d hd hf hn hp h un hi =>
    obtain ⟨a1, a2, a3, a4, a5⟩ := h.a
    have e : t.step w = (t.clear, w.store t.c t.sat 0) := by unfold Rn.step; rw [if_neg (by rw [hd]; decide), if_neg (by omega), if_neg (by omega), if_neg (by omega), if_pos hn]
    have hm : may t.s.p t.s.c t.s.m = true := by rw [k1]; exact h.ok
    have hat : t.sat = 1 + P + t.at' * 16 + t.i := by show slot t.s.p t.s.c t.s.m t.at' t.i = _; rw [slot_yes hm (by omega) (by omega) (by omega) (by omega), e1, e2]
    have hg : ∀ a, 0 ≤ a → a ≠ t.sat → (w.store t.c t.sat 0).get a = w.get a := fun a h1 h2 => by rw [get_store (by omega) h1, if_neg h2]
    have hB : Bs P n kd cl t.hd (t.at' + 1) t.hd (w.store t.c t.sat 0) := h.same (Wd.of_store h.of U_0 _ _) (fun q h1 h2 => hg _ (by omega) (by omega))
    have hU : ∀ q, t.at' < q → q < P → Unt P kd cl (w.store t.c t.sat 0) q := fun q h1 h2 => (un q h1 h2).same (hg _ (by omega) (by omega)) (fun j h3 h4 => hg _ (by omega) (by omega))
    rw [e]
    show Rw P n kd cl t.clear (w.store t.c t.sat 0)
    unfold clear
    split
    · exact Bs.owned (v := { t with i := t.i + 1 }) hB ⟨k1, k2, k3⟩ hd hf hp hU
    · exact .d hd hf hn hp hB hU (by show 0 ≤ t.i + 1 ∧ t.i + 1 < 16; omega)
  | e hd hf hn hp h un hk hi =>
    obtain ⟨a1, a2, a3, a4, a5⟩ := h.a
    have e : t.step w = ({ t with i := t.i - 1 }.gone, w.store t.c t.bat 0) := by unfold Rn.step; rw [if_neg (by rw [hd]; decide), if_neg (by omega), if_neg (by omega), if_neg (by omega), if_neg (by omega), if_pos hn]
    have hm : may t.s.p t.s.c t.s.m = true := by rw [k1]; exact h.ok
    have hat : t.bat = 1 + (t.i - 1) := by show page t.s.p t.s.c t.s.m (t.i - 1) = _; rw [page_yes hm (by omega) (by omega), e2]
    have hg : ∀ a, 0 ≤ a → a ≠ t.bat → (w.store t.c t.bat 0).get a = w.get a := fun a h1 h2 => by rw [get_store (by omega) h1, if_neg h2]
    rw [e]
    show Rw P n kd cl ({ t with i := t.i - 1 } : Rn).gone (w.store t.c t.bat 0)
    refine Bs.gone' (v := { t with i := t.i - 1 }) (h.give hi.1 (fun q => rw_0) (Wd.of_store h.of U_0 _ _) ?_ (fun q h1 h2 h3 => hg _ (by omega) (by omega))) ⟨k1, k2, k3⟩ hd hf hn hp (by show t.hd ≤ t.i - 1 ∧ t.i - 1 ≤ t.at'; omega) hk (fun q h1 h2 => (un q h1 h2).same (hg _ (by have h1 : t.at' ≤ q := h1; omega) (by have h1 : t.at' ≤ q := h1; omega)) (fun j h3 h4 => hg _ (by have h1 : t.at' ≤ q := h1; omega) (by have h1 : t.at' ≤ q := h1; omega)))
    rw [← hat, get_store (by omega) (by omega), if_pos rfl]
  | f hd hf hn h hi =>
    obtain ⟨a1, a2, a3, a4, a5⟩ := h.a
    have e : t.step w = (t.written, w.store t.c t.iat (putPg 4 t.hd 0)) := by unfold Rn.step; rw [if_neg (by rw [hd]; decide), if_neg (by omega), if_neg (by omega), if_neg (by omega), if_neg (by omega), if_neg (by omega)]
    have hm : may t.s.p t.s.c t.s.m = true := by rw [k1]; exact h.ok
    have hat : t.iat = 1 + t.i := by show page t.s.p t.s.c t.s.m t.i = _; rw [page_yes hm (by omega) (by omega), e2]
    have hg : ∀ a, 0 ≤ a → a ≠ t.iat → (w.store t.c t.iat (putPg 4 t.hd 0)).get a = w.get a := fun a h1 h2 => by rw [get_store (by omega) h1, if_neg h2]
    have hB : Bs P n kd cl t.hd (t.hd + n) (t.i + 1) (w.store t.c t.iat (putPg 4 t.hd 0)) := h.body hi (Wd.of_store h.of (U_putPg ..) _ _) (by rw [← hat, get_store (by omega) (by omega), if_pos rfl]; rfl) (fun q h1 h2 h3 => hg _ (by omega) (by omega))
    rw [e]
    show Rw P n kd cl t.written (w.store t.c t.iat (putPg 4 t.hd 0))
    unfold written
    split
    · rename_i h1
      refine .z rfl (Bs.won (t := { t with i := t.i + 1, fd := true, dn := true }) ?_ rfl)
      have : t.i + 1 = t.hd + n := by omega
      rw [this] at hB; exact hB
    · rename_i h1
      exact .f hd hf hn hB (by show t.hd < t.i + 1 ∧ t.i + 1 < t.hd + n; omega)
theorem Rw.init (hm : may P 1 0 = true) (ho : w.of (rsh P)) (hc : ∀ q, 0 ≤ cl q ∧ cl q ≤ 3) (hn : 1 ≤ n ∧ n ≤ 8) (hu : ∀ q, 0 ≤ q → q < P → Unt P kd cl w q) : Rw P n kd cl (new (rsh P) 0 n) w := by
  have hb := (may_iff _ _ _).1 hm
  have hst : ¬ status P 1 0 0 < 0 := by rw [status_lt0]; exact fun h => h ⟨hm, by decide, by decide⟩
  have hok : ok (rsh P) 0 n = decide (n ≤ P) := by
    unfold ok
    show (decide (0 ≤ status P 1 0 0) && (decide (1 ≤ n) && (decide (n ≤ 8) && decide (n ≤ P)))) = _
    rw [decide_eq_true (by omega : 0 ≤ status P 1 0 0), decide_eq_true hn.1, decide_eq_true hn.2]; rfl
  by_cases hl : n ≤ P
  · refine .a (by show (!ok (rsh P) 0 n) = false; rw [hok, decide_eq_true hl]; rfl) rfl rfl ⟨Int.le_refl _, by show (0 : Int) < 0 + n; omega⟩ ⟨ho, hm, hc, hn, ?_, fun q h1 h2 _ => .inl (hu q h1 h2).1, fun q h1 h2 => ?_, fun x h1 h2 => ?_⟩ (fun q h1 h2 => hu q h1 h2)
    · show (0 : Int) ≤ 0 ∧ (0 : Int) ≤ 0 ∧ (0 : Int) ≤ 0 + n ∧ 0 + n ≤ P ∧ P ≤ 64; omega
    · have h1 : 0 ≤ q := h1
      have h2 : q < 0 := h2
      omega
    · have h2 : x < 0 := h2
      omega
  · refine .z (by show (!ok (rsh P) 0 n) = true; rw [hok, decide_eq_false hl]; rfl) ⟨ho, fun x h1 h2 => ?_, fun _ => ⟨by show P - n < 0; omega, fun q h1 h2 => .inl (hu q h1 h2).1⟩, fun hh => (by cases hh)⟩
    have h2 : x < 0 := h2
    omega
end Rn
end Go.Ma
