/-
  Claimers of pages one behind the other, plain. Conditions: none.
-/
import Derived.Test.YtfapipblclikbaaMaAlone
set_option linter.unusedVariables false
namespace Go.Ma
open Go.Pl

theorem mod_one {f i j p : Int} (h0 : 0 ≤ i) (h1 : i < p) (h2 : 0 ≤ j) (h3 : j < p) (h : (f + i) % p = (f + j) % p) : i = j := by
  have h := Int.emod_eq_emod_iff_emod_sub_eq_zero.1 h
  have e : f + i - (f + j) = i - j := by omega
  rw [e] at h
  rcases Int.le_total j i with hl | hl
  · rw [Int.emod_eq_of_lt (by omega) (by omega)] at h; omega
  · have h' : (j - i) % p = 0 := by
      have := Int.emod_eq_emod_iff_emod_sub_eq_zero.1 (show (0 : Int) % p = (i - j) % p by rw [h]; exact Int.zero_emod _)
      rwa [show (0 : Int) - (i - j) = j - i by omega] at this
    rw [Int.emod_eq_of_lt (by omega) (by omega)] at h'; omega
theorem mod_back {x p : Int} : (x - x % p) % p = 0 := by
  rw [Int.emod_def x p, show x - (x - p * (x / p)) = p * (x / p) by omega]; exact Int.mul_emod_right ..
theorem mod_shift (f f1 j p : Int) : ((f + j) % p - f1) % p = ((f - f1) % p + j) % p := by
  rw [Int.sub_eq_add_neg, Int.emod_add_emod, Int.emod_add_emod]; congr 1; omega

/-- i pages from f on are held by client 0, all others are empty. -/
def Turned (s : Sh) (f i : Int) (w : Wd) : Prop := ∀ j, 0 ≤ j → j < s.p → w.get (page s.p s.c s.m ((f + j) % s.p)) = if j < i then held 0 else 0
namespace Turned
variable {s : Sh} {f f1 i n : Int} {t : Pc} {w w' : Wd}
theorem h0 : held 0 ≠ 0 := by decide
theorem next (h : Turned s f i w) (hA : Pc.Al s 0 f w t w') (hd : t.dn = true) (hm : may s.p s.c s.m = true) (i0 : 0 ≤ i) (i1 : i < s.p) : t.fd = true ∧ Turned s f (i + 1) w' := by
  have hp := (may_iff _ _ _).1 hm
  have md := fun a => mod_bd (a := a) (p := s.p) (by omega)
  have hF : Pc.First s f w 0 ((f + i) % s.p) := .inr ⟨i, i0, i1, rfl, by rw [h i i0 i1, if_neg (by omega)], fun j' a b => by rw [h j' a (by omega), if_pos b]; exact h0⟩
  obtain ⟨g1, g2⟩ := hA.first hd (by omega) hF
  have hfd : t.fd = true := by rw [g1]; exact decide_eq_true (md _).1
  have hpg := g2 hfd
  have hat : t.at' = page s.p s.c s.m ((f + i) % s.p) := by unfold Pc.at'; rw [hpg, hA.hs]
  refine ⟨hfd, fun j j0 j1 => ?_⟩
  have hy := (hA.yes hfd).2 (page s.p s.c s.m ((f + j) % s.p)).toNat
  show w'.ws _ = _
  rw [hy, hat, page_yes hm (md _).1 (md _).2, page_yes hm (md _).1 (md _).2]
  have mi := md (f + i)
  have mj := md (f + j)
  by_cases e : j = i
  · subst e; rw [if_pos rfl, if_pos (by omega)]
  · have hne : (f + j) % s.p ≠ (f + i) % s.p := fun h => e (mod_one j0 j1 i0 i1 h)
    rw [if_neg (by omega)]
    have := h j j0 j1
    rw [page_yes hm (md _).1 (md _).2] at this
    show w.get _ = _
    rw [this]
    by_cases hj : j < i
    · rw [if_pos hj, if_pos (by omega)]
    · rw [if_neg hj, if_neg (by omega)]
theorem at' (h : Turned s f i w) (hp : 0 < s.p) {q : Int} (q0 : 0 ≤ q) (q1 : q < s.p) : w.get (page s.p s.c s.m q) = if (q - f) % s.p < i then held 0 else 0 := by
  have := h ((q - f) % s.p) (mod_bd hp).1 (mod_bd hp).2
  rw [Int.add_emod_emod, show f + (q - f) = q by omega, Int.emod_eq_of_lt q0 q1] at this
  exact this
theorem last (h : Turned s f1 n w) (hA : Pc.Al s 1 f w t w') (hd : t.dn = true) (hm : may s.p s.c s.m = true) (n0 : 0 ≤ n) (n1 : n ≤ s.p) (f0 : 0 ≤ f) (f2 : f < s.p) :
    t.fd = decide (n < s.p) ∧ (t.fd = true → t.pg = if (f - f1) % s.p < n then (f1 + n) % s.p else f) := by
  have hp := (may_iff _ _ _).1 hm
  have hp0 : 0 < s.p := by omega
  have md := fun a => mod_bd (a := a) (p := s.p) hp0
  have hat : ∀ j, w.get (page s.p s.c s.m ((f + j) % s.p)) = if ((f - f1) % s.p + j) % s.p < n then held 0 else 0 := fun j => by
    rw [h.at' hp0 (md _).1 (md _).2, mod_shift]
  have mo := md (f - f1)
  by_cases hn : n < s.p
  · by_cases ho : (f - f1) % s.p < n
    · have e1 : (f1 + n) % s.p = (f + (n - (f - f1) % s.p)) % s.p := by
        refine Int.emod_eq_emod_iff_emod_sub_eq_zero.2 ?_
        have := mod_back (x := f - f1) (p := s.p)
        have h2 := Int.emod_eq_emod_iff_emod_sub_eq_zero.1 (show (0 : Int) % s.p = ((f - f1) - (f - f1) % s.p) % s.p by rw [this]; exact Int.zero_emod _)
        rw [show f1 + n - (f + (n - (f - f1) % s.p)) = 0 - ((f - f1) - (f - f1) % s.p) by omega]; exact h2
      have hF : Pc.First s f w 0 ((f1 + n) % s.p) := .inr ⟨n - (f - f1) % s.p, by omega, by omega, e1, by
        rw [e1, hat, show (f - f1) % s.p + (n - (f - f1) % s.p) = n by omega, Int.emod_eq_of_lt n0 hn, if_neg (by omega)], fun j' a b => by
        rw [hat, Int.emod_eq_of_lt (by omega) (by omega), if_pos (by omega)]; exact h0⟩
      obtain ⟨g1, g2⟩ := hA.first hd hp0 hF
      refine ⟨?_, fun hf => ?_⟩
      · rw [g1, decide_eq_true hn]; exact decide_eq_true (md _).1
      · rw [if_pos ho]; exact g2 hf
    · have hF : Pc.First s f w 0 ((f + 0) % s.p) := .inr ⟨0, Int.le_refl _, hp0, rfl, by
        rw [hat, Int.add_zero, Int.emod_emod_of_dvd _ (Int.dvd_refl _), if_neg ho], fun j' a b => by omega⟩
      obtain ⟨g1, g2⟩ := hA.first hd hp0 hF
      refine ⟨?_, fun hf => ?_⟩
      · rw [g1, decide_eq_true hn]; exact decide_eq_true (md _).1
      · rw [if_neg ho, g2 hf, Int.add_zero, Int.emod_eq_of_lt f0 f2]
  · have hF : Pc.First s f w 0 (-1) := .inl ⟨rfl, fun j j0 j1 => by rw [hat, if_pos (by have := md ((f - f1) % s.p + j); omega)]; exact h0⟩
    obtain ⟨g1, g2⟩ := hA.first hd hp0 hF
    refine ⟨?_, fun hf => ?_⟩
    · rw [g1, decide_eq_false hn]; decide
    · rw [g1] at hf; cases hf
end Turned

/-- A claimer's numbers are small. -/
def Pc.Bd (t : Pc) : Prop := 0 < t.s.p ∧ 0 ≤ t.f ∧ t.f ≤ 1000 ∧ 0 ≤ t.many ∧ t.many ≤ 1000
theorem Pc.Bd.new {s : Sh} {c f : Int} (h : 0 < s.p) (h0 : 0 ≤ f) (h1 : f ≤ 1000) : (Pc.new s c f).Bd := ⟨h, h0, h1, Int.le_refl _, by show (0 : Int) ≤ 1000; omega⟩
theorem Pc.Bd.step {t : Pc} {w : Wd} (h : t.Bd) (hw : t.wf) : (t.step w).1.Bd := by
  obtain ⟨a1, a2, a3, a4, a5⟩ := h
  rcases Pc.step_cases t w with ⟨-, e⟩ | ⟨hd, hcs⟩
  · rw [e]; exact ⟨a1, a2, a3, a4, a5⟩
  have b := hw.of hd
  have := (may_iff _ _ _).1 b.1
  rcases hcs with ⟨-, -, e⟩ | ⟨-, -, e⟩ | ⟨-, -, e⟩ | ⟨-, -, e⟩ <;> rw [e]
  · exact ⟨a1, a2, a3, a4, a5⟩
  · exact ⟨a1, a2, a3, by show 0 ≤ t.many + 1; omega, by show t.many + 1 ≤ _; omega⟩
  · exact ⟨a1, a2, a3, a4, a5⟩
  · exact ⟨a1, a2, a3, by show 0 ≤ t.many + 1; omega, by show t.many + 1 ≤ _; omega⟩
theorem Pc.Bd.fd {t : Pc} (h : t.Bd) : 0 < t.s.p ∧ 0 ≤ t.f + t.many ∧ t.f + t.many ≤ 9223372036854775807 := by obtain ⟨a1, a2, a3, a4, a5⟩ := h; omega
end Go.Ma
