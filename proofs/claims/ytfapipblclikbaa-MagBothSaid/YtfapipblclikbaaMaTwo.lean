/-
  A taker and a putter, each in its own magazine, plain: neither sees what the other one does. Conditions: none.
-/
import Derived.Test.YtfapipblclikbaaMaIts
import Derived.Test.YtfapipblclikbaaMaMany
set_option linter.unusedVariables false
namespace Go.Ma
open Go.Pl

/-- Two ends of a run are one. -/
theorem its_fix {T : Type} {st : T → Wd → T × Wd} {dn : T → Bool} (hst : ∀ t w, dn t = true → st t w = (t, w)) {t : T} {w : Wd} {i j : Nat} (hi : dn (its st i t w).1 = true) (hj : dn (its st j t w).1 = true) : its st i t w = its st j t w := by
  have key : ∀ (a d : Nat), dn (its st a t w).1 = true → its st (a + d) t w = its st a t w := fun a d ha => by
    induction d with
    | zero => rfl
    | succ d ih =>
      show st (its st (a + d) t w).1 (its st (a + d) t w).2 = _
      rw [ih, hst _ _ ha]
  rcases Nat.le_total i j with h | h
  · obtain ⟨d, rfl⟩ := Nat.exists_eq_add_of_le h; exact (key i d hi).symm
  · obtain ⟨d, rfl⟩ := Nat.exists_eq_add_of_le h; exact key j d hj

/-- The words of one magazine are alike. -/
def SameMag (s : Sh) (c : Int) (w w' : Wd) : Prop := ∀ q, 0 ≤ q → q < s.m → w.get (mag s.p s.c s.m c q) = w'.get (mag s.p s.c s.m c q)
namespace Tk
variable {t : Tk} {w w' : Wd}
theorem step_near (h : t.wf) (hs : SameMag t.s t.c w w') : (t.step w).1 = (t.step w').1 ∧ SameMag t.s t.c (t.step w).2 (t.step w').2 := by
  cases hd : t.dn
  · obtain ⟨a1, a2, a3, a4, a5⟩ := h.of hd
    have e : w.get t.at' = w'.get t.at' := hs t.i a4 a5
    have hh : t.hits w = t.hits w' := by unfold hits; rw [e]
    have hat : 0 ≤ t.at' := by
      unfold at'; rw [mag_yes a1 a2 a3 a4 a5]
      obtain ⟨b1, b2, b3, b4, b5, b6⟩ := (may_iff _ _ _).1 a1
      have := Int.mul_nonneg a2 b5
      omega
    have hm : ∀ q, 0 ≤ q → q < t.s.m → 0 ≤ mag t.s.p t.s.c t.s.m t.c q := fun q q0 q1 => by
      rw [mag_yes a1 a2 a3 q0 q1]
      obtain ⟨b1, b2, b3, b4, b5, b6⟩ := (may_iff _ _ _).1 a1
      have := Int.mul_nonneg a2 b5
      omega
    unfold step
    rw [hd, hh, e]
    cases t.hit
    · cases t.hits w'
      · exact ⟨rfl, fun q q0 q1 => hs q q0 q1⟩
      · exact ⟨rfl, fun q q0 q1 => hs q q0 q1⟩
    · refine ⟨rfl, fun q q0 q1 => ?_⟩
      show (w.store _ _ _).get _ = (w'.store _ _ _).get _
      rw [get_store hat (hm q q0 q1), get_store hat (hm q q0 q1), hs q q0 q1]
  · rw [step_dn hd, step_dn hd]; exact ⟨rfl, hs⟩
theorem step_far (h : t.wf) {a : Int} (ha : 0 ≤ a) (hne : ∀ q, 0 ≤ q → q < t.s.m → a ≠ mag t.s.p t.s.c t.s.m t.c q) : (t.step w).2.get a = w.get a := by
  rcases step_cases t w with ⟨-, e⟩ | ⟨hd, ⟨-, e⟩ | ⟨-, -, e⟩ | ⟨-, -, e⟩⟩ <;> rw [e]
  · obtain ⟨a1, a2, a3, a4, a5⟩ := h.of hd
    have hat : 0 ≤ t.at' := by
      unfold at'; rw [mag_yes a1 a2 a3 a4 a5]
      obtain ⟨b1, b2, b3, b4, b5, b6⟩ := (may_iff _ _ _).1 a1
      have := Int.mul_nonneg a2 b5
      omega
    show (w.store _ _ _).get _ = _
    rw [get_store hat ha, if_neg (show a ≠ t.at' from hne t.i a4 a5)]
  · rfl
  · rfl
end Tk
namespace Pu
variable {t : Pu} {w w' : Wd}
theorem step_near (h : t.wf) (hs : SameMag t.s t.c w w') : (t.step w).1 = (t.step w').1 ∧ SameMag t.s t.c (t.step w).2 (t.step w').2 := by
  cases hd : t.dn
  · obtain ⟨a1, a2, a3, a4, a5⟩ := h.of hd
    have e : w.get t.at' = w'.get t.at' := hs t.i a4 a5
    have hat : 0 ≤ t.at' := by
      unfold at'; rw [mag_yes a1 a2 a3 a4 a5]
      obtain ⟨b1, b2, b3, b4, b5, b6⟩ := (may_iff _ _ _).1 a1
      have := Int.mul_nonneg a2 b5
      omega
    have hm : ∀ q, 0 ≤ q → q < t.s.m → 0 ≤ mag t.s.p t.s.c t.s.m t.c q := fun q q0 q1 => by
      rw [mag_yes a1 a2 a3 q0 q1]
      obtain ⟨b1, b2, b3, b4, b5, b6⟩ := (may_iff _ _ _).1 a1
      have := Int.mul_nonneg a2 b5
      omega
    unfold step
    rw [hd, e]
    cases t.hit
    · by_cases hz : w'.get t.at' = 0
      · rw [if_pos hz, if_pos hz]; exact ⟨rfl, fun q q0 q1 => hs q q0 q1⟩
      · rw [if_neg hz, if_neg hz]; exact ⟨rfl, fun q q0 q1 => hs q q0 q1⟩
    · refine ⟨rfl, fun q q0 q1 => ?_⟩
      show (w.store _ _ _).get _ = (w'.store _ _ _).get _
      rw [get_store hat (hm q q0 q1), get_store hat (hm q q0 q1), hs q q0 q1]
  · rw [step_dn hd, step_dn hd]; exact ⟨rfl, hs⟩
theorem step_far (h : t.wf) {a : Int} (ha : 0 ≤ a) (hne : ∀ q, 0 ≤ q → q < t.s.m → a ≠ mag t.s.p t.s.c t.s.m t.c q) : (t.step w).2.get a = w.get a := by
  rcases step_cases t w with ⟨-, e⟩ | ⟨hd, ⟨-, e⟩ | ⟨-, -, e⟩ | ⟨-, -, e⟩⟩ <;> rw [e]
  · obtain ⟨a1, a2, a3, a4, a5⟩ := h.of hd
    have hat : 0 ≤ t.at' := by
      unfold at'; rw [mag_yes a1 a2 a3 a4 a5]
      obtain ⟨b1, b2, b3, b4, b5, b6⟩ := (may_iff _ _ _).1 a1
      have := Int.mul_nonneg a2 b5
      omega
    show (w.store _ _ _).get _ = _
    rw [get_store hat ha, if_neg (show a ≠ t.at' from hne t.i a4 a5)]
  · rfl
  · rfl
end Pu
/-- What two have done that take turns: each so many steps of its own run. -/
structure TwoInv (s : Sh) (w0 : Wd) (a0 : Tk) (b0 : Pu) (i j : Nat) (a : Tk) (b : Pu) (w : Wd) : Prop where
  of : w.of s
  ok : may s.p s.c s.m = true
  cc : 2 ≤ s.c
  ga : a0.wf ∧ a0.s = s ∧ a0.c = 0
  gb : b0.wf ∧ b0.s = s ∧ b0.c = 1
  gw : w0.of s
  ea : a = (its Tk.step i a0 w0).1
  eb : b = (its Pu.step j b0 w0).1
  wa : SameMag s 0 w (its Tk.step i a0 w0).2
  wb : SameMag s 1 w (its Pu.step j b0 w0).2
namespace TwoInv
variable {s : Sh} {w0 w : Wd} {a0 a : Tk} {b0 b : Pu} {i j : Nat}
theorem start {s : Sh} {w0 : Wd} {a0 : Tk} {b0 : Pu} (h : w0.of s) (hm : may s.p s.c s.m = true) (hc : 2 ≤ s.c) (ha : a0.wf ∧ a0.s = s ∧ a0.c = 0) (hb : b0.wf ∧ b0.s = s ∧ b0.c = 1) : TwoInv s w0 a0 b0 0 0 a0 b0 w0 :=
  ⟨h, hm, hc, ha, hb, h, rfl, rfl, fun _ _ _ => rfl, fun _ _ _ => rfl⟩
theorem wfa (h : TwoInv s w0 a0 b0 i j a b w) : a.wf ∧ a.s = s ∧ a.c = 0 := by
  rw [h.ea]; exact ⟨Tk.its_wf h.ga.1 i, (Tk.its_s i).trans h.ga.2.1, (Tk.its_c i).trans h.ga.2.2⟩
theorem wfb (h : TwoInv s w0 a0 b0 i j a b w) : b.wf ∧ b.s = s ∧ b.c = 1 := by
  rw [h.eb]; exact ⟨Pu.its_wf h.gb.1 j, (Pu.its_s j).trans h.gb.2.1, (Pu.its_c j).trans h.gb.2.2⟩
theorem apart (hm : may s.p s.c s.m = true) (hc : 2 ≤ s.c) {q r : Int} (q0 : 0 ≤ q) (q1 : q < s.m) (r0 : 0 ≤ r) (r1 : r < s.m) : 0 ≤ mag s.p s.c s.m 0 q ∧ 0 ≤ mag s.p s.c s.m 1 r ∧ mag s.p s.c s.m 0 q ≠ mag s.p s.c s.m 1 r := by
  have := (may_iff _ _ _).1 hm
  rw [mag_yes hm (by omega) (by omega) q0 q1, mag_yes hm (by omega) (by omega) r0 r1]
  omega
theorem stepA (h : TwoInv s w0 a0 b0 i j a b w) : TwoInv s w0 a0 b0 (i + 1) j (a.step w).1 b (a.step w).2 := by
  obtain ⟨g1, g2, g3⟩ := h.wfa
  have hn := Tk.step_near g1 (w := w) (w' := (its Tk.step i a0 w0).2) (by rw [g2, g3]; exact h.wa)
  rw [g2, g3] at hn
  have ha := h.ea
  refine ⟨Tk.step_of h.of, h.ok, h.cc, h.ga, h.gb, h.gw, ?_, h.eb, ?_, fun q q0 q1 => ?_⟩
  · rw [hn.1, ha]; rfl
  · have := hn.2
    intro q q0 q1
    rw [this q q0 q1, ha]; rfl
  · obtain ⟨-, p2, -⟩ := apart h.ok h.cc q0 q1 q0 q1
    rw [Tk.step_far g1 p2 (fun r r0 r1 => ?_)]
    · exact h.wb q q0 q1
    · rw [g2] at r1 ⊢; rw [g3]
      exact (apart h.ok h.cc r0 r1 q0 q1).2.2.symm
theorem stepB (h : TwoInv s w0 a0 b0 i j a b w) : TwoInv s w0 a0 b0 i (j + 1) a (b.step w).1 (b.step w).2 := by
  obtain ⟨g1, g2, g3⟩ := h.wfb
  have hn := Pu.step_near g1 (w := w) (w' := (its Pu.step j b0 w0).2) (by rw [g2, g3]; exact h.wb)
  rw [g2, g3] at hn
  have hb := h.eb
  refine ⟨Pu.step_of h.of, h.ok, h.cc, h.ga, h.gb, h.gw, h.ea, ?_, fun q q0 q1 => ?_, ?_⟩
  · rw [hn.1, hb]; rfl
  · obtain ⟨p1, -, -⟩ := apart h.ok h.cc q0 q1 q0 q1
    rw [Pu.step_far g1 p1 (fun r r0 r1 => ?_)]
    · exact h.wa q q0 q1
    · rw [g2] at r1 ⊢; rw [g3]
      exact (apart h.ok h.cc q0 q1 r0 r1).2.2
  · have := hn.2
    intro q q0 q1
    rw [this q q0 q1, hb]; rfl
theorem both (h : TwoInv s w0 a0 b0 i j a b w) (hi : s.m + 1 ≤ i) (hj : s.m + 1 ≤ j) {n : Nat} (hn : s.m + 1 ≤ n) (ha : a0.left ≤ s.m + 1) (hb : b0.left ≤ s.m + 1) :
    a.dn = true ∧ b.dn = true ∧ a = (its Tk.step n a0 w0).1 ∧ b = (its Pu.step n b0 w0).1 ∧ SameMag s 0 w (its Tk.step n a0 w0).2 ∧ SameMag s 1 w (its Pu.step n b0 w0).2 := by
  have d1 : (its Tk.step i a0 w0).1.dn = true := Tk.its_end h.ga.1 (by omega)
  have d2 : (its Tk.step n a0 w0).1.dn = true := Tk.its_end h.ga.1 (by omega)
  have d3 : (its Pu.step j b0 w0).1.dn = true := Pu.its_end h.gb.1 (by omega)
  have d4 : (its Pu.step n b0 w0).1.dn = true := Pu.its_end h.gb.1 (by omega)
  have e1 := its_fix (dn := Tk.dn) (fun t w h => Tk.step_dn h) d1 d2
  have e2 := its_fix (dn := Pu.dn) (fun t w h => Pu.step_dn h) d3 d4
  refine ⟨by rw [h.ea]; exact d1, by rw [h.eb]; exact d3, by rw [h.ea, e1], by rw [h.eb, e2], by rw [← e1]; exact h.wa, by rw [← e2]; exact h.wb⟩
end TwoInv
end Go.Ma
