/-
  A dead one was adopted: the heap is sound again, and what stands is told page by page, slot by slot. Conditions: none.
-/
import Derived.Test.YtfopnendmcpglaaMaPart3
set_option linter.unusedVariables false
set_option linter.unusedSectionVars false
set_option linter.unusedSimpArgs false
namespace Go.Ma
open Go.Pl
section
variable {s : Sh} {ws0 ws : Nat → Int} {d q i n y : Int}
/-- What is sound hangs on pages, slots and entries alone. -/
theorem Snd.congr (hm : may s.p s.c s.m = true) (h : Snd s ws0) (hp : ∀ q, 0 ≤ q → q < s.p → pgAt s ws q = pgAt s ws0 q) (hs : ∀ q i, 0 ≤ q → q < s.p → 0 ≤ i → i < 16 → slAt s ws q i = slAt s ws0 q i)
    (hg : ∀ c i, 0 ≤ c → c < s.c → 0 ≤ i → i < s.m → mgAt s ws c i = mgAt s ws0 c i) : Snd s ws := by
  refine ⟨fun p h1 => ?_, fun c i h1 h2 hx => ?_, fun c i c' i' h1 h2 h3 ha hx hy => ?_⟩
  · obtain ⟨e1, e2⟩ := h.pg p h1
    rw [hp p (by omega) h1]
    refine ⟨e1, ⟨fun k i hi => ?_, fun k k' i hi => ?_, fun k k' k4 => ?_, fun k k' k4 k3 i i1 i2 => ?_⟩⟩
    · rw [hs p i (by omega) h1 (by omega) (by omega)]; exact e2.sup k i hi
    · rw [hs p i (by omega) h1 (by omega) (by omega)]; exact e2.emp k k' i hi
    · have hb := Ad.ok_body e1 (beq_iff_eq.1 k4)
      rw [hp _ hb.1 (by omega)]; exact e2.bod k k' k4
    · have he := e2.lar k k' k4 k3 i i1 i2
      have hpi : (p : Int) + i < s.p := by
        have hk := beq_iff_eq.1 k3
        have hf : okPg s p (pgAt s ws0 p) = true := e1
        have hk' : pgAt s ws0 p % 16 = 3 := by unfold pgK at hk; rw [if_pos hf] at hk; exact hk
        have hA : pgA s p (pgAt s ws0 p) = pt (pgAt s ws0 p) 16 := by unfold pgA; rw [if_pos hf]
        unfold okPg at hf
        simp only [Bool.and_eq_true, decide_eq_true_eq] at hf
        obtain ⟨-, -, hf⟩ := hf
        rw [hk'] at hf
        unfold fits at hf
        simp at hf
        omega
      rw [hp _ (by omega) hpi]; exact he
  · rw [hg c i (by omega) h1 (by omega) h2] at hx ⊢
    obtain ⟨e1, e2, e3, e4⟩ := h.en c i h1 h2 hx
    have hE : 0 ≤ enP s (mgAt s ws0 c i) ∧ enP s (mgAt s ws0 c i) < s.p ∧ 0 ≤ enS s (mgAt s ws0 c i) ∧ enS s (mgAt s ws0 c i) < 16 := by
      have ho := e1
      unfold okEn at ho
      simp only [Bool.and_eq_true, decide_eq_true_eq] at ho
      have h5 := page_of (s := s) (p := pt (mgAt s ws0 c i) 16) (decide_eq_true ho.2.1)
      have sb := slots_bd (pt (mgAt s ws0 c i) 1048576)
      have : 0 ≤ pt (mgAt s ws0 c i) 4096 := by unfold pt; omega
      unfold enP enS; rw [if_pos e1, if_pos e1]; omega
    refine ⟨e1, ?_, ?_, ?_⟩
    · rw [hp _ hE.1 hE.2.1]; exact e2
    · rw [hp _ hE.1 hE.2.1]; exact e3
    · rw [hs _ _ hE.1 hE.2.1 hE.2.2.1 hE.2.2.2]; exact e4
  · have hc' : (c' : Int) < s.c := by unfold ahead at ha; omega
    rw [hg c i (by omega) h1 (by omega) h2] at hx ⊢
    rw [hg c' i' (by omega) hc' (by omega) h3] at hy ⊢
    exact h.dj c i c' i' h1 h2 h3 ha hx hy
theorem Snd.sta (hm : may s.p s.c s.m = true) (h : Snd s ws0) {c : Int} (h0 : 0 ≤ c) (h1 : c < s.c) : Snd s (upW ws0 (status s.p s.c s.m c) y) :=
  h.congr hm (fun q q0 q1 => pg_st hm h0 h1 q0 q1) (fun q i q0 q1 i0 i1 => sl_st hm h0 h1 q0 i0) (fun c i c0 c1 i0 i1 => mg_st hm h0 h1 c0 i0)
theorem en_bd (e1 : okEn s y = true) : 0 ≤ enP s y ∧ enP s y < s.p ∧ 0 ≤ enS s y ∧ enS s y < 16 := by
  have ho := e1
  unfold okEn at ho
  simp only [Bool.and_eq_true, decide_eq_true_eq] at ho
  have h5 := page_of (s := s) (p := pt y 16) (decide_eq_true ho.2.1)
  have sb := slots_bd (pt y 1048576)
  have : 0 ≤ pt y 4096 := by unfold pt; omega
  unfold enP enS; rw [if_pos e1, if_pos e1]; omega
theorem large_bd (e1 : okPg s q y = true) (hk : pgK s q y = 3) : 1 ≤ pgA s q y ∧ pgA s q y ≤ 8 ∧ q + pgA s q y ≤ s.p := by
  have hk' : y % 16 = 3 := by unfold pgK at hk; rw [if_pos e1] at hk; exact hk
  have hA : pgA s q y = pt y 16 := by unfold pgA; rw [if_pos e1]
  have hf := e1
  unfold okPg at hf
  simp only [Bool.and_eq_true, decide_eq_true_eq] at hf
  obtain ⟨-, -, hf⟩ := hf
  rw [hk'] at hf
  unfold fits at hf
  simp at hf
  omega
/-- All of the dead one is gone. -/
structure Gn (s : Sh) (ws0 : Nat → Int) (d : Int) (ws : Nat → Int) : Prop where
  pt : Pt s ws0 d ws
  b : BD s ws0 d ws s.p
  h : HD s ws0 d ws s.p
  m : MD s d ws s.m
  x : SD s ws0 d ws s.p
section
variable (hm : may s.p s.c s.m = true) (hsn : Snd s ws0) (d0 : 0 ≤ d) (d1 : d < s.c) (g : Gn s ws0 d ws)
include hm hsn d0 d1 g
/-- A page is as it was, or it was the dead one's, and is empty. -/
theorem Gn.page (h0 : 0 ≤ q) (h1 : q < s.p) : (¬ HeldBy s ws0 d q ∧ ¬ BodyOf s ws0 d q ∧ pgAt s ws q = pgAt s ws0 q) ∨ ((HeldBy s ws0 d q ∨ BodyOf s ws0 d q) ∧ pgAt s ws q = 0 ∧ pgAt s ws0 q ≠ 0) := by
  by_cases hh : HeldBy s ws0 d q
  · refine .inr ⟨.inl hh, g.h q h0 h1 hh, fun e => ?_⟩
    have := hh.1; rw [e, pgK_zero] at this; cases this
  · by_cases hb : BodyOf s ws0 d q
    · refine .inr ⟨.inr hb, g.b q h0 h1 hb, fun e => ?_⟩
      have := hb.1; rw [e, pgK_zero] at this; cases this
    · exact .inl ⟨hh, hb, g.pt.np q h0 h1 hh hb⟩
/-- A slot is as it was, or it was on the dead one's way, and is open; or in a page that it held, and is 0. -/
theorem Gn.slot (h0 : 0 ≤ q) (h1 : q < s.p) (i0 : 0 ≤ i) (i1 : i < 16) : (¬ HeldBy s ws0 d q ∧ slAt s ws q i = slAt s ws0 q i ∧ ¬ (pgK s q (pgAt s ws0 q) = 2 ∧ slAt s ws0 q i = way d)) ∨ (¬ HeldBy s ws0 d q ∧ pgK s q (pgAt s ws0 q) = 2 ∧ slAt s ws0 q i = way d ∧ slAt s ws q i = opn (pgA s q (pgAt s ws0 q))) ∨ (HeldBy s ws0 d q ∧ slAt s ws q i = 0) := by
  by_cases hh : HeldBy s ws0 d q
  · refine .inr (.inr ⟨hh, ?_⟩)
    rcases g.pt.hd q h0 h1 hh with e | ⟨-, e⟩
    · have e2 := g.h q h0 h1 hh
      rw [e] at e2
      have := hh.1; rw [e2, pgK_zero] at this; cases this
    · exact e i i0 i1
  · rcases g.pt.sb q h0 h1 hh i i0 i1 with e | ⟨e1, e2, e3⟩
    · refine .inl ⟨hh, e, fun ⟨e1, e2⟩ => ?_⟩
      exact g.x q h0 h1 e1 i i0 i1 (e.trans e2)
    · exact .inr (.inl ⟨hh, e1, e2, e3⟩)
/-- The heap is sound. -/
theorem Gn.snd : Snd s ws := by
  have hb := (may_iff _ _ _).1 hm
  have dw := way_ne d d0 (by omega)
  refine ⟨fun p h1 => ?_, fun c i h1 h2 hx => ?_, fun c i c' i' h1 h2 h3 ha hx hy => ?_⟩
  · obtain ⟨e1, e2⟩ := hsn.pg p h1
    rcases Gn.page hm hsn d0 d1 g (q := p) (by omega) h1 with ⟨n1, n2, e⟩ | ⟨hx, e, -⟩
    · rw [e]
      refine ⟨e1, ⟨fun k i hi => ?_, fun k k' i hi => ?_, fun k k' k4 => ?_, fun k k' k4 k3 i i1 i2 => ?_⟩⟩
      · rcases Gn.slot hm hsn d0 d1 g (q := p) (i := i) (by omega) h1 (by omega) (by omega) with ⟨-, e3, -⟩ | ⟨-, -, e4, e3⟩ | ⟨hh, -⟩
        · rw [e3]; exact e2.sup k i hi
        · have hA := Gv.ok_super e1 (beq_iff_eq.1 k)
          have on := opn_ne (pgA s p (pgAt s ws0 p)) hA.1 (by omega)
          have hs := e2.sup k i hi
          rw [e4] at hs
          unfold slB at hs ⊢
          rw [e3, on.2.1, on.2.2]
          by_cases hi2 : ((i : Nat) : Int) < slots (pgA s p (pgAt s ws0 p))
          · rw [decide_eq_true hi2]; simp
          · rw [decide_eq_false hi2] at hs
            have : way d = 0 := by simpa using hs
            exact absurd this dw.1
        · exact absurd hh n1
      · rcases Gn.slot hm hsn d0 d1 g (q := p) (i := i) (by omega) h1 (by omega) (by omega) with ⟨-, e3, -⟩ | ⟨-, e5, -, -⟩ | ⟨hh, -⟩
        · rw [e3]; exact e2.emp k k' i hi
        · exact absurd (beq_iff_eq.2 e5) (by rw [k]; decide)
        · exact absurd hh n1
      · have hbo := Ad.ok_body e1 (beq_iff_eq.1 k4)
        have hbd := e2.bod k k' k4
        rcases Gn.page hm hsn d0 d1 g (q := pgA s p (pgAt s ws0 p)) hbo.1 (by omega) with ⟨-, -, e3⟩ | ⟨hx, -, -⟩
        · rw [e3]; exact hbd
        · exfalso
          rcases hx with hx | hx
          · exact n2 ⟨beq_iff_eq.1 k4, hx⟩
          · rw [hx.1] at hbd; simp at hbd
      · have hl := large_bd e1 (beq_iff_eq.1 k3)
        have he := e2.lar k k' k4 k3 i i1 i2
        rcases Gn.page hm hsn d0 d1 g (q := p + i) (by omega) (by omega) with ⟨-, -, e3⟩ | ⟨hx, -, -⟩
        · rw [e3]; exact he
        · exfalso
          rcases hx with hx | hx
          · have := hx.1; rw [he.1] at this; cases this
          · have h5 := hx.2
            rw [he.2] at h5
            have := h5.1; rw [beq_iff_eq.1 k3] at this; cases this
    · rw [e, pgK_zero]
      refine ⟨okPg_zero hm (by omega) h1, SpB.oth rfl (fun i hi => ?_) rfl rfl⟩
      rcases Gn.slot hm hsn d0 d1 g (q := p) (i := i) (by omega) h1 (by omega) (by omega) with ⟨n1, e3, -⟩ | ⟨n1, e5, -, -⟩ | ⟨-, e3⟩
      · rw [e3]
        rcases hx with hx | hx
        · exact absurd hx n1
        · exact e2.emp (by rw [hx.1]; rfl) (by rw [hx.1]; rfl) i hi
      · exfalso
        rcases hx with hx | hx
        · exact n1 hx
        · have := hx.1; rw [e5] at this; cases this
      · exact e3
  · by_cases hc : (c : Int) = d
    · have := g.m i (by omega) h2
      rw [← hc] at this
      exact absurd this hx
    · rw [g.pt.mo c i (by omega) h1 hc (by omega) h2] at hx ⊢
      obtain ⟨e1, e2, e3, e4⟩ := hsn.en c i h1 h2 hx
      have hE := en_bd e1
      have hpg : pgAt s ws (enP s (mgAt s ws0 c i)) = pgAt s ws0 (enP s (mgAt s ws0 c i)) := by
        rcases Gn.page hm hsn d0 d1 g (q := enP s (mgAt s ws0 c i)) hE.1 hE.2.1 with ⟨-, -, e5⟩ | ⟨hx, -, -⟩
        · exact e5
        · exfalso
          rcases hx with hx | hx
          · have := hx.1; rw [e2] at this; cases this
          · have := hx.1; rw [e2] at this; cases this
      refine ⟨e1, by rw [hpg]; exact e2, by rw [hpg]; exact e3, ?_⟩
      rcases Gn.slot hm hsn d0 d1 g (q := enP s (mgAt s ws0 c i)) (i := enS s (mgAt s ws0 c i)) hE.1 hE.2.1 hE.2.2.1 hE.2.2.2 with ⟨-, e5, -⟩ | ⟨-, -, e6, -⟩ | ⟨hh, -⟩
      · rw [e5]; exact e4
      · rw [e4] at e6
        exact absurd (way_inj (by omega) (by omega) d0 (by omega) e6) hc
      · have := hh.1; rw [e2] at this; cases this
  · have hc' : (c' : Int) < s.c := by unfold ahead at ha; omega
    have n1 : (c : Int) ≠ d := fun e => by have := g.m i (by omega) h2; rw [← e] at this; exact hx this
    have n2 : (c' : Int) ≠ d := fun e => by have := g.m i' (by omega) h3; rw [← e] at this; exact hy this
    rw [g.pt.mo c i (by omega) h1 n1 (by omega) h2] at hx ⊢
    rw [g.pt.mo c' i' (by omega) hc' n2 (by omega) h3] at hy ⊢
    exact hsn.dj c i c' i' h1 h2 h3 ha hx hy
end
end
namespace Ad
variable {s : Sh} {ws0 : Nat → Int} {c d : Int} {g0 : Int → Int} {t : Ad} {w : Wd}
theorem Adp.fin (h : Adp s ws0 c d g0 t w) (hd : t.dn = true) : t.err = 0 ∧ w.get d = putSt 4 0 ∧ Gn s ws0 d w.ws := by
  cases h.ph with
  | en _ he hx b hh m x => exact ⟨he, hx, h.pt, b, hh, m, x⟩
  | _ h1 => rw [hd] at h1; cases h1
theorem Adp.init (hm : may s.p s.c s.m = true) (ho : w.of s) (hc0 : 0 ≤ c) (hc : c < s.c) (hd0 : 0 ≤ d) (hd : d < s.c) (hcd : c ≠ d) (hw : Win s w.get d) (hs : Snd s w.ws) : Adp s w.ws c d w.get (Ad.new s c d) w := by
  have B : (new s c d).dn = false := by
    show (decide (status s.p s.c s.m c < 0) || (decide (status s.p s.c s.m d < 0) || decide (c = d))) = false
    rw [st_place hm hc0 hc, st_place hm hd0 hd, decide_eq_false (by omega), decide_eq_false (by omega), decide_eq_false hcd]
    rfl
  exact ⟨ho, hm, ⟨new_wf .., rfl, rfl, rfl⟩, ⟨hd0, hd⟩, hw, hs, Pt.self .., fun _ _ _ _ => rfl, .p0 B rfl rfl⟩
end Ad
end Go.Ma
