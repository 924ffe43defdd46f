/-
  A sound heap, from which a block is taken: sound again. Conditions: none.
-/
import Derived.Test.YtfopnendmcpglaaMaPart
set_option linter.unusedVariables false
set_option linter.unusedSectionVars false
set_option linter.unusedSimpArgs false
namespace Go.Ma
open Go.Pl
theorem held_ok {s : Sh} {q c : Int} (hm : may s.p s.c s.m = true) (h0 : 0 ≤ q) (h1 : q < s.p) (c0 : 0 ≤ c) (c1 : c < s.c) : okPg s q (held c) = true ∧ pgK s q (held c) = 1 ∧ pgA s q (held c) = c := by
  have hb := (may_iff _ _ _).1 hm
  have hv : held c = 1 + 16 * c := by unfold held putPg; rw [if_pos (by omega)]; omega
  have e1 : (1 + 16 * c) % 16 = 1 := by omega
  have e2 : pt (1 + 16 * c) 16 = c := by unfold pt; omega
  have e3 : pt (1 + 16 * c) 4096 = 0 := by unfold pt; omega
  have hp : 0 ≤ page s.p s.c s.m q := by rw [page_yes hm h0 h1]; omega
  have ok : okPg s q (held c) = true := by
    rw [hv]
    unfold okPg
    rw [e1, e2, e3]
    have g1 : decide (putPg 1 c 0 = 1 + 16 * c) = true := decide_eq_true hv
    have g3 : fits s q 1 c 0 = true := by unfold fits; simp; omega
    rw [g1, g3, decide_eq_true hp]; rfl
  refine ⟨ok, ?_, ?_⟩
  · unfold pgK; rw [if_pos ok, hv, e1]
  · unfold pgA; rw [if_pos ok, hv, e2]
theorem slots_four {k : Int} (h0 : 0 ≤ k) (h1 : k ≤ 3) : 2 ≤ slots k ∧ slots k ≤ 16 ∧ slots k * size k = 64 ∧ 4 ≤ size k ∧ size k ≤ 32 := by
  rcases (by omega : k = 0 ∨ k = 1 ∨ k = 2 ∨ k = 3) with h | h | h | h <;> rw [h] <;> decide
theorem en_put {s : Sh} {p i k : Int} (hm : may s.p s.c s.m = true) (h0 : 0 ≤ p) (h1 : p < s.p) (i0 : 0 ≤ i) (i1 : i < slots k) (k0 : 0 ≤ k) (k1 : k ≤ 3) : okEn s (putEn p i k) = true ∧ enP s (putEn p i k) = p ∧ enS s (putEn p i k) = i ∧ enK s (putEn p i k) = k ∧ putEn p i k ≠ 0 := by
  have hb := (may_iff _ _ _).1 hm
  have hs := slots_four k0 k1
  have hv : putEn p i k = 1 + 16 * p + 4096 * i + 1048576 * k := by unfold putEn; rw [if_pos (by omega)]
  have e1 : pt (putEn p i k) 16 = p := by rw [hv]; unfold pt; omega
  have e2 : pt (putEn p i k) 4096 = i := by rw [hv]; unfold pt; omega
  have e3 : pt (putEn p i k) 1048576 = k := by rw [hv]; unfold pt; omega
  have hp : 0 ≤ page s.p s.c s.m p := by rw [page_yes hm h0 h1]; omega
  have ok : okEn s (putEn p i k) = true := by
    unfold okEn; rw [e1, e2, e3, decide_eq_true rfl, decide_eq_true hp, decide_eq_true i1]; rfl
  refine ⟨ok, ?_, ?_, ?_, by rw [hv]; omega⟩
  · unfold enP; rw [if_pos ok, e1]
  · unfold enS; rw [if_pos ok, e2]
  · unfold enK; rw [if_pos ok, e3]
section
variable {s : Sh} {ws0 ws : Nat → Int} {pg A i c sl x : Int}
/-- Pages in a row: the head is held, so many bodies are empty; or all is. -/
structure LX (s : Sh) (ws0 : Nat → Int) (pg A c i : Int) (ws : Nat → Int) : Prop where
  hd : pgAt s ws pg = held c ∨ (pgAt s ws pg = 0 ∧ i = A - 1)
  em : ∀ j, 1 ≤ j → j ≤ i → pgAt s ws (pg + j) = 0
  ot : ∀ q, 0 ≤ q → q < s.p → q ≠ pg → ¬ (pg < q ∧ q ≤ pg + i) → pgAt s ws q = pgAt s ws0 q
  sl : ∀ q j, 0 ≤ q → q < s.p → 0 ≤ j → j < 16 → slAt s ws q j = slAt s ws0 q j
  mg : ∀ c' j, 0 ≤ c' → c' < s.c → 0 ≤ j → j < s.m → mgAt s ws c' j = mgAt s ws0 c' j
section
variable (hm : may s.p s.c s.m = true) (hsn : Snd s ws0) (p0 : 0 ≤ pg) (p1 : pg < s.p) (hk : pgK s pg (pgAt s ws0 pg) = 3) (hA : pgA s pg (pgAt s ws0 pg) = A) (c0 : 0 ≤ c) (c1 : c < s.c) (i0 : 0 ≤ i) (i1 : i < A)
include hm hsn p0 p1 hk hA
theorem row_body {j : Int} (j0 : 1 ≤ j) (j1 : j < A) : pgK s (pg + j) (pgAt s ws0 (pg + j)) = 4 ∧ pgA s (pg + j) (pgAt s ws0 (pg + j)) = pg := by
  obtain ⟨e1, e2⟩ := hsn.pg pg.toNat (by omega)
  rw [show ((pg.toNat : Nat) : Int) = pg by omega] at e1 e2
  exact e2.lar (by rw [hk]; rfl) (by rw [hk]; rfl) (by rw [hk]; rfl) (by rw [hk]; rfl) j j0 (by rw [hA]; exact j1)
theorem row_bd : 1 ≤ A ∧ A ≤ 8 ∧ pg + A ≤ s.p := by
  rw [← hA]; exact large_bd (pgK_ne (by rw [hk]; decide)) hk
include c0 c1 i0 i1
theorem LX.snd (h : LX s ws0 pg A c i ws) : Snd s ws := by
  have hb := (may_iff _ _ _).1 hm
  have hr := row_bd hm hsn p0 p1 hk hA
  have hbody := fun j j0 j1 => row_body hm hsn p0 p1 hk hA (j := j) j0 j1
  -- what a page of ws0 that is none of the row says is said still
  have keep : ∀ q, 0 ≤ q → q < s.p → (pgAt s ws q = pgAt s ws0 q ∧ q ≠ pg ∧ ¬ (pg < q ∧ q ≤ pg + i)) ∨ q = pg ∨ (pg < q ∧ q ≤ pg + i ∧ pgAt s ws q = 0 ∧ pgK s q (pgAt s ws0 q) = 4 ∧ pgA s q (pgAt s ws0 q) = pg) := fun q q0 q1 => by
    by_cases e : q = pg
    · exact .inr (.inl e)
    · by_cases e2 : pg < q ∧ q ≤ pg + i
      · right; right
        have h1 := h.em (q - pg) (by omega) (by omega)
        have h2 := hbody (q - pg) (by omega) (by omega)
        rw [show pg + (q - pg) = q by omega] at h1 h2
        exact ⟨e2.1, e2.2, h1, h2.1, h2.2⟩
      · exact .inl ⟨h.ot q q0 q1 e e2, e, e2⟩
  have zero : ∀ q : Nat, (q : Int) < s.p → pgAt s ws q = 0 → (pgK s q (pgAt s ws0 q) = 3 ∨ pgK s q (pgAt s ws0 q) = 4) → okPg s q (pgAt s ws q) = true ∧ SpB s ws q (pgK s q (pgAt s ws q)) (pgA s q (pgAt s ws q)) := fun q q1 hz hkq => by
    rw [hz, pgK_zero]
    refine ⟨okPg_zero hm (by omega) q1, SpB.oth rfl (fun j hj => ?_) rfl rfl⟩
    rw [h.sl q j (by omega) q1 (by omega) (by omega)]
    exact (hsn.pg q q1).2.emp (by rcases hkq with e | e <;> rw [e] <;> rfl) (by rcases hkq with e | e <;> rw [e] <;> rfl) j hj
  refine ⟨fun q q1 => ?_, fun c' j h1 h2 hx => ?_, fun c' j c'' j' h1 h2 h3 ha hx hy => ?_⟩
  · obtain ⟨e1, e2⟩ := hsn.pg q q1
    rcases keep q (by omega) q1 with ⟨e, n1, n2⟩ | e | ⟨g1, g2, g3, g4, g5⟩
    · rw [e]
      refine ⟨e1, ⟨fun k j hj => ?_, fun k k' j hj => ?_, fun k k' k4 => ?_, fun k k' k4 k3 j j1 j2 => ?_⟩⟩
      · rw [h.sl q j (by omega) q1 (by omega) (by omega)]; exact e2.sup k j hj
      · rw [h.sl q j (by omega) q1 (by omega) (by omega)]; exact e2.emp k k' j hj
      · have hbo := Ad.ok_body e1 (beq_iff_eq.1 k4)
        have hbd := e2.bod k k' k4
        obtain ⟨A', hA'⟩ : ∃ A', pgA s q (pgAt s ws0 q) = A' := ⟨_, rfl⟩
        rw [hA'] at hbo hbd ⊢
        rcases keep A' hbo.1 (by omega) with ⟨e3, -, -⟩ | e3 | ⟨g1, g2, g3, g4, g5⟩
        · rw [e3]; exact hbd
        · subst e3
          rcases h.hd with hh | ⟨hh, hi⟩
          · rw [hh, (held_ok hm hbo.1 (by omega) c0 c1).2.1]; rfl
          · exfalso
            rw [hk, hA] at hbd
            have hq : (q : Int) < A' + A := by simpa using hbd
            exact n2 ⟨hbo.2.1, by omega⟩
        · rw [g4] at hbd; simp at hbd
      · have hl := large_bd e1 (beq_iff_eq.1 k3)
        have he := e2.lar k k' k4 k3 j j1 j2
        rcases keep (q + j) (by omega) (by omega) with ⟨e3, -, -⟩ | e3 | ⟨g1, g2, g3, g4, g5⟩
        · rw [e3]; exact he
        · rw [e3, hk] at he; exact absurd he.1 (by decide)
        · rw [g5] at he; exact absurd he.2.symm n1
    · rcases h.hd with hh | ⟨hh, hi⟩
      · rw [e, hh]
        have ho := held_ok hm p0 p1 c0 c1
        exact ⟨ho.1, SpB.one (by rw [ho.2.1]; rfl) (by rw [ho.2.1]; rfl)⟩
      · exact zero q q1 (by rw [e]; exact hh) (.inl (by rw [e]; exact hk))
    · exact zero q q1 g3 (.inr g4)
  · rw [h.mg c' j (by omega) h1 (by omega) h2] at hx ⊢
    obtain ⟨e1, e2, e3, e4⟩ := hsn.en c' j h1 h2 hx
    have hE := en_bd e1
    have hpg : pgAt s ws (enP s (mgAt s ws0 c' j)) = pgAt s ws0 (enP s (mgAt s ws0 c' j)) := by
      rcases keep _ hE.1 hE.2.1 with ⟨e5, -, -⟩ | e5 | ⟨g1, g2, g3, g4, g5⟩
      · exact e5
      · rw [e5, hk] at e2; cases e2
      · rw [g4] at e2; cases e2
    exact ⟨e1, by rw [hpg]; exact e2, by rw [hpg]; exact e3, by rw [h.sl _ _ hE.1 hE.2.1 hE.2.2.1 hE.2.2.2]; exact e4⟩
  · have hc' : (c'' : Int) < s.c := by unfold ahead at ha; omega
    rw [h.mg c' j (by omega) h1 (by omega) h2] at hx ⊢
    rw [h.mg c'' j' (by omega) hc' (by omega) h3] at hy ⊢
    exact hsn.dj c' j c'' j' h1 h2 h3 ha hx hy
end
/-- A slot that was taken is another one's way, or open; in the first case an entry may say so. -/
structure SX (s : Sh) (ws0 : Nat → Int) (pg sl A c x : Int) (e : Option Int) (ws : Nat → Int) : Prop where
  xx : x = way c ∨ (x = opn A ∧ e = none)
  at' : slAt s ws pg sl = x
  pg' : ∀ q, 0 ≤ q → q < s.p → pgAt s ws q = pgAt s ws0 q
  sl' : ∀ q j, 0 ≤ q → q < s.p → 0 ≤ j → j < 16 → ¬ (q = pg ∧ j = sl) → slAt s ws q j = slAt s ws0 q j
  mg : ∀ c' j, 0 ≤ c' → c' < s.c → 0 ≤ j → j < s.m → mgAt s ws c' j = mgAt s ws0 c' j ∨ (c' = c ∧ e = some j ∧ mgAt s ws c' j = putEn pg sl A ∧ mgAt s ws0 c' j = 0)
theorem SX.snd {e : Option Int} (hm : may s.p s.c s.m = true) (hsn : Snd s ws0) (p0 : 0 ≤ pg) (p1 : pg < s.p) (hk : pgK s pg (pgAt s ws0 pg) = 2) (hA : pgA s pg (pgAt s ws0 pg) = A) (s0 : 0 ≤ sl) (s1 : sl < slots A) (c0 : 0 ≤ c) (c1 : c < s.c) (ht : slAt s ws0 pg sl = taken A)
    (h : SX s ws0 pg sl A c x e ws) : Snd s ws := by
  have hb := (may_iff _ _ _).1 hm
  have hAs := Gv.ok_super (pgK_ne (s := s) (q := pg) (x := pgAt s ws0 pg) (by rw [hk]; decide)) hk
  rw [hA] at hAs
  have hsl := slots_four hAs.1 hAs.2.1
  have tn := taken_ne A hAs.1 (by omega)
  have wn := way_ne c c0 (by omega)
  have on := opn_ne A hAs.1 (by omega)
  have hxe : e ≠ none → x = way c := fun hne => by
    rcases h.xx with h | h
    · exact h
    · exact absurd h.2 hne
  -- what an old entry says is there still
  have old : ∀ c' j : Nat, (c' : Int) < s.c → (j : Int) < s.m → mgAt s ws0 c' j ≠ 0 → EnB s ws c' (mgAt s ws0 c' j) ∧ ¬ (enP s (mgAt s ws0 c' j) = pg ∧ enS s (mgAt s ws0 c' j) = sl) := fun c' j h1 h2 hx => by
    obtain ⟨e1, e2, e3, e4⟩ := hsn.en c' j h1 h2 hx
    have hE := en_bd e1
    have hne : ¬ (enP s (mgAt s ws0 c' j) = pg ∧ enS s (mgAt s ws0 c' j) = sl) := fun ⟨g1, g2⟩ => by
      rw [g1, g2, ht] at e4
      have := congrArg slK e4
      rw [tn.2.1] at this
      have h5 := (way_ne c' (by omega) (by omega)).2.1
      unfold way at h5
      rw [h5] at this; cases this
    exact ⟨⟨e1, by rw [h.pg' _ hE.1 hE.2.1]; exact e2, by rw [h.pg' _ hE.1 hE.2.1]; exact e3, by rw [h.sl' _ _ hE.1 hE.2.1 hE.2.2.1 hE.2.2.2 hne]; exact e4⟩, hne⟩
  have hen := en_put hm p0 p1 s0 s1 hAs.1 hAs.2.1
  refine ⟨fun q q1 => ?_, fun c' j h1 h2 hx => ?_, fun c' j c'' j' h1 h2 h3 ha hx hy => ?_⟩
  · obtain ⟨e1, e2⟩ := hsn.pg q q1
    rw [h.pg' q (by omega) q1]
    refine ⟨e1, ⟨fun k j hj => ?_, fun k k' j hj => ?_, fun k k' k4 => ?_, fun k k' k4 k3 j j1 j2 => ?_⟩⟩
    · by_cases hq : (q : Int) = pg ∧ (j : Int) = sl
      · obtain ⟨g1, g2⟩ := hq
        rw [g1, g2, h.at', hA]
        unfold slB
        rw [decide_eq_true s1]
        rcases h.xx with hx | ⟨hx, -⟩
        · rw [hx, wn.2.1, wn.2.2]; simp; exact c1
        · rw [hx, on.2.1, on.2.2]; simp
      · rw [h.sl' q j (by omega) q1 (by omega) (by omega) hq]; exact e2.sup k j hj
    · have hq : ¬ ((q : Int) = pg ∧ (j : Int) = sl) := fun hg => by rw [hg.1, hk] at k; cases k
      rw [h.sl' q j (by omega) q1 (by omega) (by omega) hq]; exact e2.emp k k' j hj
    · have hbo := Ad.ok_body e1 (beq_iff_eq.1 k4)
      rw [h.pg' _ hbo.1 (by omega)]; exact e2.bod k k' k4
    · have hl := large_bd e1 (beq_iff_eq.1 k3)
      rw [h.pg' _ (by omega) (by omega)]; exact e2.lar k k' k4 k3 j j1 j2
  · rcases h.mg c' j (by omega) h1 (by omega) h2 with e1 | ⟨g1, g2, g3, g4⟩
    · rw [e1] at hx ⊢
      exact (old c' j h1 h2 hx).1
    · rw [g3]
      refine ⟨hen.1, ?_, ?_, ?_⟩
      · rw [hen.2.1, h.pg' _ p0 p1]; exact hk
      · rw [hen.2.1, h.pg' _ p0 p1, hen.2.2.2.1]; exact hA
      · rw [hen.2.1, hen.2.2.1, h.at', hxe (by rw [g2]; exact Option.some_ne_none _), g1]; rfl
  · have hc' : (c'' : Int) < s.c := by unfold ahead at ha; omega
    rcases h.mg c' j (by omega) h1 (by omega) h2 with e1 | ⟨g1, g2, g3, g4⟩
    · rcases h.mg c'' j' (by omega) hc' (by omega) h3 with e2 | ⟨k1, k2, k3, k4⟩
      · rw [e1] at hx ⊢
        rw [e2] at hy ⊢
        exact hsn.dj c' j c'' j' h1 h2 h3 ha hx hy
      · rw [e1] at hx ⊢
        rw [k3, hen.2.1, hen.2.2.1]
        exact fun ⟨q1, q2⟩ => (old c' j h1 h2 hx).2 ⟨q1.symm, q2.symm⟩
    · rcases h.mg c'' j' (by omega) hc' (by omega) h3 with e2 | ⟨k1, k2, k3, k4⟩
      · rw [e2] at hy ⊢
        rw [g3, hen.2.1, hen.2.2.1]
        exact (old c'' j' hc' h3 hy).2
      · exfalso
        rw [g2] at k2
        injection k2 with k2
        unfold ahead at ha; omega
end
end Go.Ma
