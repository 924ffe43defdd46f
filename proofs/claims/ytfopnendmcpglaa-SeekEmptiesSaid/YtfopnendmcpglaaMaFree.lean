/-
  Pages of a sound heap that one claims: what each of them says; the heap is sound still, its blocks are the same. Conditions: none.
-/
import Derived.Test.YtfopnendmcpglaaMaBase
set_option linter.unusedVariables false
set_option linter.unusedSectionVars false
set_option linter.unusedSimpArgs false
namespace Go.Ma
open Go.Pl
theorem is_opn {x : Int} (hk : slK x = 1) : x = opn (slA x) := by
  have ho : okSl x = true := by
    cases e : okSl x
    · unfold slK at hk; rw [e] at hk; cases hk
    · rfl
  have h1 : x % 16 = 1 := by unfold slK at hk; rw [if_pos ho] at hk; exact hk
  unfold slA opn
  rw [if_pos ho]
  unfold okSl at ho
  rw [h1] at ho
  exact (of_decide_eq_true ho).symm
theorem is_empty {s : Sh} {q x : Int} (ho : okPg s q x = true) (hk : pgK s q x = 0) : x = 0 := by
  have h1 : x % 16 = 0 := by unfold pgK at hk; rw [if_pos ho] at hk; exact hk
  unfold okPg at ho
  rw [h1] at ho
  simp only [Bool.and_eq_true, decide_eq_true_eq] at ho
  have h2 := ho.1
  unfold putPg at h2
  split at h2
  · rename_i h3
    have h4 := h3.2.2.2.2.2.2.1 rfl
    have h5 := h3.2.2.2.2.2.2.2 (by decide)
    omega
  · exact h2.symm
theorem body_ok {s : Sh} {q h : Int} (hm : may s.p s.c s.m = true) (h0 : 0 ≤ h) (h1 : h < q) (h2 : q < h + 8) (h3 : q < s.p) : okPg s q (putPg 4 h 0) = true ∧ pgK s q (putPg 4 h 0) = 4 ∧ pgA s q (putPg 4 h 0) = h := by
  have hb := (may_iff _ _ _).1 hm
  have hv : putPg 4 h 0 = 4 + 16 * h := by unfold putPg; rw [if_pos (by omega)]; omega
  have e1 : (4 + 16 * h) % 16 = 4 := by omega
  have e2 : pt (4 + 16 * h) 16 = h := by unfold pt; omega
  have e3 : pt (4 + 16 * h) 4096 = 0 := by unfold pt; omega
  have hp : 0 ≤ page s.p s.c s.m q := by rw [page_yes hm (by omega) h3]; omega
  have ok : okPg s q (putPg 4 h 0) = true := by
    rw [hv]
    unfold okPg
    rw [e1, e2, e3]
    have g1 : decide (putPg 4 h 0 = 4 + 16 * h) = true := decide_eq_true hv
    have g3 : fits s q 4 h 0 = true := by unfold fits; simp; omega
    rw [g1, g3, decide_eq_true hp]; rfl
  refine ⟨ok, ?_, ?_⟩
  · unfold pgK; rw [if_pos ok, hv, e1]
  · unfold pgA; rw [if_pos ok, hv, e2]
theorem en_slot {s : Sh} {y : Int} (e1 : okEn s y = true) : enS s y < slots (enK s y) := by
  unfold enS enK
  rw [if_pos e1, if_pos e1]
  unfold okEn at e1
  simp only [Bool.and_eq_true, decide_eq_true_eq] at e1
  exact e1.2.2
namespace Rw
section
variable (s : Sh) (ws0 : Nat → Int) (c : Int) (ws : Nat → Int) (q : Int)
/-- Nobody has a page, nor a slot of it. -/
def Free : Prop := pgK s q (pgAt s ws0 q) = 0 ∨ (pgK s q (pgAt s ws0 q) = 2 ∧ ∀ i, 0 ≤ i → i < slots (pgA s q (pgAt s ws0 q)) → slK (slAt s ws0 q i) = 1)
def Zs : Prop := ∀ i, 0 ≤ i → i < 16 → slAt s ws q i = 0
def Un : Prop := pgAt s ws q = pgAt s ws0 q ∧ ∀ i, 0 ≤ i → i < 16 → slAt s ws q i = slAt s ws0 q i
def Em : Prop := Free s ws0 q ∧ pgAt s ws q = 0 ∧ Zs s ws q
def Hl : Prop := Free s ws0 q ∧ pgAt s ws q = held c ∧ Zs s ws q
def Bo (h : Int) : Prop := Free s ws0 q ∧ pgAt s ws q = putPg 4 h 0 ∧ Zs s ws q
def Tr (j : Int) : Prop := pgAt s ws q = pgAt s ws0 q ∧ pgK s q (pgAt s ws0 q) = 2 ∧ 0 ≤ j ∧ j ≤ slots (pgA s q (pgAt s ws0 q)) ∧ (∀ i, 0 ≤ i → i < j → slAt s ws q i = way c ∧ slAt s ws0 q i = opn (pgA s q (pgAt s ws0 q))) ∧ ∀ i, j ≤ i → i < 16 → slAt s ws q i = slAt s ws0 q i
def Cl (i : Int) : Prop := Free s ws0 q ∧ pgAt s ws q = held c ∧ ∀ j, 0 ≤ j → j < i → slAt s ws q j = 0
def Sm (ws' : Nat → Int) : Prop := pgAt s ws' q = pgAt s ws q ∧ ∀ i, 0 ≤ i → i < 16 → slAt s ws' q i = slAt s ws q i
/-- What a page may say meanwhile. -/
inductive Pq (h : Int) : Prop
  | u (e : Un s ws0 ws q)
  | e (e : Em s ws0 ws q)
  | h (f : Free s ws0 q) (e : pgAt s ws q = held c)
  | b (e : Bo s ws0 ws q h) (h0 : 0 ≤ h) (h1 : h < q) (h2 : q < h + 8) (hh : pgAt s ws h = held c)
  | t (j : Int) (e : Tr s ws0 c ws q j)
end
section
variable {s : Sh} {ws0 ws ws' : Nat → Int} {c q h : Int}
theorem Un.tr (e : Un s ws0 ws q) (hs : Sm s ws q ws') : Un s ws0 ws' q := ⟨hs.1.trans e.1, fun i i0 i1 => (hs.2 i i0 i1).trans (e.2 i i0 i1)⟩
theorem Zs.tr (e : Zs s ws q) (hs : Sm s ws q ws') : Zs s ws' q := fun i i0 i1 => (hs.2 i i0 i1).trans (e i i0 i1)
theorem Em.tr (e : Em s ws0 ws q) (hs : Sm s ws q ws') : Em s ws0 ws' q := ⟨e.1, hs.1.trans e.2.1, e.2.2.tr hs⟩
theorem Hl.tr (e : Hl s ws0 c ws q) (hs : Sm s ws q ws') : Hl s ws0 c ws' q := ⟨e.1, hs.1.trans e.2.1, e.2.2.tr hs⟩
theorem Bo.tr (e : Bo s ws0 ws q h) (hs : Sm s ws q ws') : Bo s ws0 ws' q h := ⟨e.1, hs.1.trans e.2.1, e.2.2.tr hs⟩
theorem Sm.pg (hm : may s.p s.c s.m = true) {q0 y : Int} (a0 : 0 ≤ q0) (a1 : q0 < s.p) (h0 : 0 ≤ q) (h1 : q < s.p) (hne : q ≠ q0) : Sm s ws q (upW ws (page s.p s.c s.m q0) y) :=
  ⟨by rw [pg_pg hm a0 a1 h0 h1, if_neg hne], fun i i0 i1 => sl_pg hm a0 a1 h0 i0⟩
theorem Sm.sl (hm : may s.p s.c s.m = true) {q0 i0 y : Int} (a0 : 0 ≤ q0) (a1 : q0 < s.p) (b0 : 0 ≤ i0) (b1 : i0 < 16) (h0 : 0 ≤ q) (h1 : q < s.p) (hne : q ≠ q0) : Sm s ws q (upW ws (slot s.p s.c s.m q0 i0) y) :=
  ⟨pg_sl hm a0 a1 b0 b1 h0 h1, fun i j0 j1 => by rw [sl_sl hm a0 a1 b0 b1 h0 j0 j1, if_neg fun e => hne e.1]⟩
/-- What none may have is as it was. -/
theorem Pq.keep (h1 : Pq s ws0 c ws q h) (hf : ¬ Free s ws0 q) : pgAt s ws q = pgAt s ws0 q := by
  cases h1 with
  | u e => exact e.1
  | e e => exact absurd e.1 hf
  | h f e => exact absurd f hf
  | b e => exact absurd e.1 hf
  | t j e => exact e.1
theorem not_free {k : Int} (hk : pgK s q (pgAt s ws0 q) = k) (h0 : k ≠ 0) (h2 : k ≠ 2) : ¬ Free s ws0 q := fun hf => by
  rcases hf with e | ⟨e, -⟩ <;> rw [hk] at e
  · exact h0 e
  · exact h2 e
theorem Pq.snd (hm : may s.p s.c s.m = true) (hsn : Snd s ws0) (c0 : 0 ≤ c) (c1 : c < s.c) (hall : ∀ q, 0 ≤ q → q < s.p → Pq s ws0 c ws q h)
    (mg : ∀ c' j, 0 ≤ c' → c' < s.c → 0 ≤ j → j < s.m → mgAt s ws c' j = mgAt s ws0 c' j) : Snd s ws := by
  have hb := (may_iff _ _ _).1 hm
  have wn := way_ne c c0 (by omega)
  refine ⟨fun q q1 => ?_, fun c' j h1 h2 hx => ?_, fun c' j c'' j' h1 h2 h3 ha hx hy => ?_⟩
  · obtain ⟨e1, e2⟩ := hsn.pg q q1
    cases hall q (by omega) q1 with
    | u e =>
      rw [e.1]
      refine ⟨e1, ⟨fun k j hj => ?_, fun k k' j hj => ?_, fun k k' k4 => ?_, fun k k' k4 k3 j j1 j2 => ?_⟩⟩
      · rw [e.2 j (by omega) (by omega)]; exact e2.sup k j hj
      · rw [e.2 j (by omega) (by omega)]; exact e2.emp k k' j hj
      · have hbo := Ad.ok_body e1 (beq_iff_eq.1 k4)
        have hbd := e2.bod k k' k4
        obtain ⟨A', hA'⟩ : ∃ A', pgA s q (pgAt s ws0 q) = A' := ⟨_, rfl⟩
        rw [hA'] at hbo hbd ⊢
        have hnf : ¬ Free s ws0 A' := by
          obtain ⟨k', hk'⟩ : ∃ k', pgK s A' (pgAt s ws0 A') = k' := ⟨_, rfl⟩
          rw [hk'] at hbd
          refine not_free hk' (fun e => ?_) (fun e => ?_) <;> rw [e] at hbd <;> simp at hbd
        rw [(hall A' hbo.1 (by omega)).keep hnf]; exact hbd
      · have hl := large_bd e1 (beq_iff_eq.1 k3)
        have he := e2.lar k k' k4 k3 j j1 j2
        rw [(hall (q + j) (by omega) (by omega)).keep (not_free he.1 (by decide) (by decide))]; exact he
    | e e =>
      rw [e.2.1, pgK_zero]
      exact ⟨okPg_zero hm (by omega) q1, SpB.oth rfl (fun j hj => e.2.2 j (by omega) (by omega)) rfl rfl⟩
    | h f e =>
      rw [e]
      have ho := held_ok hm (by omega : (0 : Int) ≤ q) q1 c0 c1
      exact ⟨ho.1, SpB.one (by rw [ho.2.1]; rfl) (by rw [ho.2.1]; rfl)⟩
    | b e g0 g1 g2 hh =>
      rw [e.2.1]
      have ho := body_ok hm g0 g1 g2 q1
      refine ⟨ho.1, SpB.four (by rw [ho.2.1]; rfl) (fun j hj => e.2.2 j (by omega) (by omega)) (by rw [ho.2.1]; rfl) ?_⟩
      rw [ho.2.2, hh, (held_ok hm g0 (by omega) c0 c1).2.1]; rfl
    | t j e =>
      obtain ⟨t1, t2, t3, t4, t5, t6⟩ := e
      rw [t1]
      refine ⟨e1, SpB.two (by rw [t2]; rfl) fun i hi => ?_⟩
      by_cases hij : (i : Int) < j
      · rw [(t5 i (by omega) hij).1]
        unfold slB
        rw [decide_eq_true (by omega : (i : Int) < slots (pgA s q (pgAt s ws0 q))), wn.2.1, wn.2.2]; simp; exact c1
      · rw [t6 i (by omega) (by omega)]; exact e2.sup (by rw [t2]; rfl) i hi
  · rw [mg c' j (by omega) h1 (by omega) h2] at hx ⊢
    obtain ⟨e1, e2, e3, e4⟩ := hsn.en c' j h1 h2 hx
    have hE := en_bd e1
    have hS := en_slot e1
    have hwk : slK (slAt s ws0 (enP s (mgAt s ws0 c' j)) (enS s (mgAt s ws0 c' j))) = 2 := by rw [e4]; exact (way_ne c' (by omega) (by omega)).2.1
    have hnf : ¬ Free s ws0 (enP s (mgAt s ws0 c' j)) := fun hf => by
      rcases hf with e | ⟨-, e⟩
      · rw [e] at e2; cases e2
      · have := e _ hE.2.2.1 (by rw [e3]; exact hS)
        rw [hwk] at this; cases this
    have hk := (hall _ hE.1 hE.2.1).keep hnf
    refine ⟨e1, by rw [hk]; exact e2, by rw [hk]; exact e3, ?_⟩
    cases hall _ hE.1 hE.2.1 with
    | u e => rw [e.2 _ hE.2.2.1 hE.2.2.2]; exact e4
    | e e => exact absurd e.1 hnf
    | h f e => exact absurd f hnf
    | b e => exact absurd e.1 hnf
    | t j' e =>
      obtain ⟨t1, t2, t3, t4, t5, t6⟩ := e
      by_cases hij : enS s (mgAt s ws0 c' j) < j'
      · exfalso
        have h5 := (t5 _ hE.2.2.1 hij).2
        have hA := Gv.ok_super (pgK_ne (s := s) (x := pgAt s ws0 (enP s (mgAt s ws0 c' j))) (by rw [t2]; decide)) t2
        rw [h5, (opn_ne _ hA.1 (by omega)).2.1] at hwk; cases hwk
      · rw [t6 _ (by omega) hE.2.2.2]; exact e4
  · have hc' : (c'' : Int) < s.c := by unfold ahead at ha; omega
    rw [mg c' j (by omega) h1 (by omega) h2] at hx ⊢
    rw [mg c'' j' (by omega) hc' (by omega) h3] at hy ⊢
    exact hsn.dj c' j c'' j' h1 h2 h3 ha hx hy
theorem Free.none {p : Nat} (hf : Free s ws0 p) : blkPg s ws0 p = [] := by
  rcases hf with e | ⟨e, e2⟩
  · exact blkPg_none (by rw [e]; decide) (by rw [e]; decide)
  · have hA := Gv.ok_super (pgK_ne (s := s) (x := pgAt s ws0 p) (by rw [e]; decide)) e
    have hs := slots_four hA.1 hA.2.1
    unfold blkPg
    rw [if_neg (by rw [e]; decide), if_pos e]
    refine List.eq_nil_iff_forall_not_mem.2 fun y hy => ?_
    obtain ⟨i, h1, h2, -⟩ := blkSl_mem.1 hy
    rw [e2 i (by omega) (by omega)] at h2; cases h2
theorem Pq.blk (hm : may s.p s.c s.m = true) (c0 : 0 ≤ c) (c1 : c < s.c) {p : Nat} (p1 : (p : Int) < s.p) (hp : Pq s ws0 c ws p h) : blkPg s ws p = blkPg s ws0 p := by
  have hb := (may_iff _ _ _).1 hm
  have wn := way_ne c c0 (by omega)
  cases hp with
  | u e => exact blkPg_congr (by rw [e.1]) (fun _ => by rw [e.1]) fun _ i hi => by rw [e.2 i (by omega) (by omega)]
  | e e => rw [e.1.none, blkPg_none (by rw [e.2.1, pgK_zero]; decide) (by rw [e.2.1, pgK_zero]; decide)]
  | h f e =>
    have ho := held_ok hm (by omega : (0 : Int) ≤ p) p1 c0 c1
    rw [f.none, blkPg_none (by rw [e, ho.2.1]; decide) (by rw [e, ho.2.1]; decide)]
  | b e g0 g1 g2 hh =>
    have ho := body_ok hm g0 g1 g2 p1
    rw [e.1.none, blkPg_none (by rw [e.2.1, ho.2.1]; decide) (by rw [e.2.1, ho.2.1]; decide)]
  | t j e =>
    obtain ⟨t1, t2, t3, t4, t5, t6⟩ := e
    have hA := Gv.ok_super (pgK_ne (s := s) (x := pgAt s ws0 p) (by rw [t2]; decide)) t2
    refine blkPg_congr (by rw [t1]) (fun _ => by rw [t1]) fun _ i hi => ?_
    by_cases hij : (i : Int) < j
    · have := t5 i (by omega) hij
      rw [this.1, this.2, wn.2.1, (opn_ne _ hA.1 (by omega)).2.1]; decide
    · rw [t6 i (by omega) (by omega)]
theorem Pq.blks (hm : may s.p s.c s.m = true) (c0 : 0 ≤ c) (c1 : c < s.c) (hall : ∀ q, 0 ≤ q → q < s.p → Pq s ws0 c ws q h) {n : Nat} (hn : (n : Int) ≤ s.p) : Go.Ma.blks s ws n = Go.Ma.blks s ws0 n :=
  blks_congr fun p hp => (hall p (by omega) (by omega)).blk hm c0 c1 (by omega)
end
end Rw
end Go.Ma
