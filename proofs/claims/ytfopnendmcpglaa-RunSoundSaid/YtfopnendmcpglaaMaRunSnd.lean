/-
  Pages of a sound heap that one claims: what each of them says; the heap is sound still, and its blocks are the same. Conditions: none.
-/
import Derived.Test.YtfopnendmcpglaaMaGiveB
import Derived.Test.YtfopnendmcpglaaMaRun
set_option linter.unusedVariables false
set_option linter.unusedSectionVars false
set_option linter.unusedSimpArgs false
namespace Go.Ma
open Go.Pl
theorem is_opn {x : Int} (hk : slK x = 1) : x = opn (slA x) := by
  have ho : okSl x = true := by
    cases e : okSl x
    · unfold slK at hk; rw [e] at hk; cases hk
    · rfl
  have h1 : x % 16 = 1 := by unfold slK at hk; rw [if_pos ho] at hk; exact hk
  unfold slA opn
  rw [if_pos ho]
  unfold okSl at ho
  rw [h1] at ho
  exact (of_decide_eq_true ho).symm
theorem is_empty {s : Sh} {q x : Int} (ho : okPg s q x = true) (hk : pgK s q x = 0) : x = 0 := by
  have h1 : x % 16 = 0 := by unfold pgK at hk; rw [if_pos ho] at hk; exact hk
  unfold okPg at ho
  rw [h1] at ho
  simp only [Bool.and_eq_true, decide_eq_true_eq] at ho
  have h2 := ho.1
  unfold putPg at h2
  split at h2
  · rename_i h3
    have h4 := h3.2.2.2.2.2.2.1 rfl
    have h5 := h3.2.2.2.2.2.2.2 (by decide)
    omega
  · exact h2.symm
theorem body_ok {s : Sh} {q h : Int} (hm : may s.p s.c s.m = true) (h0 : 0 ≤ h) (h1 : h < q) (h2 : q < h + 8) (h3 : q < s.p) : okPg s q (putPg 4 h 0) = true ∧ pgK s q (putPg 4 h 0) = 4 ∧ pgA s q (putPg 4 h 0) = h := by
  have hb := (may_iff _ _ _).1 hm
  have hv : putPg 4 h 0 = 4 + 16 * h := by unfold putPg; rw [if_pos (by omega)]; omega
  have e1 : (4 + 16 * h) % 16 = 4 := by omega
  have e2 : pt (4 + 16 * h) 16 = h := by unfold pt; omega
  have e3 : pt (4 + 16 * h) 4096 = 0 := by unfold pt; omega
  have hp : 0 ≤ page s.p s.c s.m q := by rw [page_yes hm (by omega) h3]; omega
  have ok : okPg s q (putPg 4 h 0) = true := by
    rw [hv]
    unfold okPg
    rw [e1, e2, e3]
    have g1 : decide (putPg 4 h 0 = 4 + 16 * h) = true := decide_eq_true hv
    have g3 : fits s q 4 h 0 = true := by unfold fits; simp; omega
    rw [g1, g3, decide_eq_true hp]; rfl
  refine ⟨ok, ?_, ?_⟩
  · unfold pgK; rw [if_pos ok, hv, e1]
  · unfold pgA; rw [if_pos ok, hv, e2]
theorem en_slot {s : Sh} {y : Int} (e1 : okEn s y = true) : enS s y < slots (enK s y) := by
  unfold enS enK
  rw [if_pos e1, if_pos e1]
  unfold okEn at e1
  simp only [Bool.and_eq_true, decide_eq_true_eq] at e1
  exact e1.2.2
namespace Rw
section
variable (s : Sh) (ws0 : Nat → Int) (c : Int) (ws : Nat → Int) (q : Int)
/-- Nobody has a page, nor a slot of it. -/
def Free : Prop := pgK s q (pgAt s ws0 q) = 0 ∨ (pgK s q (pgAt s ws0 q) = 2 ∧ ∀ i, 0 ≤ i → i < slots (pgA s q (pgAt s ws0 q)) → slK (slAt s ws0 q i) = 1)
def Zs : Prop := ∀ i, 0 ≤ i → i < 16 → slAt s ws q i = 0
def Un : Prop := pgAt s ws q = pgAt s ws0 q ∧ ∀ i, 0 ≤ i → i < 16 → slAt s ws q i = slAt s ws0 q i
def Em : Prop := Free s ws0 q ∧ pgAt s ws q = 0 ∧ Zs s ws q
def Hl : Prop := Free s ws0 q ∧ pgAt s ws q = held c ∧ Zs s ws q
def Bo (h : Int) : Prop := Free s ws0 q ∧ pgAt s ws q = putPg 4 h 0 ∧ Zs s ws q
def Tr (j : Int) : Prop := pgAt s ws q = pgAt s ws0 q ∧ pgK s q (pgAt s ws0 q) = 2 ∧ 0 ≤ j ∧ j ≤ slots (pgA s q (pgAt s ws0 q)) ∧ (∀ i, 0 ≤ i → i < j → slAt s ws q i = way c ∧ slAt s ws0 q i = opn (pgA s q (pgAt s ws0 q))) ∧ ∀ i, j ≤ i → i < 16 → slAt s ws q i = slAt s ws0 q i
def Cl (i : Int) : Prop := Free s ws0 q ∧ pgAt s ws q = held c ∧ ∀ j, 0 ≤ j → j < i → slAt s ws q j = 0
def Sm (ws' : Nat → Int) : Prop := pgAt s ws' q = pgAt s ws q ∧ ∀ i, 0 ≤ i → i < 16 → slAt s ws' q i = slAt s ws q i
/-- What a page may say meanwhile. -/
inductive Pq (h : Int) : Prop
  | u (e : Un s ws0 ws q)
  | e (e : Em s ws0 ws q)
  | h (f : Free s ws0 q) (e : pgAt s ws q = held c)
  | b (e : Bo s ws0 ws q h) (h0 : 0 ≤ h) (h1 : h < q) (h2 : q < h + 8) (hh : pgAt s ws h = held c)
  | t (j : Int) (e : Tr s ws0 c ws q j)
end
section
variable {s : Sh} {ws0 ws ws' : Nat → Int} {c q h : Int}
theorem Un.tr (e : Un s ws0 ws q) (hs : Sm s ws q ws') : Un s ws0 ws' q := ⟨hs.1.trans e.1, fun i i0 i1 => (hs.2 i i0 i1).trans (e.2 i i0 i1)⟩
theorem Zs.tr (e : Zs s ws q) (hs : Sm s ws q ws') : Zs s ws' q := fun i i0 i1 => (hs.2 i i0 i1).trans (e i i0 i1)
theorem Em.tr (e : Em s ws0 ws q) (hs : Sm s ws q ws') : Em s ws0 ws' q := ⟨e.1, hs.1.trans e.2.1, e.2.2.tr hs⟩
theorem Hl.tr (e : Hl s ws0 c ws q) (hs : Sm s ws q ws') : Hl s ws0 c ws' q := ⟨e.1, hs.1.trans e.2.1, e.2.2.tr hs⟩
theorem Bo.tr (e : Bo s ws0 ws q h) (hs : Sm s ws q ws') : Bo s ws0 ws' q h := ⟨e.1, hs.1.trans e.2.1, e.2.2.tr hs⟩
theorem Sm.pg (hm : may s.p s.c s.m = true) {q0 y : Int} (a0 : 0 ≤ q0) (a1 : q0 < s.p) (h0 : 0 ≤ q) (h1 : q < s.p) (hne : q ≠ q0) : Sm s ws q (upW ws (page s.p s.c s.m q0) y) :=
  ⟨by rw [pg_pg hm a0 a1 h0 h1, if_neg hne], fun i i0 i1 => sl_pg hm a0 a1 h0 i0⟩
theorem Sm.sl (hm : may s.p s.c s.m = true) {q0 i0 y : Int} (a0 : 0 ≤ q0) (a1 : q0 < s.p) (b0 : 0 ≤ i0) (b1 : i0 < 16) (h0 : 0 ≤ q) (h1 : q < s.p) (hne : q ≠ q0) : Sm s ws q (upW ws (slot s.p s.c s.m q0 i0) y) :=
  ⟨pg_sl hm a0 a1 b0 b1 h0 h1, fun i j0 j1 => by rw [sl_sl hm a0 a1 b0 b1 h0 j0 j1, if_neg fun e => hne e.1]⟩
/-- What none may have is as it was. -/
theorem Pq.keep (h1 : Pq s ws0 c ws q h) (hf : ¬ Free s ws0 q) : pgAt s ws q = pgAt s ws0 q := by
  cases h1 with
  | u e => exact e.1
  | e e => exact absurd e.1 hf
  | h f e => exact absurd f hf
  | b e => exact absurd e.1 hf
  | t j e => exact e.1
theorem not_free {k : Int} (hk : pgK s q (pgAt s ws0 q) = k) (h0 : k ≠ 0) (h2 : k ≠ 2) : ¬ Free s ws0 q := fun hf => by
  rcases hf with e | ⟨e, -⟩ <;> rw [hk] at e
  · exact h0 e
  · exact h2 e
theorem Pq.snd (hm : may s.p s.c s.m = true) (hsn : Snd s ws0) (c0 : 0 ≤ c) (c1 : c < s.c) (hall : ∀ q, 0 ≤ q → q < s.p → Pq s ws0 c ws q h)
    (mg : ∀ c' j, 0 ≤ c' → c' < s.c → 0 ≤ j → j < s.m → mgAt s ws c' j = mgAt s ws0 c' j) : Snd s ws := by
  have hb := (may_iff _ _ _).1 hm
  have wn := way_ne c c0 (by omega)
  refine ⟨fun q q1 => ?_, fun c' j h1 h2 hx => ?_, fun c' j c'' j' h1 h2 h3 ha hx hy => ?_⟩
  · obtain ⟨e1, e2⟩ := hsn.pg q q1
    cases hall q (by omega) q1 with
    | u e =>
      rw [e.1]
      refine ⟨e1, ⟨fun k j hj => ?_, fun k k' j hj => ?_, fun k k' k4 => ?_, fun k k' k4 k3 j j1 j2 => ?_⟩⟩
      · rw [e.2 j (by omega) (by omega)]; exact e2.sup k j hj
      · rw [e.2 j (by omega) (by omega)]; exact e2.emp k k' j hj
      · have hbo := Ad.ok_body e1 (beq_iff_eq.1 k4)
        have hbd := e2.bod k k' k4
        obtain ⟨A', hA'⟩ : ∃ A', pgA s q (pgAt s ws0 q) = A' := ⟨_, rfl⟩
        rw [hA'] at hbo hbd ⊢
        have hnf : ¬ Free s ws0 A' := by
          obtain ⟨k', hk'⟩ : ∃ k', pgK s A' (pgAt s ws0 A') = k' := ⟨_, rfl⟩
          rw [hk'] at hbd
          refine not_free hk' (fun e => ?_) (fun e => ?_) <;> rw [e] at hbd <;> simp at hbd
        rw [(hall A' hbo.1 (by omega)).keep hnf]; exact hbd
      · have hl := large_bd e1 (beq_iff_eq.1 k3)
        have he := e2.lar k k' k4 k3 j j1 j2
        rw [(hall (q + j) (by omega) (by omega)).keep (not_free he.1 (by decide) (by decide))]; exact he
    | e e =>
      rw [e.2.1, pgK_zero]
      exact ⟨okPg_zero hm (by omega) q1, SpB.oth rfl (fun j hj => e.2.2 j (by omega) (by omega)) rfl rfl⟩
    | h f e =>
      rw [e]
      have ho := held_ok hm (by omega : (0 : Int) ≤ q) q1 c0 c1
      exact ⟨ho.1, SpB.one (by rw [ho.2.1]; rfl) (by rw [ho.2.1]; rfl)⟩
    | b e g0 g1 g2 hh =>
      rw [e.2.1]
      have ho := body_ok hm g0 g1 g2 q1
      refine ⟨ho.1, SpB.four (by rw [ho.2.1]; rfl) (fun j hj => e.2.2 j (by omega) (by omega)) (by rw [ho.2.1]; rfl) ?_⟩
      rw [ho.2.2, hh, (held_ok hm g0 (by omega) c0 c1).2.1]; rfl
    | t j e =>
      obtain ⟨t1, t2, t3, t4, t5, t6⟩ := e
      rw [t1]
      refine ⟨e1, SpB.two (by rw [t2]; rfl) fun i hi => ?_⟩
      by_cases hij : (i : Int) < j
      · rw [(t5 i (by omega) hij).1]
        unfold slB
        rw [decide_eq_true (by omega : (i : Int) < slots (pgA s q (pgAt s ws0 q))), wn.2.1, wn.2.2]; simp; exact c1
      · rw [t6 i (by omega) (by omega)]; exact e2.sup (by rw [t2]; rfl) i hi
  · rw [mg c' j (by omega) h1 (by omega) h2] at hx ⊢
    obtain ⟨e1, e2, e3, e4⟩ := hsn.en c' j h1 h2 hx
    have hE := en_bd e1
    have hS := en_slot e1
    have hwk : slK (slAt s ws0 (enP s (mgAt s ws0 c' j)) (enS s (mgAt s ws0 c' j))) = 2 := by rw [e4]; exact (way_ne c' (by omega) (by omega)).2.1
    have hnf : ¬ Free s ws0 (enP s (mgAt s ws0 c' j)) := fun hf => by
      rcases hf with e | ⟨-, e⟩
      · rw [e] at e2; cases e2
      · have := e _ hE.2.2.1 (by rw [e3]; exact hS)
        rw [hwk] at this; cases this
    have hk := (hall _ hE.1 hE.2.1).keep hnf
    refine ⟨e1, by rw [hk]; exact e2, by rw [hk]; exact e3, ?_⟩
    cases hall _ hE.1 hE.2.1 with
    | u e => rw [e.2 _ hE.2.2.1 hE.2.2.2]; exact e4
    | e e => exact absurd e.1 hnf
    | h f e => exact absurd f hnf
    | b e => exact absurd e.1 hnf
    | t j' e =>
      obtain ⟨t1, t2, t3, t4, t5, t6⟩ := e
      by_cases hij : enS s (mgAt s ws0 c' j) < j'
      · exfalso
        have h5 := (t5 _ hE.2.2.1 hij).2
        have hA := Gv.ok_super (pgK_ne (s := s) (x := pgAt s ws0 (enP s (mgAt s ws0 c' j))) (by rw [t2]; decide)) t2
        rw [h5, (opn_ne _ hA.1 (by omega)).2.1] at hwk; cases hwk
      · rw [t6 _ (by omega) hE.2.2.2]; exact e4
  · have hc' : (c'' : Int) < s.c := by unfold ahead at ha; omega
    rw [mg c' j (by omega) h1 (by omega) h2] at hx ⊢
    rw [mg c'' j' (by omega) hc' (by omega) h3] at hy ⊢
    exact hsn.dj c' j c'' j' h1 h2 h3 ha hx hy
theorem Free.none {p : Nat} (hf : Free s ws0 p) : blkPg s ws0 p = [] := by
  rcases hf with e | ⟨e, e2⟩
  · exact blkPg_none (by rw [e]; decide) (by rw [e]; decide)
  · have hA := Gv.ok_super (pgK_ne (s := s) (x := pgAt s ws0 p) (by rw [e]; decide)) e
    have hs := slots_four hA.1 hA.2.1
    unfold blkPg
    rw [if_neg (by rw [e]; decide), if_pos e]
    refine List.eq_nil_iff_forall_not_mem.2 fun y hy => ?_
    obtain ⟨i, h1, h2, -⟩ := blkSl_mem.1 hy
    rw [e2 i (by omega) (by omega)] at h2; cases h2
theorem Pq.blk (hm : may s.p s.c s.m = true) (c0 : 0 ≤ c) (c1 : c < s.c) {p : Nat} (p1 : (p : Int) < s.p) (hp : Pq s ws0 c ws p h) : blkPg s ws p = blkPg s ws0 p := by
  have hb := (may_iff _ _ _).1 hm
  have wn := way_ne c c0 (by omega)
  cases hp with
  | u e => exact blkPg_congr (by rw [e.1]) (fun _ => by rw [e.1]) fun _ i hi => by rw [e.2 i (by omega) (by omega)]
  | e e => rw [e.1.none, blkPg_none (by rw [e.2.1, pgK_zero]; decide) (by rw [e.2.1, pgK_zero]; decide)]
  | h f e =>
    have ho := held_ok hm (by omega : (0 : Int) ≤ p) p1 c0 c1
    rw [f.none, blkPg_none (by rw [e, ho.2.1]; decide) (by rw [e, ho.2.1]; decide)]
  | b e g0 g1 g2 hh =>
    have ho := body_ok hm g0 g1 g2 p1
    rw [e.1.none, blkPg_none (by rw [e.2.1, ho.2.1]; decide) (by rw [e.2.1, ho.2.1]; decide)]
  | t j e =>
    obtain ⟨t1, t2, t3, t4, t5, t6⟩ := e
    have hA := Gv.ok_super (pgK_ne (s := s) (x := pgAt s ws0 p) (by rw [t2]; decide)) t2
    refine blkPg_congr (by rw [t1]) (fun _ => by rw [t1]) fun _ i hi => ?_
    by_cases hij : (i : Int) < j
    · have := t5 i (by omega) hij
      rw [this.1, this.2, wn.2.1, (opn_ne _ hA.1 (by omega)).2.1]; decide
    · rw [t6 i (by omega) (by omega)]
theorem Pq.blks (hm : may s.p s.c s.m = true) (c0 : 0 ≤ c) (c1 : c < s.c) (hall : ∀ q, 0 ≤ q → q < s.p → Pq s ws0 c ws q h) {n : Nat} (hn : (n : Int) ≤ s.p) : Go.Ma.blks s ws n = Go.Ma.blks s ws0 n :=
  blks_congr fun p hp => (hall p (by omega) (by omega)).blk hm c0 c1 (by omega)
end
end Rw
namespace Rw
section
variable (s : Sh) (ws0 : Nat → Int) (c n : Int) (ws : Nat → Int)
def Lo (hd : Int) : Prop := ∀ q, 0 ≤ q → q < hd → Un s ws0 ws q ∨ Em s ws0 ws q
def Hi (a : Int) : Prop := ∀ q, a ≤ q → q < s.p → Un s ws0 ws q
def No (hd : Int) : Prop := ∀ h, 0 ≤ h → h < hd → ∃ q, h ≤ q ∧ q < h + n ∧ ¬ Free s ws0 q
def Hs (a b : Int) : Prop := ∀ q, a ≤ q → q < b → Hl s ws0 c ws q
inductive Ph (hd at' i nx : Int) (st : Option St) (fd dn : Bool) : Prop
  | look (d : dn = false) (x : nx = 0) (h : Hs s ws0 c ws hd at') (u : Hi s ws0 ws at')
  | claim (d : dn = false) (x : nx = 1) (h : Hs s ws0 c ws hd at') (u : Hi s ws0 ws at') (z : pgAt s ws0 at' = 0)
  | strip (q : St) (d : dn = false) (x : nx = 2) (h : Hs s ws0 c ws hd at') (u : Hi s ws0 ws (at' + 1)) (e : st = some q) (k : q.k = pgA s at' (pgAt s ws0 at')) (t : Tr s ws0 c ws at' q.i) (b : q.bk = true → ¬ Free s ws0 at')
  | clear (d : dn = false) (x : nx = 3) (h : Hs s ws0 c ws hd at') (u : Hi s ws0 ws (at' + 1)) (l : Cl s ws0 c ws at' i)
  | back (d : dn = false) (x : nx = 4) (h : Hs s ws0 c ws hd i) (e : ∀ q, i ≤ q → q < at' → Em s ws0 ws q) (u : Hi s ws0 ws at') (f : ¬ Free s ws0 at')
  | body (d : dn = false) (x : nx = 5) (a : at' = hd + n) (l : hd < i) (hh : Hl s ws0 c ws hd) (e : ∀ q, hd < q → q < i → Bo s ws0 ws q hd) (h : Hs s ws0 c ws i at') (u : Hi s ws0 ws at')
  | won (d : dn = true) (f : fd = true) (nn : 1 ≤ n ∧ n ≤ 8 ∧ 0 ≤ hd ∧ hd + n ≤ s.p) (hh : Hl s ws0 c ws hd) (e : ∀ q, hd < q → q < hd + n → Bo s ws0 ws q hd) (u : Hi s ws0 ws (hd + n))
  | lost (d : dn = true) (f : fd = false) (a : Lo s ws0 ws s.p) (o : ∀ h, 0 ≤ h → h + n ≤ s.p → ∃ q, h ≤ q ∧ q < h + n ∧ ¬ Free s ws0 q)
/-- How far it is, and what is behind it. -/
def Go' (t : Rn) : Prop := (t.fd = true ∨ t.dn = false → Lo s ws0 ws t.hd ∧ No s ws0 n t.hd) ∧ Ph s ws0 c n ws t.hd t.at' t.i t.nx t.st t.fd t.dn
end
section
variable {s : Sh} {ws0 ws ws' : Nat → Int} {c n : Int} {t : Rn}
theorem written_ok (hd : t.dn = false) (hx : t.nx = 5) (hn : 1 ≤ n ∧ n ≤ 8 ∧ 0 ≤ t.hd ∧ t.hd + n ≤ s.p) (htn : t.n = n) (a : t.at' = t.hd + n) (l : t.hd ≤ t.i) (l2 : t.i < t.hd + n) (lo : Lo s ws0 ws t.hd) (no : No s ws0 n t.hd)
    (hh : Hl s ws0 c ws t.hd) (e : ∀ q, t.hd < q → q < t.i + 1 → Bo s ws0 ws q t.hd) (h : Hs s ws0 c ws (t.i + 1) t.at') (u : Hi s ws0 ws t.at') : Go' s ws0 c n ws t.written := by
  unfold Rn.written
  split
  · rename_i h1
    rw [htn] at h1
    exact ⟨fun _ => ⟨lo, no⟩, .won rfl rfl hn hh (fun q q0 q1 => e q q0 (by have q1 : q < t.hd + n := q1; omega)) (by rw [a] at u; exact u)⟩
  · exact ⟨fun _ => ⟨lo, no⟩, .body hd hx a (by show t.hd < t.i + 1; omega) hh e h u⟩
theorem own_ok (hd : t.dn = false) (hn : 1 ≤ n ∧ n ≤ 8 ∧ 0 ≤ t.hd ∧ t.hd + n ≤ s.p) (htn : t.n = n) (a0 : t.hd ≤ t.at') (a1 : t.at' < t.hd + n) (lo : Lo s ws0 ws t.hd) (no : No s ws0 n t.hd)
    (h : Hs s ws0 c ws t.hd (t.at' + 1)) (u : Hi s ws0 ws (t.at' + 1)) : Go' s ws0 c n ws t.own := by
  unfold Rn.own
  split
  · rename_i h1
    rw [htn] at h1
    exact written_ok (t := { t with at' := t.at' + 1, nx := 5, i := t.hd }) hd rfl hn htn h1 (Int.le_refl _) (by show t.hd < t.hd + n; omega) lo no (h t.hd (Int.le_refl _) (by omega)) (fun q q0 q1 => by have q0 : t.hd < q := q0; have q1 : q < t.hd + 1 := q1; omega)
      (fun q q0 q1 => h q (by have q0 : t.hd + 1 ≤ q := q0; omega) q1) u
  · exact ⟨fun _ => ⟨lo, no⟩, .look hd rfl h u⟩
theorem gone_ok (hd : t.dn = false) (hf : t.fd = false) (hx : t.nx = 4) (hs : t.s = s) (hn : 1 ≤ n ∧ n ≤ 8 ∧ 0 ≤ t.hd ∧ t.hd + n ≤ s.p) (htn : t.n = n) (a0 : t.hd ≤ t.at') (a1 : t.at' < t.hd + n) (lo : Lo s ws0 ws t.hd) (no : No s ws0 n t.hd)
    (h : Hs s ws0 c ws t.hd t.i) (e : ∀ q, t.i ≤ q → q < t.at' → Em s ws0 ws q) (u : Hi s ws0 ws t.at') (f : ¬ Free s ws0 t.at') : Go' s ws0 c n ws t.gone := by
  unfold Rn.gone
  split
  · exact ⟨fun _ => ⟨lo, no⟩, .back hd hx h e u f⟩
  · rename_i h1
    have lo' : Lo s ws0 ws (t.at' + 1) := fun q q0 q1 => by
      by_cases g : q < t.hd
      · exact lo q q0 g
      · by_cases g2 : q = t.at'
        · exact .inl (u q (by omega) (by omega))
        · exact .inr (e q (by omega) (by omega))
    have no' : No s ws0 n (t.at' + 1) := fun h h0 h1 => by
      by_cases g : h < t.hd
      · exact no h h0 g
      · exact ⟨t.at', by omega, by omega, f⟩
    rw [hs, htn]
    cases hz : decide (s.p - n < t.at' + 1)
    · exact ⟨fun _ => ⟨lo', no'⟩, .look rfl rfl (fun q q0 q1 => by have q0 : t.at' + 1 ≤ q := q0; have q1 : q < t.at' + 1 := q1; omega) fun q q0 q1 => u q (by have q0 : t.at' + 1 ≤ q := q0; omega) q1⟩
    · have hz := of_decide_eq_true hz
      refine ⟨fun g => ?_, .lost rfl hf (fun q q0 q1 => ?_) fun h h0 h1 => no' h h0 (by omega)⟩
      · rcases g with g | g
        · have g : t.fd = true := g
          rw [hf] at g; cases g
        · cases g
      · by_cases g : q < t.at' + 1
        · exact lo' q q0 g
        · exact .inl (u q (by omega) q1)
theorem miss_ok (hd : t.dn = false) (hf : t.fd = false) (hs : t.s = s) (hn : 1 ≤ n ∧ n ≤ 8 ∧ 0 ≤ t.hd ∧ t.hd + n ≤ s.p) (htn : t.n = n) (a0 : t.hd ≤ t.at') (a1 : t.at' < t.hd + n) (lo : Lo s ws0 ws t.hd) (no : No s ws0 n t.hd)
    (h : Hs s ws0 c ws t.hd t.at') (u : Hi s ws0 ws t.at') (f : ¬ Free s ws0 t.at') : Go' s ws0 c n ws t.miss :=
  gone_ok (t := { t with nx := 4, i := t.at', gx := t.at' + 1 }) hd hf rfl hs hn htn a0 a1 lo no h (fun q q0 q1 => by have q0 : t.at' ≤ q := q0; have q1 : q < t.at' := q1; omega) u f
structure Al (s : Sh) (ws0 : Nat → Int) (c n : Int) (t : Rn) (w : Wd) : Prop where
  of : w.of s
  ok : may s.p s.c s.m = true
  wf : t.wf ∧ t.s = s ∧ t.c = c ∧ t.n = n
  cb : 0 ≤ c ∧ c < s.c
  snd : Snd s ws0
  mg : ∀ c' j, 0 ≤ c' → c' < s.c → 0 ≤ j → j < s.m → mgAt s w.ws c' j = mgAt s ws0 c' j
  go : Go' s ws0 c n w.ws t
variable {w : Wd}
theorem Al.all (h : Al s ws0 c n t w) : ∀ q, 0 ≤ q → q < s.p → Pq s ws0 c w.ws q t.hd := fun q q0 q1 => by
  have hst := h.go.1
  have hlo : t.fd = true ∨ t.dn = false → q < t.hd → Pq s ws0 c w.ws q t.hd := fun g hq => by
    rcases (hst g).1 q q0 hq with e | e
    · exact .u e
    · exact .e e
  have har := fun hd => (h.wf.1.of hd).2.2
  unfold Rn.Ar at har
  rw [h.wf.2.1, h.wf.2.2.2] at har
  cases h.go.2 with
  | look d x hh u =>
    have := har d
    by_cases g : q < t.hd
    · exact hlo (.inr d) g
    · by_cases g2 : q < t.at'
      · exact .h (hh q (by omega) g2).1 (hh q (by omega) g2).2.1
      · exact .u (u q (by omega) q1)
  | claim d x hh u z =>
    have := har d
    by_cases g : q < t.hd
    · exact hlo (.inr d) g
    · by_cases g2 : q < t.at'
      · exact .h (hh q (by omega) g2).1 (hh q (by omega) g2).2.1
      · exact .u (u q (by omega) q1)
  | strip q' d x hh u e k tr b =>
    have := har d
    by_cases g : q < t.hd
    · exact hlo (.inr d) g
    · by_cases g2 : q < t.at'
      · exact .h (hh q (by omega) g2).1 (hh q (by omega) g2).2.1
      · by_cases g3 : q = t.at'
        · subst g3; exact .t _ tr
        · exact .u (u q (by omega) q1)
  | clear d x hh u l =>
    have := har d
    by_cases g : q < t.hd
    · exact hlo (.inr d) g
    · by_cases g2 : q < t.at'
      · exact .h (hh q (by omega) g2).1 (hh q (by omega) g2).2.1
      · by_cases g3 : q = t.at'
        · subst g3; exact .h l.1 l.2.1
        · exact .u (u q (by omega) q1)
  | back d x hh e u f =>
    have := har d
    by_cases g : q < t.hd
    · exact hlo (.inr d) g
    · by_cases g2 : q < t.i
      · exact .h (hh q (by omega) g2).1 (hh q (by omega) g2).2.1
      · by_cases g3 : q < t.at'
        · exact .e (e q (by omega) g3)
        · exact .u (u q (by omega) q1)
  | body d x a l hh e h' u =>
    have := har d
    by_cases g : q < t.hd
    · exact hlo (.inr d) g
    · by_cases g0 : q = t.hd
      · rw [g0]; exact .h hh.1 hh.2.1
      · by_cases g2 : q < t.i
        · exact .b (e q (by omega) g2) (by omega) (by omega) (by omega) hh.2.1
        · by_cases g3 : q < t.at'
          · exact .h (h' q (by omega) g3).1 (h' q (by omega) g3).2.1
          · exact .u (u q (by omega) q1)
  | won d f nn hh e u =>
    by_cases g : q < t.hd
    · exact hlo (.inl f) g
    · by_cases g0 : q = t.hd
      · rw [g0]; exact .h hh.1 hh.2.1
      · by_cases g2 : q < t.hd + n
        · exact .b (e q (by omega) g2) (by omega) (by omega) (by omega) hh.2.1
        · exact .u (u q (by omega) q1)
  | lost d f a o =>
    rcases a q q0 q1 with e | e
    · exact .u e
    · exact .e e
theorem Al.sound (h : Al s ws0 c n t w) : Snd s w.ws := Pq.snd h.ok h.snd h.cb.1 h.cb.2 h.all h.mg
theorem Al.same (h : Al s ws0 c n t w) {k : Nat} (hk : (k : Int) ≤ s.p) : blks s w.ws k = blks s ws0 k := Pq.blks h.ok h.cb.1 h.cb.2 h.all hk
/-- Found just when there is a row. -/
theorem Al.fin (h : Al s ws0 c n t w) (hd : t.dn = true) : t.fd = true ↔ ∃ h, 0 ≤ h ∧ h + n ≤ s.p ∧ ∀ q, h ≤ q → q < h + n → Free s ws0 q := by
  cases h.go.2 with
  | look d => rw [hd] at d; cases d
  | claim d => rw [hd] at d; cases d
  | strip q' d => rw [hd] at d; cases d
  | clear d => rw [hd] at d; cases d
  | back d => rw [hd] at d; cases d
  | body d => rw [hd] at d; cases d
  | won d f nn hh e u =>
    refine ⟨fun _ => ⟨t.hd, nn.2.2.1, nn.2.2.2, fun q q0 q1 => ?_⟩, fun _ => f⟩
    by_cases g : q = t.hd
    · rw [g]; exact hh.1
    · exact (e q (by omega) q1).1
  | lost d f a o =>
    refine ⟨fun g => by (rw [f] at g; cases g), fun ⟨h, h0, h1, h2⟩ => ?_⟩
    obtain ⟨q, q0, q1, q2⟩ := o h h0 h1
    exact absurd (h2 q q0 q1) q2
theorem Lo.tr {hd q0 : Int} (hq : hd ≤ q0) (hp : hd ≤ s.p) (h : Lo s ws0 ws hd) (fr : ∀ q, 0 ≤ q → q < s.p → q ≠ q0 → Sm s ws q ws') : Lo s ws0 ws' hd := fun q a0 a1 =>
  (h q a0 a1).imp (fun e => e.tr (fr q a0 (by omega) (by omega))) fun e => e.tr (fr q a0 (by omega) (by omega))
theorem Hi.tr {a q0 : Int} (hq : q0 < a) (ha : 0 ≤ a) (h : Hi s ws0 ws a) (fr : ∀ q, 0 ≤ q → q < s.p → q ≠ q0 → Sm s ws q ws') : Hi s ws0 ws' a := fun q a0 a1 => (h q a0 a1).tr (fr q (by omega) a1 (by omega))
theorem Hs.tr {a b q0 : Int} (hq : q0 < a ∨ b ≤ q0) (ha : 0 ≤ a) (hb : b ≤ s.p) (h : Hs s ws0 c ws a b) (fr : ∀ q, 0 ≤ q → q < s.p → q ≠ q0 → Sm s ws q ws') : Hs s ws0 c ws' a b := fun q a0 a1 => (h q a0 a1).tr (fr q (by omega) (by omega) (by omega))
theorem Al.step (h : Al s ws0 c n t w) : Al s ws0 c n (t.step w).1 (t.step w).2 := by
  obtain ⟨w1, w2, w3, w4⟩ := h.wf
  have hm := h.ok
  have hc := h.cb
  have hb := (may_iff _ _ _).1 hm
  have hk := Rn.step_k w1 w
  suffices hh : (∀ c' j, 0 ≤ c' → c' < s.c → 0 ≤ j → j < s.m → mgAt s (t.step w).2.ws c' j = mgAt s ws0 c' j) ∧ Go' s ws0 c n (t.step w).2.ws (t.step w).1 from
    ⟨Rn.step_of w1 h.of, hm, ⟨Rn.step_wf w1 w, hk.1.trans w2, hk.2.1.trans w3, hk.2.2.trans w4⟩, hc, h.snd, hh.1, hh.2⟩
  rcases Rn.step_cases w1 w with ⟨-, e⟩ | ⟨hd, hcs⟩
  · rw [e]; exact ⟨h.mg, h.go⟩
  obtain ⟨-, hf, har⟩ := w1.of hd
  have hqq := w1.q hd
  obtain ⟨lo, no⟩ := h.go.1 (.inr hd)
  unfold Rn.Ar at har
  rw [w2, w3, w4] at har
  have hnn : 1 ≤ n ∧ n ≤ 8 ∧ 0 ≤ t.hd ∧ t.hd + n ≤ s.p := by omega
  have hpat : t.pat = page s.p s.c s.m t.at' := by unfold Rn.pat; rw [w2]
  have hgp : w.get t.pat = pgAt s w.ws t.at' := by rw [hpat]; rfl
  have hok : ∀ q, 0 ≤ q → q < s.p → okPg s q (pgAt s ws0 q) = true := fun q q0 q1 => by
    have := (h.snd.pg q.toNat (by omega)).1
    rw [show ((q.toNat : Nat) : Int) = q by omega] at this; exact this
  have hsp : ∀ q, 0 ≤ q → q < s.p → SpB s ws0 q (pgK s q (pgAt s ws0 q)) (pgA s q (pgAt s ws0 q)) := fun q q0 q1 => by
    have := (h.snd.pg q.toNat (by omega)).2
    rw [show ((q.toNat : Nat) : Int) = q by omega] at this; exact this
  rcases hcs with ⟨hx, e⟩ | ⟨hx, e⟩ | ⟨hx, q, hq, hqw, hqd, hqs, hqc, hqp, e⟩ | ⟨hx, e⟩ | ⟨hx, e⟩ | ⟨hx, e⟩
  · -- looks
    clear hqq
    rw [e]
    refine ⟨h.mg, ?_⟩
    show Go' s ws0 c n w.ws (t.look (w.get t.pat))
    cases h.go.2 with
    | look _ _ hh u =>
      have hun := u t.at' (Int.le_refl _) (by omega)
      rw [hgp, hun.1]
      have ho := hok t.at' (by omega) (by omega)
      unfold Rn.look
      split
      · rename_i g
        unfold Rn.isE at g
        rw [w2] at g
        simp only [Bool.and_eq_true, decide_eq_true_eq] at g
        exact ⟨fun _ => ⟨lo, no⟩, .claim hd rfl hh u (is_empty g.1 g.2)⟩
      · rename_i g
        split
        · rename_i g2
          unfold Rn.isS at g2
          rw [w2] at g2
          simp only [Bool.and_eq_true, decide_eq_true_eq] at g2
          have hA := Gv.ok_super g2.1 g2.2
          have hs4 := slots_four hA.1 hA.2.1
          refine ⟨fun _ => ⟨lo, no⟩, .strip _ hd rfl hh (fun q q0 q1 => u q (by have q0 : t.at' + 1 ≤ q := q0; omega) q1) rfl (by show pgA t.s t.at' _ = _; rw [w2]) ⟨hun.1, g2.2, Int.le_refl _, by show 0 ≤ slots (pgA s t.at' (pgAt s ws0 t.at')); omega, fun i i0 i1 => by have i1 : i < 0 := i1; omega, fun i i0 i1 => hun.2 i i0 i1⟩ (fun g => by cases g)⟩
        · rename_i g2
          refine miss_ok hd hf w2 hnn w4 (by omega) (by omega) lo no hh u fun hfr => ?_
          rcases hfr with g3 | ⟨g3, -⟩
          · exact g (by unfold Rn.isE; rw [w2, ho, decide_eq_true g3]; rfl)
          · exact g2 (by unfold Rn.isS; rw [w2, ho, decide_eq_true g3]; rfl)
    | claim _ x => omega
    | strip _ _ x => omega
    | clear _ x => omega
    | back _ x => omega
    | body _ x => omega
    | won d => rw [hd] at d; cases d
    | lost d => rw [hd] at d; cases d
  · -- claims
    clear hqq
    rw [e]
    cases h.go.2 with
    | claim _ _ hh u z =>
      have hun := u t.at' (Int.le_refl _) (by omega)
      have hg0 : w.get t.pat = 0 := by rw [hgp, hun.1, z]
      have hws : (w.swap t.c t.pat 0 (held t.c)).ws = upW w.ws (page s.p s.c s.m t.at') (held c) := by rw [swap_yes hg0, hpat, w3]
      have fr : ∀ q, 0 ≤ q → q < s.p → q ≠ t.at' → Sm s w.ws q (upW w.ws (page s.p s.c s.m t.at') (held c)) := fun q q0 q1 hne => Sm.pg hm (by omega) (by omega) q0 q1 hne
      refine ⟨fun c' j c0 c1 j0 j1 => ?_, ?_⟩
      · show mgAt s (w.swap t.c t.pat 0 (held t.c)).ws c' j = _
        rw [hws, mg_pg hm (by omega) (by omega) c0 j0]; exact h.mg c' j c0 c1 j0 j1
      · show Go' s ws0 c n (w.swap t.c t.pat 0 (held t.c)).ws (t.claim (w.get t.pat))
        unfold Rn.claim
        rw [if_pos hg0, hws]
        refine own_ok hd hnn w4 (by omega) (by omega) (lo.tr (by omega) (by omega) fr) no (fun q q0 q1 => ?_) (fun q q0 q1 => (u q (by omega) q1).tr (fr q (by omega) q1 (by omega)))
        by_cases g : q = t.at'
        · subst g
          refine ⟨.inl (by rw [z, pgK_zero]), by rw [pg_pg hm (by omega) (by omega) (by omega) (by omega), if_pos rfl], fun i i0 i1 => ?_⟩
          rw [sl_pg hm (by omega) (by omega) (by omega) i0, hun.2 i i0 i1]
          have := (hsp t.at' (by omega) (by omega)).emp (by rw [z, pgK_zero]; rfl) (by rw [z, pgK_zero]; rfl) i.toNat (by omega)
          rw [show ((i.toNat : Nat) : Int) = i by omega] at this; exact this
        · exact (hh q q0 (by omega)).tr (fr q (by omega) (by omega) g)
    | look _ x => omega
    | strip _ _ x => omega
    | clear _ x => omega
    | back _ x => omega
    | body _ x => omega
    | won d => rw [hd] at d; cases d
    | lost d => rw [hd] at d; cases d
  · -- strips
    rw [e]
    cases h.go.2 with
    | strip q' _ _ hh u eq k tr b =>
      have hqe : q' = q := by rw [hq] at eq; exact (Option.some.inj eq).symm
      subst hqe
      rw [w2] at hqs
      rw [w3] at hqc
      have hqh : q'.hd = false := by
        obtain ⟨q2, g1, -, -, -, -, -, g2⟩ := hqq hx
        rw [hq] at g1; rw [Option.some.inj g1]; exact g2
      clear hqq
      obtain ⟨t1, t2, t3, t4, t5, t6⟩ := tr
      have hA := Gv.ok_super (pgK_ne (s := s) (x := pgAt s ws0 t.at') (by rw [t2]; decide)) t2
      have hs4 := slots_four hA.1 hA.2.1
      have hsup := (hsp t.at' (by omega) (by omega)).sup (by rw [t2]; rfl)
      obtain ⟨A, hAe⟩ : ∃ A, pgA s t.at' (pgAt s ws0 t.at') = A := ⟨_, rfl⟩
      rw [hAe] at k t4 t5 hA hs4 hsup
      have hat : ∀ j, q'.at' j = slot s.p s.c s.m t.at' j := fun j => by unfold St.at'; rw [hqs, hqp]
      have hqpat : q'.pat = page s.p s.c s.m t.at' := by unfold St.pat; rw [hqs, hqp]
      have frS : ∀ j y, 0 ≤ j → j < 16 → ∀ q, 0 ≤ q → q < s.p → q ≠ t.at' → Sm s w.ws q (upW w.ws (slot s.p s.c s.m t.at' j) y) := fun j y j0 j1 q q0 q1 hne => Sm.sl hm (by omega) (by omega) j0 j1 q0 q1 hne
      have frP : ∀ y, ∀ q, 0 ≤ q → q < s.p → q ≠ t.at' → Sm s w.ws q (upW w.ws (page s.p s.c s.m t.at') y) := fun y q q0 q1 hne => Sm.pg hm (by omega) (by omega) q0 q1 hne
      have mgS : ∀ j y, 0 ≤ j → j < 16 → ∀ c' i, 0 ≤ c' → c' < s.c → 0 ≤ i → i < s.m → mgAt s (upW w.ws (slot s.p s.c s.m t.at' j) y) c' i = mgAt s ws0 c' i := fun j y j0 j1 c' i c0 c1 i0 i1 => (mg_sl hm (by omega) (by omega) j0 j1 c0 i0).trans (h.mg c' i c0 c1 i0 i1)
      rcases St.step_cases q' w with ⟨e1, -⟩ | ⟨-, ⟨hb1, e2⟩ | ⟨hb1, hi, e2⟩ | ⟨hb1, hi, hg, e2⟩ | ⟨hb1, hi, hg, e2⟩⟩
      · rw [hqd] at e1; cases e1
      · -- goes back
        obtain ⟨-, -, -, -, -, -, a7, a8, a9⟩ := hqw.of hqd
        have a9 := a9 hb1
        have hws : (w.store q'.c (q'.at' (q'.i - 1)) (opn q'.k)).ws = upW w.ws (slot s.p s.c s.m t.at' (q'.i - 1)) (opn A) := by rw [store_ws, hat, k]
        rw [e2]
        refine ⟨fun c' j c0 c1 j0 j1 => ?_, ?_⟩
        · show mgAt s (w.store q'.c (q'.at' (q'.i - 1)) (opn q'.k)).ws c' j = _
          rw [hws]; exact mgS _ _ (by omega) (by omega) c' j c0 c1 j0 j1
        show Go' s ws0 c n (w.store q'.c (q'.at' (q'.i - 1)) (opn q'.k)).ws (t.outs { q' with i := q'.i - 1, dn := decide (q'.i - 1 = 0) })
        rw [hws]
        have fr := frS (q'.i - 1) (opn A) (by omega) (by omega)
        have lo2 := lo.tr (q0 := t.at') (by omega) (by omega) fr
        have hh2 := hh.tr (q0 := t.at') (.inr (Int.le_refl _)) (by omega) (by omega) fr
        have u2 := u.tr (q0 := t.at') (by omega) (by omega) fr
        have tr2 : Tr s ws0 c (upW w.ws (slot s.p s.c s.m t.at' (q'.i - 1)) (opn A)) t.at' (q'.i - 1) := by
          refine ⟨(pg_sl hm (by omega) (by omega) (by omega) (by omega) (by omega) (by omega)).trans t1, t2, by omega, by rw [hAe]; omega, fun i i0 i1 => ?_, fun i i0 i1 => ?_⟩
          · rw [sl_sl hm (by omega) (by omega) (by omega) (by omega) (by omega) i0 (by omega), if_neg (by omega), hAe]; exact t5 i i0 (by omega)
          · rw [sl_sl hm (by omega) (by omega) (by omega) (by omega) (by omega) (by omega) i1]
            split
            · rename_i g; rw [g.2]; exact (t5 (q'.i - 1) (by omega) (by omega)).2.symm
            · exact t6 i (by omega) i1
        unfold Rn.outs
        rw [if_neg (by show ¬ q'.hd = true; have := hqh; rw [this]; decide)]
        split
        · rename_i g
          have g : q'.i - 1 = 0 := of_decide_eq_true g
          rw [g] at tr2
          refine miss_ok (t := { t with st := some _ }) hd hf w2 hnn w4 (by show t.hd ≤ t.at'; omega) (by show t.at' < t.hd + n; omega) lo2 no hh2 (fun q q0 q1 => ?_) (b hb1)
          by_cases g2 : q = t.at'
          · subst g2; rw [g]; exact ⟨tr2.1, tr2.2.2.2.2.2⟩
          · exact u2 q (by have q0 : t.at' ≤ q := q0; omega) q1
        · exact ⟨fun _ => ⟨lo2, no⟩, .strip _ hd hx hh2 u2 rfl (by rw [hAe]; exact k) tr2 b⟩
      · -- has it
        have hws : (w.store q'.c q'.pat (held q'.c)).ws = upW w.ws (page s.p s.c s.m t.at') (held c) := by rw [store_ws, hqpat, hqc]
        rw [e2]
        refine ⟨fun c' j c0 c1 j0 j1 => ?_, ?_⟩
        · show mgAt s (w.store q'.c q'.pat (held q'.c)).ws c' j = _
          rw [hws, mg_pg hm (by omega) (by omega) c0 j0]; exact h.mg c' j c0 c1 j0 j1
        show Go' s ws0 c n (w.store q'.c q'.pat (held q'.c)).ws (t.outs { q' with hd := true, dn := true })
        rw [hws]
        have fr := frP (held c)
        have lo2 := lo.tr (q0 := t.at') (by omega) (by omega) fr
        have hh2 := hh.tr (q0 := t.at') (.inr (Int.le_refl _)) (by omega) (by omega) fr
        have u2 := u.tr (q0 := t.at') (by omega) (by omega) fr
        have l4 : Cl s ws0 c (upW w.ws (page s.p s.c s.m t.at') (held c)) t.at' 0 := by
          refine ⟨.inr ⟨t2, fun i i0 i1 => ?_⟩, ?_, fun j j0 j1 => by omega⟩
          · rw [hAe] at i1
            rw [(t5 i i0 (by rw [hi, k]; exact i1)).2]; exact (opn_ne A hA.1 (by omega)).2.1
          · rw [pg_pg hm (by omega) (by omega) (by omega) (by omega), if_pos rfl]
        unfold Rn.outs
        rw [if_pos (by rfl)]
        exact ⟨fun _ => ⟨lo2, no⟩, .clear hd rfl hh2 u2 l4⟩
      · -- one more
        rw [k] at hi
        have a7 : 0 ≤ q'.i := t3
        have hgs : slAt s w.ws t.at' q'.i = opn A := by
          rw [hat, k, slot_at hm (by omega) (by omega) (by omega) (by omega)] at hg; exact hg
        have hws : (w.swap q'.c (q'.at' q'.i) (opn q'.k) (way q'.c)).ws = upW w.ws (slot s.p s.c s.m t.at' q'.i) (way c) := by rw [swap_yes hg, hat, hqc]
        rw [e2]
        refine ⟨fun c' j c0 c1 j0 j1 => ?_, ?_⟩
        · show mgAt s (w.swap q'.c (q'.at' q'.i) (opn q'.k) (way q'.c)).ws c' j = _
          rw [hws]; exact mgS _ _ (by omega) (by omega) c' j c0 c1 j0 j1
        show Go' s ws0 c n (w.swap q'.c (q'.at' q'.i) (opn q'.k) (way q'.c)).ws (t.outs { q' with i := q'.i + 1 })
        rw [hws]
        have fr := frS q'.i (way c) (by omega) (by omega)
        have lo2 := lo.tr (q0 := t.at') (by omega) (by omega) fr
        have hh2 := hh.tr (q0 := t.at') (.inr (Int.le_refl _)) (by omega) (by omega) fr
        have u2 := u.tr (q0 := t.at') (by omega) (by omega) fr
        have tr2 : Tr s ws0 c (upW w.ws (slot s.p s.c s.m t.at' q'.i) (way c)) t.at' (q'.i + 1) := by
          refine ⟨(pg_sl hm (by omega) (by omega) (by omega) (by omega) (by omega) (by omega)).trans t1, t2, by omega, by rw [hAe]; omega, fun i i0 i1 => ?_, fun i i0 i1 => ?_⟩
          · rw [hAe, sl_sl hm (by omega) (by omega) (by omega) (by omega) (by omega) i0 (by omega)]
            by_cases g : i = q'.i
            · subst g
              rw [if_pos ⟨rfl, rfl⟩]
              exact ⟨rfl, (t6 _ (Int.le_refl _) (by omega)).symm.trans hgs⟩
            · rw [if_neg (by omega)]; exact t5 i i0 (by omega)
          · rw [sl_sl hm (by omega) (by omega) (by omega) (by omega) (by omega) (by omega) i1, if_neg (by omega)]; exact t6 i (by omega) i1
        unfold Rn.outs
        rw [if_neg (by show ¬ q'.hd = true; rw [hqh]; decide), if_neg (by show ¬ q'.dn = true; rw [hqd]; decide)]
        exact ⟨fun _ => ⟨lo2, no⟩, .strip _ hd hx hh2 u2 rfl (by rw [hAe]; exact k) tr2 b⟩
      · -- cannot have it
        rw [k] at hi
        have a7 : 0 ≤ q'.i := t3
        have hgs : slAt s w.ws t.at' q'.i ≠ opn A := by
          rw [hat, k, slot_at hm (by omega) (by omega) (by omega) (by omega)] at hg; exact hg
        have hws : (w.swap q'.c (q'.at' q'.i) (opn q'.k) (way q'.c)).ws = w.ws := swap_no hg
        have hnf : ¬ Free s ws0 t.at' := fun hfr => by
          rcases hfr with g | ⟨-, g⟩
          · rw [t2] at g; cases g
          · rw [hAe] at g
            have g1 := g q'.i a7 (by omega)
            have g2 := hsup q'.i.toNat (by omega)
            rw [show ((q'.i.toNat : Nat) : Int) = q'.i by omega] at g2
            unfold slB at g2
            rw [decide_eq_true (by omega : q'.i < slots A), g1] at g2
            have g3 : slA (slAt s ws0 t.at' q'.i) = A := by simpa using g2
            have g4 := is_opn g1
            rw [g3] at g4
            exact hgs ((t6 _ (Int.le_refl _) (by omega)).trans g4)
        rw [e2]
        refine ⟨fun c' j c0 c1 j0 j1 => ?_, ?_⟩
        · show mgAt s (w.swap q'.c (q'.at' q'.i) (opn q'.k) (way q'.c)).ws c' j = _
          rw [hws]; exact h.mg c' j c0 c1 j0 j1
        show Go' s ws0 c n (w.swap q'.c (q'.at' q'.i) (opn q'.k) (way q'.c)).ws (t.outs { q' with bk := true, dn := decide (q'.i = 0) })
        rw [hws]
        have tr2 : Tr s ws0 c w.ws t.at' q'.i := ⟨t1, t2, t3, by rw [hAe]; exact t4, by rw [hAe]; exact t5, t6⟩
        unfold Rn.outs
        rw [if_neg (by show ¬ q'.hd = true; rw [hqh]; decide)]
        split
        · rename_i g
          have g : q'.i = 0 := of_decide_eq_true g
          refine miss_ok (t := { t with st := some _ }) hd hf w2 hnn w4 (by show t.hd ≤ t.at'; omega) (by show t.at' < t.hd + n; omega) lo no hh (fun q q0 q1 => ?_) hnf
          by_cases g2 : q = t.at'
          · subst g2; exact ⟨t1, fun i i0 i1 => t6 i (by omega) i1⟩
          · exact u q (by have q0 : t.at' ≤ q := q0; omega) q1
        · exact ⟨fun _ => ⟨lo, no⟩, .strip _ hd hx hh u rfl (by rw [hAe]; exact k) tr2 fun _ => hnf⟩
    | look _ x => omega
    | claim _ x => omega
    | clear _ x => omega
    | back _ x => omega
    | body _ x => omega
    | won d => rw [hd] at d; cases d
    | lost d => rw [hd] at d; cases d
  · -- clears
    clear hqq
    rw [e]
    cases h.go.2 with
    | clear _ _ hh u l =>
      obtain ⟨l1, l2, l3⟩ := l
      have hi : 0 ≤ t.i ∧ t.i < 16 := by omega
      have hws : (w.store t.c t.sat 0).ws = upW w.ws (slot s.p s.c s.m t.at' t.i) 0 := by rw [store_ws]; unfold Rn.sat; rw [w2]
      have fr : ∀ q, 0 ≤ q → q < s.p → q ≠ t.at' → Sm s w.ws q (upW w.ws (slot s.p s.c s.m t.at' t.i) 0) := fun q q0 q1 hne => Sm.sl hm (by omega) (by omega) hi.1 hi.2 q0 q1 hne
      have lo2 := lo.tr (q0 := t.at') (by omega) (by omega) fr
      have hh2 := hh.tr (q0 := t.at') (.inr (Int.le_refl _)) (by omega) (by omega) fr
      have u2 := u.tr (q0 := t.at') (by omega) (by omega) fr
      have l4 : Cl s ws0 c (upW w.ws (slot s.p s.c s.m t.at' t.i) 0) t.at' (t.i + 1) := by
        refine ⟨l1, (pg_sl hm (by omega) (by omega) hi.1 hi.2 (by omega) (by omega)).trans l2, fun j j0 j1 => ?_⟩
        rw [sl_sl hm (by omega) (by omega) hi.1 hi.2 (by omega) j0 (by omega)]
        split
        · rfl
        · exact l3 j j0 (by omega)
      refine ⟨fun c' j c0 c1 j0 j1 => ?_, ?_⟩
      · show mgAt s (w.store t.c t.sat 0).ws c' j = _
        rw [hws, mg_sl hm (by omega) (by omega) hi.1 hi.2 c0 j0]; exact h.mg c' j c0 c1 j0 j1
      show Go' s ws0 c n (w.store t.c t.sat 0).ws t.clear
      rw [hws]
      unfold Rn.clear
      split
      · rename_i g
        rw [g] at l4
        refine own_ok (t := { t with i := t.i + 1 }) hd hnn w4 (by show t.hd ≤ t.at'; omega) (by show t.at' < t.hd + n; omega) lo2 no (fun q q0 q1 => ?_) u2
        have q1 : q < t.at' + 1 := q1
        by_cases g2 : q = t.at'
        · rw [g2]; exact l4
        · exact hh2 q q0 (by omega)
      · exact ⟨fun _ => ⟨lo2, no⟩, .clear hd hx hh2 u2 l4⟩
    | look _ x => omega
    | claim _ x => omega
    | strip _ _ x => omega
    | back _ x => omega
    | body _ x => omega
    | won d => rw [hd] at d; cases d
    | lost d => rw [hd] at d; cases d
  · -- gives back
    clear hqq
    rw [e]
    cases h.go.2 with
    | back _ _ hh em u f =>
      have hi : t.hd < t.i ∧ t.i ≤ t.at' := by omega
      have hws : (w.store t.c t.bat 0).ws = upW w.ws (page s.p s.c s.m (t.i - 1)) 0 := by rw [store_ws]; unfold Rn.bat; rw [w2]
      have fr : ∀ q, 0 ≤ q → q < s.p → q ≠ t.i - 1 → Sm s w.ws q (upW w.ws (page s.p s.c s.m (t.i - 1)) 0) := fun q q0 q1 hne => Sm.pg hm (by omega) (by omega) q0 q1 hne
      have lo2 := lo.tr (q0 := t.i - 1) (by omega) (by omega) fr
      have u2 := u.tr (q0 := t.i - 1) (by omega) (by omega) fr
      have hone := hh (t.i - 1) (by omega) (by omega)
      refine ⟨fun c' j c0 c1 j0 j1 => ?_, ?_⟩
      · show mgAt s (w.store t.c t.bat 0).ws c' j = _
        rw [hws, mg_pg hm (by omega) (by omega) c0 j0]; exact h.mg c' j c0 c1 j0 j1
      show Go' s ws0 c n (w.store t.c t.bat 0).ws { t with i := t.i - 1 }.gone
      rw [hws]
      refine gone_ok (t := { t with i := t.i - 1 }) hd hf hx w2 hnn w4 (by show t.hd ≤ t.at'; omega) (by show t.at' < t.hd + n; omega) lo2 no (fun q q0 q1 => ?_) (fun q q0 q1 => ?_) u2 f
      · have q1 : q < t.i - 1 := q1
        have q0 : t.hd ≤ q := q0
        exact (hh q q0 (by omega)).tr (fr q (by omega) (by omega) (by omega))
      · have q0 : t.i - 1 ≤ q := q0
        have q1 : q < t.at' := q1
        by_cases g : q = t.i - 1
        · rw [g]
          refine ⟨hone.1, by rw [pg_pg hm (by omega) (by omega) (by omega) (by omega), if_pos rfl], fun i i0 i1 => ?_⟩
          rw [sl_pg hm (by omega) (by omega) (by omega) i0]; exact hone.2.2 i i0 i1
        · exact (em q (by omega) q1).tr (fr q (by omega) (by omega) g)
    | look _ x => omega
    | claim _ x => omega
    | strip _ _ x => omega
    | clear _ x => omega
    | body _ x => omega
    | won d => rw [hd] at d; cases d
    | lost d => rw [hd] at d; cases d
  · -- writes bodies
    clear hqq
    rw [e]
    cases h.go.2 with
    | body _ _ a l hh b hr u =>
      have hi : t.hd < t.i ∧ t.i < t.hd + n := by omega
      have hws : (w.store t.c t.iat (putPg 4 t.hd 0)).ws = upW w.ws (page s.p s.c s.m t.i) (putPg 4 t.hd 0) := by rw [store_ws]; unfold Rn.iat; rw [w2]
      have fr : ∀ q, 0 ≤ q → q < s.p → q ≠ t.i → Sm s w.ws q (upW w.ws (page s.p s.c s.m t.i) (putPg 4 t.hd 0)) := fun q q0 q1 hne => Sm.pg hm (by omega) (by omega) q0 q1 hne
      have lo2 := lo.tr (q0 := t.i) (by omega) (by omega) fr
      have u2 := u.tr (q0 := t.i) (by omega) (by omega) fr
      have hone := hr t.i (Int.le_refl _) (by omega)
      refine ⟨fun c' j c0 c1 j0 j1 => ?_, ?_⟩
      · show mgAt s (w.store t.c t.iat (putPg 4 t.hd 0)).ws c' j = _
        rw [hws, mg_pg hm (by omega) (by omega) c0 j0]; exact h.mg c' j c0 c1 j0 j1
      show Go' s ws0 c n (w.store t.c t.iat (putPg 4 t.hd 0)).ws t.written
      rw [hws]
      refine written_ok hd hx hnn w4 a (by omega) (by omega) lo2 no (hh.tr (fr t.hd (by omega) (by omega) (by omega))) (fun q q0 q1 => ?_) (fun q q0 q1 => (hr q (by omega) q1).tr (fr q (by omega) (by omega) (by omega))) u2
      by_cases g : q = t.i
      · rw [g]
        refine ⟨hone.1, by rw [pg_pg hm (by omega) (by omega) (by omega) (by omega), if_pos rfl], fun i i0 i1 => ?_⟩
        rw [sl_pg hm (by omega) (by omega) (by omega) i0]; exact hone.2.2 i i0 i1
      · exact (b q q0 (by omega)).tr (fr q (by omega) (by omega) g)
    | look _ x => omega
    | claim _ x => omega
    | strip _ _ x => omega
    | clear _ x => omega
    | back _ x => omega
    | won d => rw [hd] at d; cases d
    | lost d => rw [hd] at d; cases d
theorem Al.init (hm : may s.p s.c s.m = true) (ho : w.of s) (c0 : 0 ≤ c) (c1 : c < s.c) (n0 : 1 ≤ n) (n1 : n ≤ 8) (hs : Snd s w.ws) : Al s w.ws c n (Rn.new s c n) w := by
  have hu : ∀ q, Un s w.ws w.ws q := fun q => ⟨rfl, fun i i0 i1 => rfl⟩
  refine ⟨ho, hm, ⟨Rn.new_wf .., rfl, rfl, rfl⟩, ⟨c0, c1⟩, hs, fun _ _ _ _ _ _ => rfl, fun _ => ⟨fun q q0 q1 => .inl (hu q), fun h h0 h1 => ?_⟩, ?_⟩
  · have h1 : h < 0 := h1; omega
  · cases hd : (Rn.new s c n).dn
    · exact .look rfl rfl (fun q q0 q1 => by have q0 : (0 : Int) ≤ q := q0; have q1 : q < 0 := q1; omega) fun q q0 q1 => hu q
    · refine .lost rfl rfl (fun q q0 q1 => .inl (hu q)) fun h h0 h1 => ?_
      have hd' : (!Rn.ok s c n) = true := hd
      unfold Rn.ok at hd'
      rw [status_yes hm c0 c1, decide_eq_true c0, decide_eq_true n0, decide_eq_true n1, decide_eq_true (by omega : n ≤ s.p)] at hd'
      cases hd'
end
end Rw
end Go.Ma
