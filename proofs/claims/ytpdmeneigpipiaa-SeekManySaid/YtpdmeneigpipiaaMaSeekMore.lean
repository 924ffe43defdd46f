/-
Pages of a sound heap that one claims: what each of them says; the heap is sound still, its blocks are the same. Conditions: none.
Who seeks a slot from wherever, plain: its steps, what stays, how long it goes on. Conditions: none.
Who seeks a slot from wherever, plain: what fits stays so, and it ends. Conditions: none.
Who seeks a slot, alone in a sound heap: how far it is; each step keeps that. Conditions: none.
Who seeks a slot, alone in a sound heap: it is sound behind that; what is found is its own. Conditions: none.
One that looks for a row of pages and one that looks for a slot, at the same time, in an empty heap: whose a page is. Conditions: none.
-/
import Derived.Test.YtpdmeneigpipiaaMaBase
import Derived.Test.YtpdmeneigpipiaaMaIts
import Derived.Test.YtpdmeneigpipiaaMaGive
import Derived.Test.YtpdmeneigpipiaaMaRun
set_option linter.unusedVariables false
set_option linter.unusedSectionVars false
set_option linter.unusedSimpArgs false
namespace Go.Ma
open Go.Pl
theorem is_opn {x : Int} (hk : slK x = 1) : x = opn (slA x) := by
  have ho : okSl x = true := by
    cases e : okSl x
    · unfold slK at hk; rw [e] at hk; cases hk
    · rfl
  have h1 : x % 16 = 1 := by unfold slK at hk; rw [if_pos ho] at hk; exact hk
  unfold slA opn
  rw [if_pos ho]
  unfold okSl at ho
  rw [h1] at ho
  exact (of_decide_eq_true ho).symm
theorem is_empty {s : Sh} {q x : Int} (ho : okPg s q x = true) (hk : pgK s q x = 0) : x = 0 := by
  have h1 : x % 16 = 0 := by unfold pgK at hk; rw [if_pos ho] at hk; exact hk
  unfold okPg at ho
  rw [h1] at ho
  simp only [Bool.and_eq_true, decide_eq_true_eq] at ho
  have h2 := ho.1
  unfold putPg at h2
  split at h2
  · rename_i h3
    have h4 := h3.2.2.2.2.2.2.1 rfl
    have h5 := h3.2.2.2.2.2.2.2 (by decide)
    omega
  · exact h2.symm
theorem body_ok {s : Sh} {q h : Int} (hm : may s.p s.c s.m = true) (h0 : 0 ≤ h) (h1 : h < q) (h2 : q < h + 8) (h3 : q < s.p) : okPg s q (putPg 4 h 0) = true ∧ pgK s q (putPg 4 h 0) = 4 ∧ pgA s q (putPg 4 h 0) = h := by
  have hb := (may_iff _ _ _).1 hm
  have hv : putPg 4 h 0 = 4 + 16 * h := by unfold putPg; rw [if_pos (by omega)]; omega
  have e1 : (4 + 16 * h) % 16 = 4 := by omega
  have e2 : pt (4 + 16 * h) 16 = h := by unfold pt; omega
  have e3 : pt (4 + 16 * h) 4096 = 0 := by unfold pt; omega
  have hp : 0 ≤ page s.p s.c s.m q := by rw [page_yes hm (by omega) h3]; omega
  have ok : okPg s q (putPg 4 h 0) = true := by
    rw [hv]
    unfold okPg
    rw [e1, e2, e3]
    have g1 : decide (putPg 4 h 0 = 4 + 16 * h) = true := decide_eq_true hv
    have g3 : fits s q 4 h 0 = true := by unfold fits; simp; omega
    rw [g1, g3, decide_eq_true hp]; rfl
  refine ⟨ok, ?_, ?_⟩
  · unfold pgK; rw [if_pos ok, hv, e1]
  · unfold pgA; rw [if_pos ok, hv, e2]
theorem en_slot {s : Sh} {y : Int} (e1 : okEn s y = true) : enS s y < slots (enK s y) := by
  unfold enS enK
  rw [if_pos e1, if_pos e1]
  unfold okEn at e1
  simp only [Bool.and_eq_true, decide_eq_true_eq] at e1
  exact e1.2.2
namespace Rw
section
variable (s : Sh) (ws0 : Nat → Int) (c : Int) (ws : Nat → Int) (q : Int)
/-- Nobody has a page, nor a slot of it. -/
def Free : Prop := pgK s q (pgAt s ws0 q) = 0 ∨ (pgK s q (pgAt s ws0 q) = 2 ∧ ∀ i, 0 ≤ i → i < slots (pgA s q (pgAt s ws0 q)) → slK (slAt s ws0 q i) = 1)
def Zs : Prop := ∀ i, 0 ≤ i → i < 16 → slAt s ws q i = 0
def Un : Prop := pgAt s ws q = pgAt s ws0 q ∧ ∀ i, 0 ≤ i → i < 16 → slAt s ws q i = slAt s ws0 q i
def Em : Prop := Free s ws0 q ∧ pgAt s ws q = 0 ∧ Zs s ws q
def Hl : Prop := Free s ws0 q ∧ pgAt s ws q = held c ∧ Zs s ws q
def Bo (h : Int) : Prop := Free s ws0 q ∧ pgAt s ws q = putPg 4 h 0 ∧ Zs s ws q
def Tr (j : Int) : Prop := pgAt s ws q = pgAt s ws0 q ∧ pgK s q (pgAt s ws0 q) = 2 ∧ 0 ≤ j ∧ j ≤ slots (pgA s q (pgAt s ws0 q)) ∧ (∀ i, 0 ≤ i → i < j → slAt s ws q i = way c ∧ slAt s ws0 q i = opn (pgA s q (pgAt s ws0 q))) ∧ ∀ i, j ≤ i → i < 16 → slAt s ws q i = slAt s ws0 q i
def Cl (i : Int) : Prop := Free s ws0 q ∧ pgAt s ws q = held c ∧ ∀ j, 0 ≤ j → j < i → slAt s ws q j = 0
def Sm (ws' : Nat → Int) : Prop := pgAt s ws' q = pgAt s ws q ∧ ∀ i, 0 ≤ i → i < 16 → slAt s ws' q i = slAt s ws q i
/-- What a page may say meanwhile. -/
inductive Pq (h : Int) : Prop
  | u (e : Un s ws0 ws q)
  | e (e : Em s ws0 ws q)
  | h (f : Free s ws0 q) (e : pgAt s ws q = held c)
  | b (e : Bo s ws0 ws q h) (h0 : 0 ≤ h) (h1 : h < q) (h2 : q < h + 8) (hh : pgAt s ws h = held c)
  | t (j : Int) (e : Tr s ws0 c ws q j)
end
section
variable {s : Sh} {ws0 ws ws' : Nat → Int} {c q h : Int}
theorem Un.tr (e : Un s ws0 ws q) (hs : Sm s ws q ws') : Un s ws0 ws' q := ⟨hs.1.trans e.1, fun i i0 i1 => (hs.2 i i0 i1).trans (e.2 i i0 i1)⟩
theorem Zs.tr (e : Zs s ws q) (hs : Sm s ws q ws') : Zs s ws' q := fun i i0 i1 => (hs.2 i i0 i1).trans (e i i0 i1)
theorem Em.tr (e : Em s ws0 ws q) (hs : Sm s ws q ws') : Em s ws0 ws' q := ⟨e.1, hs.1.trans e.2.1, e.2.2.tr hs⟩
theorem Hl.tr (e : Hl s ws0 c ws q) (hs : Sm s ws q ws') : Hl s ws0 c ws' q := ⟨e.1, hs.1.trans e.2.1, e.2.2.tr hs⟩
theorem Bo.tr (e : Bo s ws0 ws q h) (hs : Sm s ws q ws') : Bo s ws0 ws' q h := ⟨e.1, hs.1.trans e.2.1, e.2.2.tr hs⟩
theorem Sm.pg (hm : may s.p s.c s.m = true) {q0 y : Int} (a0 : 0 ≤ q0) (a1 : q0 < s.p) (h0 : 0 ≤ q) (h1 : q < s.p) (hne : q ≠ q0) : Sm s ws q (upW ws (page s.p s.c s.m q0) y) :=
  ⟨by rw [pg_pg hm a0 a1 h0 h1, if_neg hne], fun i i0 i1 => sl_pg hm a0 a1 h0 i0⟩
theorem Sm.sl (hm : may s.p s.c s.m = true) {q0 i0 y : Int} (a0 : 0 ≤ q0) (a1 : q0 < s.p) (b0 : 0 ≤ i0) (b1 : i0 < 16) (h0 : 0 ≤ q) (h1 : q < s.p) (hne : q ≠ q0) : Sm s ws q (upW ws (slot s.p s.c s.m q0 i0) y) :=
  ⟨pg_sl hm a0 a1 b0 b1 h0 h1, fun i j0 j1 => by rw [sl_sl hm a0 a1 b0 b1 h0 j0 j1, if_neg fun e => hne e.1]⟩
/-- What none may have is as it was. -/
theorem Pq.keep (h1 : Pq s ws0 c ws q h) (hf : ¬ Free s ws0 q) : pgAt s ws q = pgAt s ws0 q := by
  cases h1 with
  | u e => exact e.1
  | e e => exact absurd e.1 hf
  | h f e => exact absurd f hf
  | b e => exact absurd e.1 hf
  | t j e => exact e.1
theorem not_free {k : Int} (hk : pgK s q (pgAt s ws0 q) = k) (h0 : k ≠ 0) (h2 : k ≠ 2) : ¬ Free s ws0 q := fun hf => by
  rcases hf with e | ⟨e, -⟩ <;> rw [hk] at e
  · exact h0 e
  · exact h2 e
theorem Pq.snd (hm : may s.p s.c s.m = true) (hsn : Snd s ws0) (c0 : 0 ≤ c) (c1 : c < s.c) (hall : ∀ q, 0 ≤ q → q < s.p → Pq s ws0 c ws q h)
    (mg : ∀ c' j, 0 ≤ c' → c' < s.c → 0 ≤ j → j < s.m → mgAt s ws c' j = mgAt s ws0 c' j) : Snd s ws := by
  have hb := (may_iff _ _ _).1 hm
  have wn := way_ne c c0 (by omega)
  refine ⟨fun q q1 => ?_, fun c' j h1 h2 hx => ?_, fun c' j c'' j' h1 h2 h3 ha hx hy => ?_⟩
  · obtain ⟨e1, e2⟩ := hsn.pg q q1
    cases hall q (by omega) q1 with
    | u e =>
      rw [e.1]
      refine ⟨e1, ⟨fun k j hj => ?_, fun k k' j hj => ?_, fun k k' k4 => ?_, fun k k' k4 k3 j j1 j2 => ?_⟩⟩
      · rw [e.2 j (by omega) (by omega)]; exact e2.sup k j hj
      · rw [e.2 j (by omega) (by omega)]; exact e2.emp k k' j hj
      · have hbo := Ad.ok_body e1 (beq_iff_eq.1 k4)
        have hbd := e2.bod k k' k4
        obtain ⟨A', hA'⟩ : ∃ A', pgA s q (pgAt s ws0 q) = A' := ⟨_, rfl⟩
        rw [hA'] at hbo hbd ⊢
        have hnf : ¬ Free s ws0 A' := by
          obtain ⟨k', hk'⟩ : ∃ k', pgK s A' (pgAt s ws0 A') = k' := ⟨_, rfl⟩
          rw [hk'] at hbd
          refine not_free hk' (fun e => ?_) (fun e => ?_) <;> rw [e] at hbd <;> simp at hbd
        rw [(hall A' hbo.1 (by omega)).keep hnf]; exact hbd
      · have hl := large_bd e1 (beq_iff_eq.1 k3)
        have he := e2.lar k k' k4 k3 j j1 j2
        rw [(hall (q + j) (by omega) (by omega)).keep (not_free he.1 (by decide) (by decide))]; exact he
    | e e =>
      rw [e.2.1, pgK_zero]
      exact ⟨okPg_zero hm (by omega) q1, SpB.oth rfl (fun j hj => e.2.2 j (by omega) (by omega)) rfl rfl⟩
    | h f e =>
      rw [e]
      have ho := held_ok hm (by omega : (0 : Int) ≤ q) q1 c0 c1
      exact ⟨ho.1, SpB.one (by rw [ho.2.1]; rfl) (by rw [ho.2.1]; rfl)⟩
    | b e g0 g1 g2 hh =>
      rw [e.2.1]
      have ho := body_ok hm g0 g1 g2 q1
      refine ⟨ho.1, SpB.four (by rw [ho.2.1]; rfl) (fun j hj => e.2.2 j (by omega) (by omega)) (by rw [ho.2.1]; rfl) ?_⟩
      rw [ho.2.2, hh, (held_ok hm g0 (by omega) c0 c1).2.1]; rfl
    | t j e =>
      obtain ⟨t1, t2, t3, t4, t5, t6⟩ := e
      rw [t1]
      refine ⟨e1, SpB.two (by rw [t2]; rfl) fun i hi => ?_⟩
      by_cases hij : (i : Int) < j
      · rw [(t5 i (by omega) hij).1]
        unfold slB
        rw [decide_eq_true (by omega : (i : Int) < slots (pgA s q (pgAt s ws0 q))), wn.2.1, wn.2.2]; simp; exact c1
      · rw [t6 i (by omega) (by omega)]; exact e2.sup (by rw [t2]; rfl) i hi
  · rw [mg c' j (by omega) h1 (by omega) h2] at hx ⊢
    obtain ⟨e1, e2, e3, e4⟩ := hsn.en c' j h1 h2 hx
    have hE := en_bd e1
    have hS := en_slot e1
    have hwk : slK (slAt s ws0 (enP s (mgAt s ws0 c' j)) (enS s (mgAt s ws0 c' j))) = 2 := by rw [e4]; exact (way_ne c' (by omega) (by omega)).2.1
    have hnf : ¬ Free s ws0 (enP s (mgAt s ws0 c' j)) := fun hf => by
      rcases hf with e | ⟨-, e⟩
      · rw [e] at e2; cases e2
      · have := e _ hE.2.2.1 (by rw [e3]; exact hS)
        rw [hwk] at this; cases this
    have hk := (hall _ hE.1 hE.2.1).keep hnf
    refine ⟨e1, by rw [hk]; exact e2, by rw [hk]; exact e3, ?_⟩
    cases hall _ hE.1 hE.2.1 with
    | u e => rw [e.2 _ hE.2.2.1 hE.2.2.2]; exact e4
    | e e => exact absurd e.1 hnf
    | h f e => exact absurd f hnf
    | b e => exact absurd e.1 hnf
    | t j' e =>
      obtain ⟨t1, t2, t3, t4, t5, t6⟩ := e
      by_cases hij : enS s (mgAt s ws0 c' j) < j'
      · exfalso
        have h5 := (t5 _ hE.2.2.1 hij).2
        have hA := Gv.ok_super (pgK_ne (s := s) (x := pgAt s ws0 (enP s (mgAt s ws0 c' j))) (by rw [t2]; decide)) t2
        rw [h5, (opn_ne _ hA.1 (by omega)).2.1] at hwk; cases hwk
      · rw [t6 _ (by omega) hE.2.2.2]; exact e4
  · have hc' : (c'' : Int) < s.c := by unfold ahead at ha; omega
    rw [mg c' j (by omega) h1 (by omega) h2] at hx ⊢
    rw [mg c'' j' (by omega) hc' (by omega) h3] at hy ⊢
    exact hsn.dj c' j c'' j' h1 h2 h3 ha hx hy
theorem Free.none {p : Nat} (hf : Free s ws0 p) : blkPg s ws0 p = [] := by
  rcases hf with e | ⟨e, e2⟩
  · exact blkPg_none (by rw [e]; decide) (by rw [e]; decide)
  · have hA := Gv.ok_super (pgK_ne (s := s) (x := pgAt s ws0 p) (by rw [e]; decide)) e
    have hs := slots_four hA.1 hA.2.1
    unfold blkPg
    rw [if_neg (by rw [e]; decide), if_pos e]
    refine List.eq_nil_iff_forall_not_mem.2 fun y hy => ?_
    obtain ⟨i, h1, h2, -⟩ := blkSl_mem.1 hy
    rw [e2 i (by omega) (by omega)] at h2; cases h2
theorem Pq.blk (hm : may s.p s.c s.m = true) (c0 : 0 ≤ c) (c1 : c < s.c) {p : Nat} (p1 : (p : Int) < s.p) (hp : Pq s ws0 c ws p h) : blkPg s ws p = blkPg s ws0 p := by
  have hb := (may_iff _ _ _).1 hm
  have wn := way_ne c c0 (by omega)
  cases hp with
  | u e => exact blkPg_congr (by rw [e.1]) (fun _ => by rw [e.1]) fun _ i hi => by rw [e.2 i (by omega) (by omega)]
  | e e => rw [e.1.none, blkPg_none (by rw [e.2.1, pgK_zero]; decide) (by rw [e.2.1, pgK_zero]; decide)]
  | h f e =>
    have ho := held_ok hm (by omega : (0 : Int) ≤ p) p1 c0 c1
    rw [f.none, blkPg_none (by rw [e, ho.2.1]; decide) (by rw [e, ho.2.1]; decide)]
  | b e g0 g1 g2 hh =>
    have ho := body_ok hm g0 g1 g2 p1
    rw [e.1.none, blkPg_none (by rw [e.2.1, ho.2.1]; decide) (by rw [e.2.1, ho.2.1]; decide)]
  | t j e =>
    obtain ⟨t1, t2, t3, t4, t5, t6⟩ := e
    have hA := Gv.ok_super (pgK_ne (s := s) (x := pgAt s ws0 p) (by rw [t2]; decide)) t2
    refine blkPg_congr (by rw [t1]) (fun _ => by rw [t1]) fun _ i hi => ?_
    by_cases hij : (i : Int) < j
    · have := t5 i (by omega) hij
      rw [this.1, this.2, wn.2.1, (opn_ne _ hA.1 (by omega)).2.1]; decide
    · rw [t6 i (by omega) (by omega)]
theorem Pq.blks (hm : may s.p s.c s.m = true) (c0 : 0 ≤ c) (c1 : c < s.c) (hall : ∀ q, 0 ≤ q → q < s.p → Pq s ws0 c ws q h) {n : Nat} (hn : (n : Int) ≤ s.p) : Go.Ma.blks s ws n = Go.Ma.blks s ws0 n :=
  blks_congr fun p hp => (hall p (by omega) (by omega)).blk hm c0 c1 (by omega)
end
end Rw
end Go.Ma
set_option linter.unusedVariables false
set_option linter.unusedSectionVars false
set_option linter.unusedSimpArgs false
namespace Go.Ma
open Go.Pl

/-- What is at it: one of the machines, or none. -/
inductive Nw where
  | tk (t : Tk)
  | sc (t : Sc)
  | pc (t : Pc)
  | no
  | st (t : St)
  | bi (t : Bi)
def Nw.dn : Nw → Bool
  | .tk t => t.dn
  | .sc t => t.dn
  | .pc t => t.dn
  | .no => false
  | .st t => t.dn
  | .bi t => t.dn
structure Sk where
  s : Sh
  c : Int
  k : Int
  f : Int
  nw : Nw
  many : Int
  pg : Int
  sl : Int
  fd : Bool
  dn : Bool
namespace Sk
def here (t : Sk) : Int := (t.f + t.many) % t.s.p
def pat (t : Sk) : Int := page t.s.p t.s.c t.s.m t.here
def fin (t : Sk) (p i : Int) : Sk := { t with pg := p, sl := i, fd := true, dn := true }
def bind (t : Sk) (p : Int) : Sk := { t with pg := p, nw := .bi (Bi.new t.s t.c p t.k) }
def turn (t : Sk) : Sk := { t with nw := .no, many := t.many + 1, dn := decide (t.many + 1 = t.s.p) }
/-- What follows a machine that is done. -/
def after (t : Sk) : Sk := match t.nw with
  | .tk m => if m.fd then t.fin m.ep m.es else { t with nw := .sc (Sc.new t.s t.c t.k t.f) }
  | .sc m => if m.fd then t.fin m.pg m.i else { t with nw := .pc (Pc.new t.s t.c t.f) }
  | .pc m => if m.fd then t.bind m.pg else { t with nw := .no }
  | .no => t
  | .st m => if m.hd then t.bind t.here else t.turn
  | .bi _ => t.fin t.pg 0
def set (t : Sk) (n : Nw) : Sk := if n.dn then ({ t with nw := n } : Sk).after else { t with nw := n }
def new (s : Sh) (c k f : Int) : Sk := if good s c k && decide (0 ≤ page s.p s.c s.m f) then set ⟨s, c, k, f, .tk (Tk.new s c k), 0, 0, 0, false, false⟩ (.tk (Tk.new s c k)) else ⟨s, c, k, f, .no, 0, 0, 0, false, true⟩
def isSup (t : Sk) (w : Wd) : Bool := okPg t.s t.here (w.get t.pat) && decide (pgK t.s t.here (w.get t.pat) = 2)
def look (t : Sk) (w : Wd) : Sk := if t.isSup w then { t with nw := .st (St.new t.s t.c t.here (pgA t.s t.here (w.get t.pat))) } else t.turn
def step (t : Sk) (w : Wd) : Sk × Wd :=
  if t.dn then (t, w) else match t.nw with
  | .tk m => (t.set (.tk (m.step w).1), (m.step w).2)
  | .sc m => (t.set (.sc (m.step w).1), (m.step w).2)
  | .pc m => (t.set (.pc (m.step w).1), (m.step w).2)
  | .no => (t.look w, w.load t.c t.pat)
  | .st m => (t.set (.st (m.step w).1), (m.step w).2)
  | .bi m => (t.set (.bi (m.step w).1), (m.step w).2)

/-- The machine that is at it fits. -/
def Ok (t : Sk) : Nw → Prop
  | .tk m => m.wf ∧ m.s = t.s ∧ m.c = t.c ∧ m.k = t.k ∧ t.many = 0 ∧ (m.dn = false → m.fd = false)
  | .sc m => m.wf ∧ m.s = t.s ∧ m.c = t.c ∧ m.k = t.k ∧ m.f = t.f ∧ t.many = 0 ∧ (m.dn = false → m.fd = false) ∧ 0 ≤ m.many ∧ m.many ≤ t.s.p
  | .pc m => m.wf ∧ m.s = t.s ∧ m.c = t.c ∧ m.f = t.f ∧ t.many = 0 ∧ (m.dn = false → m.fd = false) ∧ 0 ≤ m.many ∧ m.many ≤ t.s.p
  | .no => True
  | .st m => m.wf ∧ m.s = t.s ∧ m.c = t.c ∧ m.p = t.here ∧ (m.dn = false → m.hd = false)
  | .bi m => m.wf ∧ m.s = t.s ∧ m.c = t.c ∧ m.k = t.k ∧ m.p = t.pg ∧ 0 ≤ t.pg ∧ t.pg < t.s.p
structure wf (t : Sk) : Prop where
  of : t.dn = false → may t.s.p t.s.c t.s.m = true ∧ 0 ≤ t.c ∧ t.c < t.s.c ∧ 0 < slots t.k ∧ 0 ≤ t.f ∧ t.f < t.s.p ∧ 0 ≤ t.many ∧ t.many < t.s.p
  nw : t.dn = false → t.Ok t.nw ∧ t.nw.dn = false
  fd : t.dn = false → t.fd = false

section
variable {t : Sk} {w : Wd}
theorem step_dn (h : t.dn = true) : t.step w = (t, w) := by unfold step; rw [h]; rfl
theorem step_tk (h : t.dn = false) {m : Tk} (e : t.nw = .tk m) : t.step w = (t.set (.tk (m.step w).1), (m.step w).2) := by unfold step; rw [h, e]; rfl
theorem step_sc (h : t.dn = false) {m : Sc} (e : t.nw = .sc m) : t.step w = (t.set (.sc (m.step w).1), (m.step w).2) := by unfold step; rw [h, e]; rfl
theorem step_pc (h : t.dn = false) {m : Pc} (e : t.nw = .pc m) : t.step w = (t.set (.pc (m.step w).1), (m.step w).2) := by unfold step; rw [h, e]; rfl
theorem step_no (h : t.dn = false) (e : t.nw = .no) : t.step w = (t.look w, w.load t.c t.pat) := by unfold step; rw [h, e]; rfl
theorem step_st' (h : t.dn = false) {m : St} (e : t.nw = .st m) : t.step w = (t.set (.st (m.step w).1), (m.step w).2) := by unfold step; rw [h, e]; rfl
theorem step_bi (h : t.dn = false) {m : Bi} (e : t.nw = .bi m) : t.step w = (t.set (.bi (m.step w).1), (m.step w).2) := by unfold step; rw [h, e]; rfl
theorem step_cases (t : Sk) (w : Wd) : (t.dn = true ∧ t.step w = (t, w)) ∨ (t.dn = false ∧
    ((∃ m, t.nw = .tk m ∧ t.step w = (t.set (.tk (m.step w).1), (m.step w).2)) ∨
     (∃ m, t.nw = .sc m ∧ t.step w = (t.set (.sc (m.step w).1), (m.step w).2)) ∨
     (∃ m, t.nw = .pc m ∧ t.step w = (t.set (.pc (m.step w).1), (m.step w).2)) ∨
     (t.nw = .no ∧ t.step w = (t.look w, w.load t.c t.pat)) ∨
     (∃ m, t.nw = .st m ∧ t.step w = (t.set (.st (m.step w).1), (m.step w).2)) ∨
     (∃ m, t.nw = .bi m ∧ t.step w = (t.set (.bi (m.step w).1), (m.step w).2)))) := by
  rcases Bool.eq_false_or_eq_true t.dn with h | h
  · exact .inl ⟨h, step_dn h⟩
  · refine .inr ⟨h, ?_⟩
    cases e : t.nw with
    | tk m => exact .inl ⟨m, rfl, step_tk h e⟩
    | sc m => exact .inr (.inl ⟨m, rfl, step_sc h e⟩)
    | pc m => exact .inr (.inr (.inl ⟨m, rfl, step_pc h e⟩))
    | no => exact .inr (.inr (.inr (.inl ⟨rfl, step_no h e⟩)))
    | st m => exact .inr (.inr (.inr (.inr (.inl ⟨m, rfl, step_st' h e⟩))))
    | bi m => exact .inr (.inr (.inr (.inr (.inr ⟨m, rfl, step_bi h e⟩))))

/-! ### What stays -/
def Kp (t u : Sk) : Prop := u.s = t.s ∧ u.c = t.c ∧ u.k = t.k ∧ u.f = t.f
theorem Kp.refl (t : Sk) : Kp t t := ⟨rfl, rfl, rfl, rfl⟩
theorem after_kp (t : Sk) : Kp t t.after := by
  unfold after
  split
  · split <;> exact ⟨rfl, rfl, rfl, rfl⟩
  · split <;> exact ⟨rfl, rfl, rfl, rfl⟩
  · split <;> exact ⟨rfl, rfl, rfl, rfl⟩
  · exact Kp.refl t
  · split <;> exact ⟨rfl, rfl, rfl, rfl⟩
  · exact ⟨rfl, rfl, rfl, rfl⟩
theorem set_kp (t : Sk) (n : Nw) : Kp t (t.set n) := by
  unfold set
  split
  · exact after_kp { t with nw := n }
  · exact ⟨rfl, rfl, rfl, rfl⟩
theorem look_kp (t : Sk) (w : Wd) : Kp t (t.look w) := by
  unfold look
  split <;> exact ⟨rfl, rfl, rfl, rfl⟩
theorem step_kp : Kp t (t.step w).1 := by
  rcases step_cases t w with ⟨-, e⟩ | ⟨-, ⟨m, -, e⟩ | ⟨m, -, e⟩ | ⟨m, -, e⟩ | ⟨-, e⟩ | ⟨m, -, e⟩ | ⟨m, -, e⟩⟩ <;> rw [e]
  · exact Kp.refl t
  · exact set_kp _ _
  · exact set_kp _ _
  · exact set_kp _ _
  · exact look_kp _ _
  · exact set_kp _ _
  · exact set_kp _ _
theorem step_of {s : Sh} (h : w.of s) : (t.step w).2.of s := by
  rcases step_cases t w with ⟨-, e⟩ | ⟨-, ⟨m, -, e⟩ | ⟨m, -, e⟩ | ⟨m, -, e⟩ | ⟨-, e⟩ | ⟨m, -, e⟩ | ⟨m, -, e⟩⟩ <;> rw [e]
  · exact h
  · exact Tk.step_of h
  · exact Sc.step_of h
  · exact Pc.step_of h
  · exact Wd.of_load h _ _
  · exact St.step_of h
  · exact Bi.step_of h
theorem step_st (h0 : 0 ≤ w.st) (h1 : w.st ≤ 1000000000) : w.st ≤ (t.step w).2.st ∧ (t.step w).2.st ≤ w.st + 1 := by
  have e0 : w64 (w.st + 1) = w.st + 1 := w64_eq (by omega) (by omega)
  rcases step_cases t w with ⟨-, e⟩ | ⟨-, ⟨m, -, e⟩ | ⟨m, -, e⟩ | ⟨m, -, e⟩ | ⟨-, e⟩ | ⟨m, -, e⟩ | ⟨m, -, e⟩⟩ <;> rw [e]
  · exact ⟨Int.le_refl _, by show w.st ≤ w.st + 1; omega⟩
  · exact Tk.step_st h0 h1
  · exact Sc.step_st h0 h1
  · exact Pc.step_st h0 h1
  · show w.st ≤ w64 (w.st + 1) ∧ w64 (w.st + 1) ≤ w.st + 1; omega
  · exact St.step_st h0 h1
  · exact Bi.step_st h0 h1

/-! ### New machines are not done where all is in place -/
theorem sc_new {s : Sh} {c k f : Int} (hm : may s.p s.c s.m = true) (c0 : 0 ≤ c) (c1 : c < s.c) (hk : 0 < slots k) (f0 : 0 ≤ f) (f1 : f < s.p) : (Sc.new s c k f).dn = false := by
  have h1 : 0 ≤ status s.p s.c s.m c := by unfold status within; rw [hm]; simp; omega
  have h2 : 0 ≤ page s.p s.c s.m f := by rw [page_yes hm f0 f1]; have := (may_iff _ _ _).1 hm; omega
  simp [Sc.new, good, h1, h2, hk]
theorem pc_new {s : Sh} {c f : Int} (hm : may s.p s.c s.m = true) (c0 : 0 ≤ c) (c1 : c < s.c) (f0 : 0 ≤ f) (f1 : f < s.p) : (Pc.new s c f).dn = false := by
  have h1 : 0 ≤ status s.p s.c s.m c := by unfold status within; rw [hm]; simp; omega
  have h2 : 0 ≤ page s.p s.c s.m f := by rw [page_yes hm f0 f1]; have := (may_iff _ _ _).1 hm; omega
  simp [Pc.new]; omega
theorem st_new {s : Sh} {c k p : Int} (hm : may s.p s.c s.m = true) (c0 : 0 ≤ c) (c1 : c < s.c) (hk : 0 < slots k) (f0 : 0 ≤ p) (f1 : p < s.p) : (St.new s c p k).dn = false := by
  have h1 : 0 ≤ status s.p s.c s.m c := by unfold status within; rw [hm]; simp; omega
  have h2 : 0 ≤ page s.p s.c s.m p := by rw [page_yes hm f0 f1]; have := (may_iff _ _ _).1 hm; omega
  simp [St.new, good, h1, h2, hk]
theorem bi_new {s : Sh} {c k p : Int} (hm : may s.p s.c s.m = true) (c0 : 0 ≤ c) (c1 : c < s.c) (hk : 0 < slots k) (f0 : 0 ≤ p) (f1 : p < s.p) : (Bi.new s c p k).dn = false := by
  have h1 : 0 ≤ status s.p s.c s.m c := by unfold status within; rw [hm]; simp; omega
  have h2 : 0 ≤ page s.p s.c s.m p := by rw [page_yes hm f0 f1]; have := (may_iff _ _ _).1 hm; omega
  simp [Bi.new, good, h1, h2, hk]
end
end Sk
end Go.Ma
set_option linter.unusedVariables false
set_option linter.unusedSectionVars false
set_option linter.unusedSimpArgs false
namespace Go.Ma
open Go.Pl
namespace Sk
variable {t : Sk} {w : Wd}
/-- A slot claimer's, a page claimer's place. -/
theorem sc_many {m : Sc} (h : m.wf) (hd : m.dn = false) : 0 ≤ (m.step w).1.many ∧ (m.step w).1.many ≤ m.s.p := by
  obtain ⟨a1, a2, a3, a4, a5, a6, a7, -⟩ := h.of hd
  rcases Sc.step_cases m w with ⟨e, -⟩ | ⟨-, h2⟩
  · rw [hd] at e; cases e
  · have hmiss : 0 ≤ m.miss.many ∧ m.miss.many ≤ m.s.p := by
      unfold Sc.miss Sc.turn
      split
      · show 0 ≤ m.many + 1 ∧ m.many + 1 ≤ m.s.p; omega
      · show 0 ≤ m.many ∧ m.many ≤ m.s.p; omega
    have hturn : 0 ≤ m.turn.many ∧ m.turn.many ≤ m.s.p := by show 0 ≤ m.many + 1 ∧ m.many + 1 ≤ m.s.p; omega
    unfold Sc.step
    rw [if_neg (by rw [hd]; decide)]
    split
    · show 0 ≤ (if m.mine w then { m with nx := 1 } else m.turn).many ∧ (if m.mine w then { m with nx := 1 } else m.turn).many ≤ m.s.p
      split
      · show 0 ≤ m.many ∧ m.many ≤ m.s.p; omega
      · exact hturn
    · split
      · show 0 ≤ (if w.get m.at' = opn m.k then { m with nx := 2 } else m.miss).many ∧ (if w.get m.at' = opn m.k then { m with nx := 2 } else m.miss).many ≤ m.s.p
        split
        · show 0 ≤ m.many ∧ m.many ≤ m.s.p; omega
        · exact hmiss
      · show 0 ≤ (if w.get m.at' = opn m.k then { m with fd := true, dn := true } else m.miss).many ∧ (if w.get m.at' = opn m.k then { m with fd := true, dn := true } else m.miss).many ≤ m.s.p
        split
        · show 0 ≤ m.many ∧ m.many ≤ m.s.p; omega
        · exact hmiss
theorem pc_many {m : Pc} (h : m.wf) (hd : m.dn = false) : 0 ≤ (m.step w).1.many ∧ (m.step w).1.many ≤ m.s.p := by
  obtain ⟨a1, a2, a3, a4, a5, a6, a7⟩ := h.of hd
  have hn : 0 ≤ m.next.many ∧ m.next.many ≤ m.s.p := by show 0 ≤ m.many + 1 ∧ m.many + 1 ≤ m.s.p; omega
  unfold Pc.step
  rw [if_neg (by rw [hd]; decide)]
  split
  · show 0 ≤ (if w.get m.at' = 0 then { m with fd := true, dn := true } else m.next).many ∧ (if w.get m.at' = 0 then { m with fd := true, dn := true } else m.next).many ≤ m.s.p
    split
    · show 0 ≤ m.many ∧ m.many ≤ m.s.p; omega
    · exact hn
  · show 0 ≤ (if w.get m.at' = 0 then { m with em := true } else m.next).many ∧ (if w.get m.at' = 0 then { m with em := true } else m.next).many ≤ m.s.p
    split
    · show 0 ≤ m.many ∧ m.many ≤ m.s.p; omega
    · exact hn
theorem sc_keeps {m : Sc} : (m.step w).1.k = m.k ∧ (m.step w).1.f = m.f := by
  have h1 : m.miss.k = m.k ∧ m.miss.f = m.f := by unfold Sc.miss Sc.turn; split <;> exact ⟨rfl, rfl⟩
  unfold Sc.step
  split
  · exact ⟨rfl, rfl⟩
  · split
    · show (if m.mine w then { m with nx := 1 } else m.turn).k = m.k ∧ (if m.mine w then { m with nx := 1 } else m.turn).f = m.f
      split <;> exact ⟨rfl, rfl⟩
    · split
      · show (if w.get m.at' = opn m.k then { m with nx := 2 } else m.miss).k = m.k ∧ (if w.get m.at' = opn m.k then { m with nx := 2 } else m.miss).f = m.f
        split
        · exact ⟨rfl, rfl⟩
        · exact h1
      · show (if w.get m.at' = opn m.k then { m with fd := true, dn := true } else m.miss).k = m.k ∧ (if w.get m.at' = opn m.k then { m with fd := true, dn := true } else m.miss).f = m.f
        split
        · exact ⟨rfl, rfl⟩
        · exact h1
theorem tk_k {m : Tk} : (m.step w).1.k = m.k := by
  rcases Tk.step_cases m w with ⟨-, e⟩ | ⟨-, ⟨-, e⟩ | ⟨-, -, e⟩ | ⟨-, -, e⟩⟩ <;> rw [e]
theorem pc_f {m : Pc} : (m.step w).1.f = m.f := Pc.step_f
theorem st_fd {m : St} (h : m.dn = false → m.hd = false) : (m.step w).1.dn = false → (m.step w).1.hd = false := by
  rcases St.step_cases m w with ⟨-, e⟩ | ⟨hd, ⟨hb, e⟩ | ⟨hb, hi, e⟩ | ⟨hb, hi, hz, e⟩ | ⟨hb, hi, hz, e⟩⟩ <;> rw [e]
  · exact h
  · intro _; exact h hd
  · intro h2; cases h2
  · intro _; exact h hd
  · intro _; exact h hd

/-- What is done fits; what follows fits. -/
structure Cfg (t : Sk) : Prop where
  m : may t.s.p t.s.c t.s.m = true
  c : 0 ≤ t.c ∧ t.c < t.s.c
  k : 0 < slots t.k
  f : 0 ≤ t.f ∧ t.f < t.s.p
  n : 0 ≤ t.many ∧ t.many < t.s.p
theorem here_bd (h : t.Cfg) : 0 ≤ t.here ∧ t.here < t.s.p := by
  have := (may_iff _ _ _).1 h.m
  exact mod_bd (by omega)
theorem bind_wf (h : t.Cfg) (hf : t.fd = false) (hd : t.dn = false) {p : Int} (p0 : 0 ≤ p) (p1 : p < t.s.p) : (t.bind p).wf := by
  refine ⟨fun _ => ⟨h.m, h.c.1, h.c.2, h.k, h.f.1, h.f.2, h.n.1, h.n.2⟩, fun _ => ⟨⟨Bi.new_wf .., rfl, rfl, rfl, rfl, p0, p1⟩, bi_new h.m h.c.1 h.c.2 h.k p0 p1⟩, fun _ => hf⟩
theorem turn_wf (h : t.Cfg) (hf : t.fd = false) : t.turn.wf := by
  refine ⟨fun hd => ?_, fun _ => ⟨trivial, rfl⟩, fun _ => hf⟩
  have hd : t.many + 1 ≠ t.s.p := by simpa [turn] using hd
  exact ⟨h.m, h.c.1, h.c.2, h.k, h.f.1, h.f.2, by show 0 ≤ t.many + 1; have := h.n; omega, by show t.many + 1 < t.s.p; have := h.n; omega⟩
theorem fin_wf (p i : Int) : (t.fin p i).wf := ⟨fun h => (by cases h), fun h => (by cases h), fun h => (by cases h)⟩
theorem set_wf (h : t.Cfg) (hf : t.fd = false) (hd : t.dn = false) {n : Nw} (hn : t.Ok n) : (t.set n).wf := by
  unfold set
  cases hnd : n.dn
  · simp only [Bool.false_eq_true, if_false]
    exact ⟨fun _ => ⟨h.m, h.c.1, h.c.2, h.k, h.f.1, h.f.2, h.n.1, h.n.2⟩, fun _ => ⟨by cases n <;> exact hn, hnd⟩, fun _ => hf⟩
  · simp only [if_true]
    have hm := (may_iff _ _ _).1 h.m
    cases n with
    | tk m =>
      show (if m.fd then _ else _ : Sk).wf
      split
      · exact fin_wf ..
      · exact ⟨fun _ => ⟨h.m, h.c.1, h.c.2, h.k, h.f.1, h.f.2, h.n.1, h.n.2⟩, fun _ => ⟨⟨Sc.new_wf .., rfl, rfl, rfl, rfl, hn.2.2.2.2.1, fun _ => rfl, by show (0 : Int) ≤ 0; omega, by show (0 : Int) ≤ t.s.p; omega⟩, sc_new h.m h.c.1 h.c.2 h.k h.f.1 h.f.2⟩, fun _ => hf⟩
    | sc m =>
      show (if m.fd then _ else _ : Sk).wf
      split
      · exact fin_wf ..
      · exact ⟨fun _ => ⟨h.m, h.c.1, h.c.2, h.k, h.f.1, h.f.2, h.n.1, h.n.2⟩, fun _ => ⟨⟨Pc.new_wf .., rfl, rfl, rfl, hn.2.2.2.2.2.1, fun _ => rfl, by show (0 : Int) ≤ 0; omega, by show (0 : Int) ≤ t.s.p; omega⟩, pc_new h.m h.c.1 h.c.2 h.f.1 h.f.2⟩, fun _ => hf⟩
    | pc m =>
      show (if m.fd then _ else _ : Sk).wf
      split
      · have hb := mod_bd (a := m.f + m.many) (p := m.s.p) (by rw [hn.2.1]; omega)
        exact bind_wf (t := { t with nw := .pc m }) ⟨h.m, h.c, h.k, h.f, h.n⟩ hf hd hb.1 (by have := hb.2; rw [hn.2.1] at this; unfold Pc.pg; rw [hn.2.1]; exact this)
      · exact ⟨fun _ => ⟨h.m, h.c.1, h.c.2, h.k, h.f.1, h.f.2, h.n.1, h.n.2⟩, fun _ => ⟨trivial, rfl⟩, fun _ => hf⟩
    | no => cases hnd
    | st m =>
      show (if m.hd then _ else _ : Sk).wf
      split
      · have hb := here_bd h
        exact bind_wf (t := { t with nw := .st m }) ⟨h.m, h.c, h.k, h.f, h.n⟩ hf hd hb.1 hb.2
      · exact turn_wf (t := { t with nw := .st m }) ⟨h.m, h.c, h.k, h.f, h.n⟩ hf
    | bi m => exact fin_wf (t := { t with nw := .bi m }) ..
theorem wf.cfg (h : t.wf) (hd : t.dn = false) : t.Cfg := by
  obtain ⟨a1, a2, a3, a4, a5, a6, a7, a8⟩ := h.of hd
  exact ⟨a1, ⟨a2, a3⟩, a4, ⟨a5, a6⟩, ⟨a7, a8⟩⟩
theorem step_wf (h : t.wf) : (t.step w).1.wf := by
  rcases step_cases t w with ⟨-, e⟩ | ⟨hd, ⟨m, en, e⟩ | ⟨m, en, e⟩ | ⟨m, en, e⟩ | ⟨en, e⟩ | ⟨m, en, e⟩ | ⟨m, en, e⟩⟩ <;> rw [e]
  · exact h
  · obtain ⟨ho, hx⟩ := h.nw hd
    rw [en] at ho hx
    obtain ⟨o1, o2, o3, o4, o5, o6⟩ := ho
    exact set_wf (h.cfg hd) (h.fd hd) hd (n := .tk _) ⟨Tk.step_wf o1, Tk.step_s.trans o2, Tk.step_c.trans o3, tk_k.trans o4, o5, Tk.step_fd o6⟩
  · obtain ⟨ho, hx⟩ := h.nw hd
    rw [en] at ho hx
    obtain ⟨o1, o2, o3, o4, o5, o6, o7, -⟩ := ho
    have hmn := sc_many (w := w) o1 hx
    rw [o2] at hmn
    exact set_wf (h.cfg hd) (h.fd hd) hd (n := .sc _) ⟨Sc.step_wf o1, Sc.step_s.trans o2, Sc.step_c.trans o3, sc_keeps.1.trans o4, sc_keeps.2.trans o5, o6, Sc.step_fd o7, hmn⟩
  · obtain ⟨ho, hx⟩ := h.nw hd
    rw [en] at ho hx
    obtain ⟨o1, o2, o3, o4, o5, o6, -⟩ := ho
    have hmn := pc_many (w := w) o1 hx
    rw [o2] at hmn
    exact set_wf (h.cfg hd) (h.fd hd) hd (n := .pc _) ⟨Pc.step_wf o1, Pc.step_s.trans o2, Pc.step_c.trans o3, Pc.step_f.trans o4, o5, Pc.step_fd o6, hmn⟩
  · have hc := h.cfg hd
    have hh := here_bd hc
    show (t.look w).wf
    unfold look
    cases hs : t.isSup w
    · simp only [Bool.false_eq_true, if_false]
      exact turn_wf hc (h.fd hd)
    · simp only [if_true]
      unfold isSup at hs
      simp only [Bool.and_eq_true, decide_eq_true_eq] at hs
      have hA := Gv.ok_super hs.1 hs.2
      have hk : 0 < slots (pgA t.s t.here (w.get t.pat)) := by
        rcases (by omega : pgA t.s t.here (w.get t.pat) = 0 ∨ pgA t.s t.here (w.get t.pat) = 1 ∨ pgA t.s t.here (w.get t.pat) = 2 ∨ pgA t.s t.here (w.get t.pat) = 3) with h | h | h | h <;> rw [h] <;> decide
      exact ⟨fun _ => ⟨hc.m, hc.c.1, hc.c.2, hc.k, hc.f.1, hc.f.2, hc.n.1, hc.n.2⟩, fun _ => ⟨⟨St.new_wf .., rfl, rfl, rfl, fun _ => rfl⟩, st_new hc.m hc.c.1 hc.c.2 hk hh.1 hh.2⟩, fun _ => h.fd hd⟩
  · obtain ⟨ho, hx⟩ := h.nw hd
    rw [en] at ho hx
    obtain ⟨o1, o2, o3, o4, o5⟩ := ho
    exact set_wf (h.cfg hd) (h.fd hd) hd (n := .st _) ⟨St.step_wf o1, St.step_s.trans o2, St.step_c.trans o3, St.step_p.trans o4, st_fd o5⟩
  · obtain ⟨ho, hx⟩ := h.nw hd
    rw [en] at ho hx
    obtain ⟨o1, o2, o3, o4, o5, o6, o7⟩ := ho
    exact set_wf (h.cfg hd) (h.fd hd) hd (n := .bi _) ⟨Bi.step_wf o1, Bi.step_s.trans o2, Bi.step_c.trans o3, Bi.step_k.trans o4, Bi.step_p.trans o5, o6, o7⟩
theorem new_wf (s : Sh) (c k f : Int) : (new s c k f).wf := by
  unfold new
  cases e : (good s c k && decide (0 ≤ page s.p s.c s.m f))
  · simp only [Bool.false_eq_true, if_false]
    exact ⟨fun h => (by cases h), fun h => (by cases h), fun h => (by cases h)⟩
  · simp only [if_true]
    simp only [Bool.and_eq_true] at e
    obtain ⟨g1, g2, g3, g4⟩ := good_of e.1
    obtain ⟨-, p1, p2⟩ := page_of e.2
    have := (may_iff _ _ _).1 g1
    exact set_wf ⟨g1, ⟨g2, g3⟩, g4, ⟨p1, p2⟩, ⟨Int.le_refl _, by show (0 : Int) < s.p; omega⟩⟩ rfl rfl (n := .tk _) ⟨Tk.new_wf .., rfl, rfl, rfl, rfl, fun _ => rfl⟩

/-! ### How many steps are left -/
def lf (p many : Int) : Nw → Int
  | .tk m => m.left + 33 * p + 2 * p + 35 * p + 35
  | .sc m => m.left + 2 * p + 35 * p + 34
  | .pc m => m.left + 35 * p + 33
  | .no => 35 * (p - many) + 33
  | .st m => m.left + 35 * (p - many - 1) + 33
  | .bi m => m.left
def left (t : Sk) : Int := if t.dn then 0 else lf t.s.p t.many t.nw
theorem left_0 (h : t.dn = true) : t.left = 0 := by unfold left; rw [if_pos h]
theorem sc_left_new (s : Sh) (c k f : Int) (hp : 1 ≤ s.p) : (Sc.new s c k f).left ≤ 33 * s.p := by
  unfold Sc.left
  split
  · omega
  · show 33 * (s.p - 0 - 1) + (if (0 : Int) = 0 then 33 else _) ≤ _; rw [if_pos rfl]; omega
theorem pc_left_new (s : Sh) (c f : Int) (hp : 1 ≤ s.p) : (Pc.new s c f).left ≤ 2 * s.p := by
  unfold Pc.left
  split
  · omega
  · show 2 * (s.p - 0) - (if false = true then 1 else 0) ≤ _; simp
theorem st_left_new (s : Sh) (c p k : Int) : (St.new s c p k).left ≤ 34 := by
  have := slots_bd k
  unfold St.left
  split
  · omega
  · show (if false = true then (0 : Int) else 2 * slots k + 2 - 0) ≤ _; simp; omega
theorem bi_left_new (s : Sh) (c p k : Int) : (Bi.new s c p k).left ≤ 32 := by
  have := slots_bd k
  unfold Bi.left
  split
  · omega
  · show (if false = true then (0 : Int) else 16 + slots k - 0) ≤ _; simp; omega
theorem tk_left_new (s : Sh) (c k : Int) (hm : 0 ≤ s.m) : (Tk.new s c k).left ≤ s.m + 1 := by
  unfold Tk.left
  split
  · omega
  · show (if false = true then (1 : Int) else s.m - 0 + 1) ≤ _; simp
theorem bind_left (p : Int) : (t.bind p).left ≤ 32 := by
  unfold left
  split
  · omega
  · exact bi_left_new ..
theorem turn_left (h : t.Cfg) : t.turn.left ≤ 35 * (t.s.p - t.many - 1) + 33 := by
  have := h.n
  unfold left
  split
  · omega
  · show 35 * (t.s.p - (t.many + 1)) + 33 ≤ _; omega
theorem fin_left (p i : Int) : (t.fin p i).left = 0 := left_0 rfl
/-- Behind a step of the machine that is at it: at most one less than what there was. -/
theorem set_left (h : t.Cfg) (hd : t.dn = false) {n : Nw} (hn : t.Ok n) (b : Int) (hb : lf t.s.p t.many n ≤ b) (hb0 : 0 ≤ b) : (t.set n).left ≤ b := by
  have hm := (may_iff _ _ _).1 h.m
  have hnn := h.n
  unfold set
  cases hnd : n.dn
  · simp only [Bool.false_eq_true, if_false]
    unfold left
    rw [if_neg (by show ¬ t.dn = true; rw [hd]; decide)]
    exact hb
  · simp only [if_true]
    cases n with
    | tk m =>
      have hl := Tk.left_nn hn.1
      show (if m.fd then _ else _ : Sk).left ≤ _
      split
      · rw [fin_left]; exact hb0
      · unfold left
        rw [if_neg (by show ¬ t.dn = true; rw [hd]; decide)]
        have := sc_left_new t.s t.c t.k t.f (by omega)
        show (Sc.new t.s t.c t.k t.f).left + 2 * t.s.p + 35 * t.s.p + 34 ≤ _
        have hb : m.left + 33 * t.s.p + 2 * t.s.p + 35 * t.s.p + 35 ≤ b := hb
        omega
    | sc m =>
      have hl := Sc.left_nn hn.1
      show (if m.fd then _ else _ : Sk).left ≤ _
      split
      · rw [fin_left]; exact hb0
      · unfold left
        rw [if_neg (by show ¬ t.dn = true; rw [hd]; decide)]
        have := pc_left_new t.s t.c t.f (by omega)
        show (Pc.new t.s t.c t.f).left + 35 * t.s.p + 33 ≤ _
        have hb : m.left + 2 * t.s.p + 35 * t.s.p + 34 ≤ b := hb
        omega
    | pc m =>
      have hl := Pc.left_nn hn.1
      have hb : m.left + 35 * t.s.p + 33 ≤ b := hb
      show (if m.fd then _ else _ : Sk).left ≤ _
      split
      · exact Int.le_trans (bind_left _) (by omega)
      · unfold left
        rw [if_neg (by show ¬ t.dn = true; rw [hd]; decide)]
        show 35 * (t.s.p - t.many) + 33 ≤ _
        omega
    | no => cases hnd
    | st m =>
      have hl := St.left_nn hn.1
      have hb : m.left + 35 * (t.s.p - t.many - 1) + 33 ≤ b := hb
      show (if m.hd then _ else _ : Sk).left ≤ _
      split
      · exact Int.le_trans (bind_left _) (by omega)
      · exact Int.le_trans (turn_left (t := { t with nw := .st m }) ⟨h.m, h.c, h.k, h.f, h.n⟩) (by show 35 * (t.s.p - t.many - 1) + 33 ≤ b; omega)
    | bi m => show (Sk.fin _ _ _).left ≤ b; rw [fin_left]; exact hb0
theorem left_nn (h : t.wf) : 0 ≤ t.left := by
  unfold left
  cases hd : t.dn
  · have hc := h.cfg hd
    have hm := (may_iff _ _ _).1 hc.m
    have hnn := hc.n
    obtain ⟨ho, hx⟩ := h.nw hd
    simp only [Bool.false_eq_true, if_false]
    cases en : t.nw with
    | tk m => rw [en] at ho; have := Tk.left_nn ho.1; show 0 ≤ m.left + 33 * t.s.p + 2 * t.s.p + 35 * t.s.p + 35; omega
    | sc m => rw [en] at ho; have := Sc.left_nn ho.1; show 0 ≤ m.left + 2 * t.s.p + 35 * t.s.p + 34; omega
    | pc m => rw [en] at ho; have := Pc.left_nn ho.1; show 0 ≤ m.left + 35 * t.s.p + 33; omega
    | no => show 0 ≤ 35 * (t.s.p - t.many) + 33; omega
    | st m => rw [en] at ho; have := St.left_nn ho.1; show 0 ≤ m.left + 35 * (t.s.p - t.many - 1) + 33; omega
    | bi m => rw [en] at ho; exact Bi.left_nn ho.1
  · simp
theorem left_dn (h : t.wf) (hl : t.left ≤ 0) : t.dn = true := by
  cases hd : t.dn
  · exfalso
    have hc := h.cfg hd
    have hm := (may_iff _ _ _).1 hc.m
    have hnn := hc.n
    obtain ⟨ho, hx⟩ := h.nw hd
    unfold left at hl
    rw [hd] at hl
    simp only [Bool.false_eq_true, if_false] at hl
    cases en : t.nw with
    | tk m => rw [en] at ho hl; have := Tk.left_nn ho.1; have hl : m.left + 33 * t.s.p + 2 * t.s.p + 35 * t.s.p + 35 ≤ 0 := hl; omega
    | sc m => rw [en] at ho hl; have := Sc.left_nn ho.1; have hl : m.left + 2 * t.s.p + 35 * t.s.p + 34 ≤ 0 := hl; omega
    | pc m => rw [en] at ho hl; have := Pc.left_nn ho.1; have hl : m.left + 35 * t.s.p + 33 ≤ 0 := hl; omega
    | no => rw [en] at hl; have hl : 35 * (t.s.p - t.many) + 33 ≤ 0 := hl; omega
    | st m => rw [en] at ho hl; have := St.left_nn ho.1; have hl : m.left + 35 * (t.s.p - t.many - 1) + 33 ≤ 0 := hl; omega
    | bi m =>
      rw [en] at ho hl hx
      have := Bi.left_dn ho.1 hl
      have hx : m.dn = false := hx
      rw [this] at hx; cases hx
  · rfl
theorem step_left (h : t.wf) (hd : t.dn = false) : (t.step w).1.left < t.left := by
  have hc := h.cfg hd
  have hm := (may_iff _ _ _).1 hc.m
  have hnn := hc.n
  obtain ⟨ho, hx⟩ := h.nw hd
  have hw' := step_wf (w := w) h
  have el : t.left = lf t.s.p t.many t.nw := by unfold left; rw [hd]; rfl
  suffices hh : (t.step w).1.left ≤ t.left - 1 by omega
  rw [el]
  rcases step_cases t w with ⟨e, -⟩ | ⟨-, ⟨m, en, e⟩ | ⟨m, en, e⟩ | ⟨m, en, e⟩ | ⟨en, e⟩ | ⟨m, en, e⟩ | ⟨m, en, e⟩⟩
  · rw [hd] at e; cases e
  · rw [e, en]; rw [en] at ho hx
    obtain ⟨o1, o2, o3, o4, o5, o6⟩ := ho
    have h1 := Tk.step_left (w := w) o1 hx
    have h2 := Tk.left_nn (Tk.step_wf (w := w) o1)
    refine set_left hc hd (n := .tk _) ⟨Tk.step_wf o1, Tk.step_s.trans o2, Tk.step_c.trans o3, tk_k.trans o4, o5, Tk.step_fd o6⟩ _ ?_ ?_
    · show (m.step w).1.left + 33 * t.s.p + 2 * t.s.p + 35 * t.s.p + 35 ≤ m.left + 33 * t.s.p + 2 * t.s.p + 35 * t.s.p + 35 - 1; omega
    · show 0 ≤ m.left + 33 * t.s.p + 2 * t.s.p + 35 * t.s.p + 35 - 1; omega
  · rw [e, en]; rw [en] at ho hx
    obtain ⟨o1, o2, o3, o4, o5, o6, o7, -⟩ := ho
    have hmn := sc_many (w := w) o1 hx
    rw [o2] at hmn
    have h1 := Sc.step_left (w := w) o1 hx
    have h2 := Sc.left_nn (Sc.step_wf (w := w) o1)
    refine set_left hc hd (n := .sc _) ⟨Sc.step_wf o1, Sc.step_s.trans o2, Sc.step_c.trans o3, sc_keeps.1.trans o4, sc_keeps.2.trans o5, o6, Sc.step_fd o7, hmn⟩ _ ?_ ?_
    · show (m.step w).1.left + 2 * t.s.p + 35 * t.s.p + 34 ≤ m.left + 2 * t.s.p + 35 * t.s.p + 34 - 1; omega
    · show 0 ≤ m.left + 2 * t.s.p + 35 * t.s.p + 34 - 1; omega
  · rw [e, en]; rw [en] at ho hx
    obtain ⟨o1, o2, o3, o4, o5, o6, -⟩ := ho
    have hmn := pc_many (w := w) o1 hx
    rw [o2] at hmn
    have h1 := Pc.step_left (w := w) o1 hx
    have h2 := Pc.left_nn (Pc.step_wf (w := w) o1)
    refine set_left hc hd (n := .pc _) ⟨Pc.step_wf o1, Pc.step_s.trans o2, Pc.step_c.trans o3, Pc.step_f.trans o4, o5, Pc.step_fd o6, hmn⟩ _ ?_ ?_
    · show (m.step w).1.left + 35 * t.s.p + 33 ≤ m.left + 35 * t.s.p + 33 - 1; omega
    · show 0 ≤ m.left + 35 * t.s.p + 33 - 1; omega
  · rw [e, en]
    show (t.look w).left ≤ 35 * (t.s.p - t.many) + 33 - 1
    unfold look
    split
    · unfold left
      rw [if_neg (by show ¬ t.dn = true; rw [hd]; decide)]
      have := st_left_new t.s t.c t.here (pgA t.s t.here (w.get t.pat))
      show (St.new t.s t.c t.here (pgA t.s t.here (w.get t.pat))).left + 35 * (t.s.p - t.many - 1) + 33 ≤ _
      omega
    · have := turn_left hc; omega
  · rw [e, en]; rw [en] at ho hx
    obtain ⟨o1, o2, o3, o4, o5⟩ := ho
    have h1 := St.step_left (w := w) o1 hx
    have h2 := St.left_nn (St.step_wf (w := w) o1)
    refine set_left hc hd (n := .st _) ⟨St.step_wf o1, St.step_s.trans o2, St.step_c.trans o3, St.step_p.trans o4, st_fd o5⟩ _ ?_ ?_
    · show (m.step w).1.left + 35 * (t.s.p - t.many - 1) + 33 ≤ m.left + 35 * (t.s.p - t.many - 1) + 33 - 1; omega
    · show 0 ≤ m.left + 35 * (t.s.p - t.many - 1) + 33 - 1; omega
  · rw [e, en]; rw [en] at ho hx
    obtain ⟨o1, o2, o3, o4, o5, o6, o7⟩ := ho
    have h1 := Bi.step_left (w := w) o1 hx
    have h2 := Bi.left_nn (Bi.step_wf (w := w) o1)
    refine set_left hc hd (n := .bi _) ⟨Bi.step_wf o1, Bi.step_s.trans o2, Bi.step_c.trans o3, Bi.step_k.trans o4, Bi.step_p.trans o5, o6, o7⟩ _ ?_ ?_
    · show (m.step w).1.left ≤ m.left - 1; omega
    · show 0 ≤ m.left - 1; omega
theorem new_left (s : Sh) (c k f : Int) (hp : may s.p s.c s.m = true) : (new s c k f).left ≤ s.m + 70 * s.p + 36 := by
  have hm := (may_iff _ _ _).1 hp
  unfold new
  cases e : (good s c k && decide (0 ≤ page s.p s.c s.m f))
  · simp only [Bool.false_eq_true, if_false]
    rw [left_0 rfl]; omega
  · simp only [if_true]
    simp only [Bool.and_eq_true] at e
    obtain ⟨g1, g2, g3, g4⟩ := good_of e.1
    obtain ⟨-, p1, p2⟩ := page_of e.2
    refine set_left ⟨g1, ⟨g2, g3⟩, g4, ⟨p1, p2⟩, ⟨Int.le_refl _, by show (0 : Int) < s.p; omega⟩⟩ rfl (n := .tk _) ⟨Tk.new_wf .., rfl, rfl, rfl, rfl, fun _ => rfl⟩ _ ?_ (by omega)
    have := tk_left_new s c k (by omega)
    show (Tk.new s c k).left + 33 * s.p + 2 * s.p + 35 * s.p + 35 ≤ _; omega
end Sk
/-- A step of the machine that is at it. -/
def Nw.step (n : Nw) (w : Wd) : Nw × Wd := match n with
  | .tk m => (.tk (m.step w).1, (m.step w).2)
  | .sc m => (.sc (m.step w).1, (m.step w).2)
  | .pc m => (.pc (m.step w).1, (m.step w).2)
  | .no => (.no, w)
  | .st m => (.st (m.step w).1, (m.step w).2)
  | .bi m => (.bi (m.step w).1, (m.step w).2)
namespace Sk
variable {t : Sk} {w : Wd}
theorem step_nw (h : t.dn = false) (hn : t.nw ≠ .no) : t.step w = (t.set (t.nw.step w).1, (t.nw.step w).2) := by
  cases e : t.nw with
  | tk m => rw [step_tk h e]; rfl
  | sc m => rw [step_sc h e]; rfl
  | pc m => rw [step_pc h e]; rfl
  | no => exact absurd e hn
  | st m => rw [step_st' h e]; rfl
  | bi m => rw [step_bi h e]; rfl
theorem Ok_nw {u : Sk} {n : Nw} (h : t.Ok n) (h1 : u.s = t.s) (h2 : u.c = t.c) (h3 : u.k = t.k) (h4 : u.f = t.f) (h5 : u.many = t.many) (h6 : u.pg = t.pg) : u.Ok n := by
  have hh : u.here = t.here := by unfold here; rw [h1, h4, h5]
  cases n <;> simp only [Ok] at h ⊢ <;> simp only [h1, h2, h3, h4, h5, h6, hh] <;> exact h
/-- A step keeps what fits. -/
theorem ok_step (h : t.wf) (hd : t.dn = false) : t.Ok (t.nw.step w).1 := by
  obtain ⟨ho, hx⟩ := h.nw hd
  cases en : t.nw with
  | tk m =>
    rw [en] at ho hx
    obtain ⟨o1, o2, o3, o4, o5, o6⟩ := ho
    exact ⟨Tk.step_wf o1, Tk.step_s.trans o2, Tk.step_c.trans o3, tk_k.trans o4, o5, Tk.step_fd o6⟩
  | sc m =>
    rw [en] at ho hx
    obtain ⟨o1, o2, o3, o4, o5, o6, o7, -⟩ := ho
    have hmn := sc_many (w := w) o1 hx
    rw [o2] at hmn
    exact ⟨Sc.step_wf o1, Sc.step_s.trans o2, Sc.step_c.trans o3, sc_keeps.1.trans o4, sc_keeps.2.trans o5, o6, Sc.step_fd o7, hmn⟩
  | pc m =>
    rw [en] at ho hx
    obtain ⟨o1, o2, o3, o4, o5, o6, -⟩ := ho
    have hmn := pc_many (w := w) o1 hx
    rw [o2] at hmn
    exact ⟨Pc.step_wf o1, Pc.step_s.trans o2, Pc.step_c.trans o3, Pc.step_f.trans o4, o5, Pc.step_fd o6, hmn⟩
  | no => trivial
  | st m =>
    rw [en] at ho hx
    obtain ⟨o1, o2, o3, o4, o5⟩ := ho
    exact ⟨St.step_wf o1, St.step_s.trans o2, St.step_c.trans o3, St.step_p.trans o4, st_fd o5⟩
  | bi m =>
    rw [en] at ho hx
    obtain ⟨o1, o2, o3, o4, o5, o6, o7⟩ := ho
    exact ⟨Bi.step_wf o1, Bi.step_s.trans o2, Bi.step_c.trans o3, Bi.step_k.trans o4, Bi.step_p.trans o5, o6, o7⟩
end Sk
end Go.Ma
set_option linter.unusedVariables false
set_option linter.unusedSectionVars false
set_option linter.unusedSimpArgs false
namespace Go.Ma
open Go.Pl
namespace Sa
theorem set_go (t : Sk) {m : Nw} (h : m.dn = false) : t.set m = { t with nw := m } := by unfold Sk.set; rw [h]; rfl
theorem set_af (t : Sk) {m : Nw} (h : m.dn = true) : t.set m = ({ t with nw := m } : Sk).after := by unfold Sk.set; rw [h]; rfl
section
variable (s : Sh) (ws0 : Nat → Int) (c k f : Int)
def Noe (i : Int) : Prop := ∀ j, 0 ≤ j → j < i → ¬ (okEn s (mgAt s ws0 c j) = true ∧ enK s (mgAt s ws0 c j) = k)
def Has (p i : Int) : Prop := pgK s p (pgAt s ws0 p) = 2 ∧ pgA s p (pgAt s ws0 p) = k ∧ 0 ≤ i ∧ i < slots k ∧ slAt s ws0 p i = opn k
def Nos (j : Int) : Prop := ∀ q, 0 ≤ q → q < j → ∀ i, ¬ Has s ws0 k ((f + q) % s.p) i
def Nop (j : Int) : Prop := ∀ q, 0 ≤ q → q < j → pgAt s ws0 ((f + q) % s.p) ≠ 0
def Nof (j : Int) : Prop := ∀ q, 0 ≤ q → q < j → ¬ Rw.Free s ws0 ((f + q) % s.p)
/-- No word but of one page is another one. -/
def Off (ws : Nat → Int) (p : Int) : Prop := ∀ j : Nat, (j : Int) ≠ s.c + p → ¬ (s.c + s.p + p * 16 ≤ (j : Int) ∧ (j : Int) < s.c + s.p + p * 16 + 16) → ws j = ws0 j
/-- From where a page is. -/
def Org (p : Int) : Prop := Rw.Free s ws0 p ∧ Noe s ws0 c k s.m ∧ Nos s ws0 k f s.p ∧ ∃ j, 0 ≤ j ∧ j < s.p ∧ p = (f + j) % s.p ∧ (pgAt s ws0 p = 0 ∨ Nof s ws0 f j)
inductive Ph (t : Sk) (ws : Nat → Int) : Prop
  | tk (m : Tk) (e : t.nw = .tk m) (hd : t.dn = false) (hh : m.hit = false) (hw : ws = ws0) (no : Noe s ws0 c k m.i)
  | ht (m : Tk) (e : t.nw = .tk m) (hd : t.dn = false) (hh : m.hit = true) (hw : ws = ws0) (ok : okEn s (mgAt s ws0 c m.i) = true) (kk : enK s (mgAt s ws0 c m.i) = k) (hp : m.ep = enP s (mgAt s ws0 c m.i)) (hs : m.es = enS s (mgAt s ws0 c m.i))
  | sc (m : Sc) (e : t.nw = .sc m) (hd : t.dn = false) (hw : ws = ws0) (no : Noe s ws0 c k s.m) (ns : Nos s ws0 k f m.many) (n0 : m.nx = 0 → m.i = 0)
      (np : m.nx ≠ 0 → pgK s m.pg (pgAt s ws0 m.pg) = 2 ∧ pgA s m.pg (pgAt s ws0 m.pg) = k ∧ ∀ i, 0 ≤ i → i < m.i → slAt s ws0 m.pg i ≠ opn k) (n2 : m.nx = 2 → slAt s ws0 m.pg m.i = opn k)
  | pc (m : Pc) (e : t.nw = .pc m) (hd : t.dn = false) (hw : ws = ws0) (no : Noe s ws0 c k s.m) (ns : Nos s ws0 k f s.p) (ne : Nop s ws0 f m.many) (em : m.em = true → pgAt s ws0 m.pg = 0)
  | no (e : t.nw = .no) (hd : t.dn = false) (hw : ws = ws0) (no : Noe s ws0 c k s.m) (ns : Nos s ws0 k f s.p) (ne : Nop s ws0 f s.p) (nf : Nof s ws0 f t.many)
  | st (m : St) (e : t.nw = .st m) (hd : t.dn = false) (no : Noe s ws0 c k s.m) (ns : Nos s ws0 k f s.p) (ne : Nop s ws0 f s.p) (nf : Nof s ws0 f t.many) (of : Off s ws0 ws m.p) (tr : Rw.Tr s ws0 c ws m.p m.i) (kk : m.k = pgA s m.p (pgAt s ws0 m.p)) (bk : m.bk = true → ¬ Rw.Free s ws0 m.p)
  | b1 (m : Bi) (e : t.nw = .bi m) (hd : t.dn = false) (og : Org s ws0 c k f m.p) (of : Off s ws0 ws m.p) (hx : m.bd = false) (pg : pgAt s ws m.p = held c) (sl : ∀ i, 0 ≤ i → i < m.i → slAt s ws m.p i = if i < slots k then way c else 0)
  | b2 (m : Bi) (e : t.nw = .bi m) (hd : t.dn = false) (og : Org s ws0 c k f m.p) (of : Off s ws0 ws m.p) (hx : m.bd = true) (pg : pgAt s ws m.p = super k c) (sl : ∀ i, 0 ≤ i → i ≤ m.i → slAt s ws m.p i = way c) (so : ∀ i, m.i < i → i < slots k → slAt s ws m.p i = opn k) (sz : ∀ i, slots k ≤ i → i < 16 → slAt s ws m.p i = 0)
  | f1 (i : Int) (hd : t.dn = true) (hf : t.fd = true) (i0 : 0 ≤ i) (i1 : i < s.m) (ok : okEn s (mgAt s ws0 c i) = true) (kk : enK s (mgAt s ws0 c i) = k) (hp : t.pg = enP s (mgAt s ws0 c i)) (hs : t.sl = enS s (mgAt s ws0 c i)) (hw : ws = upW ws0 (mag s.p s.c s.m c i) 0)
  | f2 (hd : t.dn = true) (hf : t.fd = true) (p0 : 0 ≤ t.pg) (p1 : t.pg < s.p) (h : Has s ws0 k t.pg t.sl) (hw : ws = upW ws0 (slot s.p s.c s.m t.pg t.sl) (way c))
  | f3 (hd : t.dn = true) (hf : t.fd = true) (p0 : 0 ≤ t.pg) (p1 : t.pg < s.p) (og : Org s ws0 c k f t.pg) (hl : t.sl = 0) (of : Off s ws0 ws t.pg) (pg : pgAt s ws t.pg = super k c) (sl : slAt s ws t.pg 0 = way c) (so : ∀ i, 0 < i → i < slots k → slAt s ws t.pg i = opn k) (sz : ∀ i, slots k ≤ i → i < 16 → slAt s ws t.pg i = 0)
  | n (hd : t.dn = true) (hf : t.fd = false) (hw : ws = ws0) (no : Noe s ws0 c k s.m) (ns : Nos s ws0 k f s.p) (nf : Nof s ws0 f s.p)
structure Al (t : Sk) (w : Wd) : Prop where
  wf : t.wf
  of : w.of s
  ok : may s.p s.c s.m = true
  es : t.s = s
  ec : t.c = c ∧ 0 ≤ c ∧ c < s.c
  kk : t.k = k ∧ 0 ≤ k ∧ k ≤ 3
  ff : t.f = f ∧ 0 ≤ f ∧ f < s.p
  snd : Snd s ws0
  ph : Ph s ws0 c k f t w.ws
end
section
variable {s : Sh} {ws0 ws : Nat → Int} {c k f p : Int} {t : Sk} {w : Wd}
theorem Off.pg (hm : may s.p s.c s.m = true) (p0 : 0 ≤ p) (p1 : p < s.p) (h : Off s ws0 ws p) (y : Int) : Off s ws0 (upW ws (page s.p s.c s.m p) y) p := fun j j0 j1 => by
  have hb := (may_iff _ _ _).1 hm
  show (if j = (page s.p s.c s.m p).toNat then y else ws j) = ws0 j
  rw [page_yes hm p0 p1, if_neg (by omega)]; exact h j j0 j1
theorem Off.sl (hm : may s.p s.c s.m = true) (p0 : 0 ≤ p) (p1 : p < s.p) {i : Int} (i0 : 0 ≤ i) (i1 : i < 16) (h : Off s ws0 ws p) (y : Int) : Off s ws0 (upW ws (slot s.p s.c s.m p i) y) p := fun j j0 j1 => by
  have hb := (may_iff _ _ _).1 hm
  show (if j = (slot s.p s.c s.m p i).toNat then y else ws j) = ws0 j
  rw [slot_yes hm p0 p1 i0 i1, if_neg (by omega)]; exact h j j0 j1
theorem Off.refl : Off s ws0 ws0 p := fun _ _ _ => rfl
/-- Nothing is changed at all. -/
theorem Off.same (hm : may s.p s.c s.m = true) (p0 : 0 ≤ p) (p1 : p < s.p) (h : Off s ws0 ws p) (h1 : pgAt s ws p = pgAt s ws0 p) (h2 : ∀ i, 0 ≤ i → i < 16 → slAt s ws p i = slAt s ws0 p i) : ws = ws0 := by
  have hb := (may_iff _ _ _).1 hm
  funext j
  by_cases e1 : (j : Int) = s.c + p
  · unfold pgAt at h1
    rw [page_yes hm p0 p1, show (s.c + p).toNat = j by omega] at h1
    exact h1
  · by_cases e2 : s.c + s.p + p * 16 ≤ (j : Int) ∧ (j : Int) < s.c + s.p + p * 16 + 16
    · have := h2 ((j : Int) - (s.c + s.p + p * 16)) (by omega) (by omega)
      unfold slAt at this
      rw [show (s.c + s.p + p * 16 + ((j : Int) - (s.c + s.p + p * 16))).toNat = j by omega] at this
      exact this
    · exact h j e1 e2
theorem Nos.next {j : Int} (h : Nos s ws0 k f j) (hn : ∀ i, ¬ Has s ws0 k ((f + j) % s.p) i) : Nos s ws0 k f (j + 1) := fun q q0 q1 => by
  by_cases e : q = j
  · rw [e]; exact hn
  · exact h q q0 (by omega)
theorem Nop.next {j : Int} (h : Nop s ws0 f j) (hn : pgAt s ws0 ((f + j) % s.p) ≠ 0) : Nop s ws0 f (j + 1) := fun q q0 q1 => by
  by_cases e : q = j
  · rw [e]; exact hn
  · exact h q q0 (by omega)
theorem Nof.next {j : Int} (h : Nof s ws0 f j) (hn : ¬ Rw.Free s ws0 ((f + j) % s.p)) : Nof s ws0 f (j + 1) := fun q q0 q1 => by
  by_cases e : q = j
  · rw [e]; exact hn
  · exact h q q0 (by omega)
theorem Al.step (h : Al s ws0 c k f t w) : Al s ws0 c k f (t.step w).1 (t.step w).2 := by
  have hm := h.ok
  have hb := (may_iff _ _ _).1 hm
  have hkp := Sk.step_kp (t := t) (w := w)
  obtain ⟨hc, c0, c1⟩ := h.ec
  obtain ⟨hk, k0, k1⟩ := h.kk
  obtain ⟨hf, f0, f1⟩ := h.ff
  have hts := h.es
  have hsk := slots_four k0 k1
  suffices hh : Ph s ws0 c k f (t.step w).1 (t.step w).2.ws from
    ⟨Sk.step_wf h.wf, Sk.step_of h.of, hm, hkp.1.trans hts, ⟨hkp.2.1.trans hc, c0, c1⟩, ⟨hkp.2.2.1.trans hk, k0, k1⟩, ⟨hkp.2.2.2.trans hf, f0, f1⟩, h.snd, hh⟩
  have hmod : ∀ j, 0 ≤ (f + j) % s.p ∧ (f + j) % s.p < s.p := fun j => ⟨Int.emod_nonneg _ (by omega), Int.emod_lt_of_pos _ (by omega)⟩
  have hok : ∀ q, 0 ≤ q → q < s.p → okPg s q (pgAt s ws0 q) = true := fun q q0 q1 => by
    have := (h.snd.pg q.toNat (by omega)).1
    rw [show ((q.toNat : Nat) : Int) = q by omega] at this; exact this
  cases h.ph with
  | tk m e hd hh hw no =>
    obtain ⟨ho, hmd⟩ := h.wf.nw hd
    rw [e] at ho hmd
    have hmd : m.dn = false := hmd
    obtain ⟨o1, o2, o3, o4, -, o6⟩ := ho
    obtain ⟨-, -, -, i0, i1⟩ := o1.of hmd
    rw [o2, hts] at i1
    have hat : m.at' = mag s.p s.c s.m c m.i := by unfold Tk.at'; rw [o2, hts, o3, hc]
    have hg : w.get m.at' = mgAt s ws0 c m.i := by rw [hat, mag_at hm c0 c1 i0 i1, hw]
    rw [Sk.step_tk hd e]
    cases hhits : m.hits w
    · have hnk : ¬ (okEn s (mgAt s ws0 c m.i) = true ∧ enK s (mgAt s ws0 c m.i) = k) := fun ⟨g1, g2⟩ => by
        unfold Tk.hits at hhits
        rw [hg, o2, hts, o4, hk, g1, decide_eq_true g2] at hhits; cases hhits
      have es : m.step w = ({ m with i := m.i + 1, dn := decide (m.i + 1 = m.s.m) }, w.load m.c m.at') := by
        unfold Tk.step; rw [if_neg (by rw [hmd]; decide), if_neg (by rw [hh]; decide), if_neg (by rw [hhits]; decide)]
      have hno : Noe s ws0 c k (m.i + 1) := fun j j0 j1 => by
        by_cases ej : j = m.i
        · rw [ej]; exact hnk
        · exact no j j0 (by omega)
      have hsm : m.s.m = s.m := by rw [o2, hts]
      rw [es]
      by_cases hl : m.i + 1 = s.m
      · rw [set_af _ (by show decide (m.i + 1 = m.s.m) = true; rw [hsm]; exact decide_eq_true hl)]
        have ea : ({ t with nw := .tk { m with i := m.i + 1, dn := decide (m.i + 1 = m.s.m) } } : Sk).after = { t with nw := .sc (Sc.new t.s t.c t.k t.f) } := by
          show (if m.fd then _ else _ : Sk) = _; rw [o6 hmd]; rfl
        rw [ea]
        exact .sc _ rfl hd hw (by rw [← hl]; exact hno) (fun q q0 q1 => by have q1 : q < 0 := q1; omega) (fun _ => rfl) (fun g => absurd rfl g) (fun g => by cases g)
      · rw [set_go _ (by show decide (m.i + 1 = m.s.m) = false; rw [hsm]; exact decide_eq_false hl)]
        exact .tk _ rfl hd hh hw hno
    · have hh2 := hhits
      unfold Tk.hits at hh2
      rw [hg, o2, hts, o4, hk] at hh2
      simp only [Bool.and_eq_true, decide_eq_true_eq] at hh2
      have es : m.step w = ({ m with ep := enP m.s (w.get m.at'), es := enS m.s (w.get m.at'), ek := enK m.s (w.get m.at'), hit := true }, w.load m.c m.at') := by
        unfold Tk.step; rw [if_neg (by rw [hmd]; decide), if_neg (by rw [hh]; decide), if_pos hhits]
      rw [es, set_go _ (by exact hmd)]
      exact .ht _ rfl hd rfl hw hh2.1 hh2.2 (by show enP m.s (w.get m.at') = _; rw [hg, o2, hts]) (by show enS m.s (w.get m.at') = _; rw [hg, o2, hts])
  | ht m e hd hh hw ok kk hp hs =>
    obtain ⟨ho, hmd⟩ := h.wf.nw hd
    rw [e] at ho hmd
    have hmd : m.dn = false := hmd
    obtain ⟨o1, o2, o3, o4, -, o6⟩ := ho
    obtain ⟨-, -, -, i0, i1⟩ := o1.of hmd
    rw [o2, hts] at i1
    have hat : m.at' = mag s.p s.c s.m c m.i := by unfold Tk.at'; rw [o2, hts, o3, hc]
    have es : m.step w = ({ m with fd := true, dn := true }, w.store m.c m.at' 0) := by
      unfold Tk.step; rw [if_neg (by rw [hmd]; decide), if_pos hh]
    rw [Sk.step_tk hd e, es, set_af _ rfl]
    exact .f1 m.i rfl rfl i0 i1 ok kk hp hs (by rw [store_ws, hat, hw])
  | sc m e hd hw no ns n0 np n2 =>
    obtain ⟨ho, hmd⟩ := h.wf.nw hd
    rw [e] at ho hmd
    have hmd : m.dn = false := hmd
    obtain ⟨o1, o2, o3, o4, o5, -, o7, -⟩ := ho
    obtain ⟨-, -, -, -, -, q0, q1, i0, i1, x0, x1⟩ := o1.of hmd
    have hsp : m.s.p = s.p := by rw [o2, hts]
    have hpgd : m.pg = (f + m.many) % s.p := by unfold Sc.pg; rw [hsp, o5, hf]
    have hmk : m.k = k := o4.trans hk
    rw [hmk] at i1
    have hq := hmod m.many
    rw [← hpgd] at hq
    have hgp : w.get m.pat = pgAt s ws0 m.pg := by unfold Sc.pat; rw [o2, hts, ← hw]; rfl
    have hat : m.at' = slot s.p s.c s.m m.pg m.i := by unfold Sc.at'; rw [o2, hts]
    have hgs : w.get m.at' = slAt s ws0 m.pg m.i := by rw [hat, slot_at hm hq.1 hq.2 i0 (by omega), hw]
    -- on to the next page
    have turn : ∀ (m' : Sc) (w' : Wd), m'.s = m.s → m'.c = m.c → m'.k = m.k → m'.f = m.f → m'.many = m.many → m'.fd = false → w'.ws = ws0 → (∀ i, ¬ Has s ws0 k m.pg i) → Ph s ws0 c k f (t.set (.sc m'.turn)) w'.ws := fun m' w' g1 g2 g3 g4 g5 g6 g7 g8 => by
      rw [hpgd] at g8
      have ns2 := ns.next g8
      by_cases hl : m.many + 1 = s.p
      · rw [set_af _ (by show decide (m'.many + 1 = m'.s.p) = true; rw [g1, g5, hsp]; exact decide_eq_true hl)]
        have ea : ({ t with nw := .sc m'.turn } : Sk).after = { t with nw := .pc (Pc.new t.s t.c t.f) } := by
          show (if m'.turn.fd then _ else _ : Sk) = _; rw [show m'.turn.fd = false from g6]; rfl
        rw [ea]
        exact .pc _ rfl hd g7 no (by rw [← hl]; exact ns2) (fun q q0 q1 => by have q1 : q < 0 := q1; omega) (fun g => by cases g)
      · rw [set_go _ (by show decide (m'.many + 1 = m'.s.p) = false; rw [g1, g5, hsp]; exact decide_eq_false hl)]
        exact .sc _ rfl hd g7 no (by show Nos s ws0 k f (m'.many + 1); rw [g5]; exact ns2) (fun _ => rfl) (fun g => absurd rfl g) (fun g => by cases g)
    rw [Sk.step_sc hd e]
    by_cases hx0 : m.nx = 0
    · cases hmine : m.mine w
      · have es : m.step w = (m.turn, w.load m.c m.pat) := by
          unfold Sc.step; rw [if_neg (by rw [hmd]; decide), if_pos hx0, if_neg (by rw [hmine]; decide)]
        rw [es]
        refine turn m _ rfl rfl rfl rfl rfl (o7 hmd) hw fun i hi => ?_
        obtain ⟨g1, g2, -⟩ := hi
        unfold Sc.mine at hmine
        rw [hgp, o2, hts, hmk, hok m.pg hq.1 hq.2, decide_eq_true g1, decide_eq_true g2] at hmine; cases hmine
      · have es : m.step w = ({ m with nx := 1 }, w.load m.c m.pat) := by
          unfold Sc.step; rw [if_neg (by rw [hmd]; decide), if_pos hx0, if_pos hmine]
        unfold Sc.mine at hmine
        rw [hgp, o2, hts, hmk] at hmine
        simp only [Bool.and_eq_true, decide_eq_true_eq] at hmine
        rw [es, set_go _ (by exact hmd)]
        exact .sc _ rfl hd hw no ns (fun g => by cases g) (fun _ => ⟨hmine.1.2, hmine.2, fun i i0 i1 => by have i1 : i < m.i := i1; rw [n0 hx0] at i1; omega⟩) (fun g => by cases g)
    · obtain ⟨p1, p2, p3⟩ := np hx0
      -- the slot is none
      have miss : ∀ (w' : Wd), w'.ws = ws0 → slAt s ws0 m.pg m.i ≠ opn k → Ph s ws0 c k f (t.set (.sc m.miss)) w'.ws := fun w' g7 g8 => by
        unfold Sc.miss
        by_cases hl : m.i + 1 = slots m.k
        · rw [if_pos hl]
          show Ph s ws0 c k f (t.set (.sc (Sc.turn ⟨m.s, m.c, _, m.f, m.many, m.i + 1, 1, m.fd, m.dn⟩))) w'.ws
          rw [hmk] at hl
          refine turn ⟨m.s, m.c, _, m.f, m.many, m.i + 1, 1, m.fd, m.dn⟩ w' rfl rfl rfl rfl rfl (o7 hmd) g7 fun i ⟨_, _, a1, a2, a3⟩ => ?_
          by_cases ei : i = m.i
          · rw [ei] at a3; exact g8 a3
          · exact p3 i a1 (by omega) a3
        · rw [if_neg hl, set_go _ (by exact hmd)]
          rw [hmk] at hl
          refine .sc _ rfl hd g7 no ns (fun g => by cases g) (fun _ => ⟨p1, p2, fun i i0 i1 => ?_⟩) (fun g => by cases g)
          have i1 : i < m.i + 1 := i1
          by_cases ei : i = m.i
          · rw [ei]; exact g8
          · exact p3 i i0 (by omega)
      by_cases hx1 : m.nx = 1
      · by_cases hz : slAt s ws0 m.pg m.i = opn k
        · have es : m.step w = ({ m with nx := 2 }, w.load m.c m.at') := by
            unfold Sc.step; rw [if_neg (by rw [hmd]; decide), if_neg hx0, if_pos hx1, hgs, hmk, if_pos hz]
          rw [es, set_go _ (by exact hmd)]
          exact .sc _ rfl hd hw no ns (fun g => by cases g) (fun _ => ⟨p1, p2, p3⟩) (fun _ => hz)
        · have es : m.step w = (m.miss, w.load m.c m.at') := by
            unfold Sc.step; rw [if_neg (by rw [hmd]; decide), if_neg hx0, if_pos hx1, hgs, hmk, if_neg hz]
          rw [es]
          exact miss _ hw hz
      · have hz := n2 (by omega)
        have es : m.step w = ({ m with fd := true, dn := true }, w.swap m.c m.at' (opn m.k) (way m.c)) := by
          unfold Sc.step; rw [if_neg (by rw [hmd]; decide), if_neg hx0, if_neg hx1, hgs, hmk, if_pos hz]
        rw [es, set_af _ rfl]
        refine .f2 rfl rfl hq.1 hq.2 ⟨p1, p2, i0, i1, hz⟩ ?_
        rw [swap_yes (by rw [hgs, hmk]; exact hz), hat, hw, o3, hc]; rfl
  | pc m e hd hw no ns ne em =>
    obtain ⟨ho, hmd⟩ := h.wf.nw hd
    rw [e] at ho hmd
    have hmd : m.dn = false := hmd
    obtain ⟨o1, o2, o3, o4, o5, o6, -⟩ := ho
    obtain ⟨-, -, -, -, -, q0, q1⟩ := o1.of hmd
    have hsp : m.s.p = s.p := by rw [o2, hts]
    rw [hsp] at q1
    have hpgd : m.pg = (f + m.many) % s.p := by unfold Pc.pg; rw [hsp, o4, hf]
    have hq := hmod m.many
    rw [← hpgd] at hq
    have hat : m.at' = page s.p s.c s.m m.pg := by unfold Pc.at'; rw [o2, hts]
    have hgp : w.get m.at' = pgAt s ws0 m.pg := by rw [hat, ← hw]; rfl
    rw [Sk.step_pc hd e]
    cases hem : m.em
    · by_cases hz : pgAt s ws0 m.pg = 0
      · have es : m.step w = ({ m with em := true }, w.load m.c m.at') := by
          unfold Pc.step; rw [if_neg (by rw [hmd]; decide), if_neg (by rw [hem]; decide), hgp, if_pos hz]
        rw [es, set_go _ (by exact hmd)]
        exact .pc _ rfl hd hw no ns ne (fun _ => hz)
      · have es : m.step w = (m.next, w.load m.c m.at') := by
          unfold Pc.step; rw [if_neg (by rw [hmd]; decide), if_neg (by rw [hem]; decide), hgp, if_neg hz]
        have ne2 := ne.next (by rw [← hpgd]; exact hz)
        rw [es]
        by_cases hl : m.many + 1 = s.p
        · rw [set_af _ (by show decide (m.many + 1 = m.s.p) = true; rw [hsp]; exact decide_eq_true hl)]
          have ea : ({ t with nw := .pc m.next } : Sk).after = { t with nw := .no } := by
            show (if m.next.fd then _ else _ : Sk) = _; rw [show m.next.fd = false from o6 hmd]; rfl
          rw [ea]
          exact .no rfl hd hw no ns (by rw [← hl]; exact ne2) (fun q q0 q1 => by have q1 : q < t.many := q1; omega)
        · rw [set_go _ (by show decide (m.many + 1 = m.s.p) = false; rw [hsp]; exact decide_eq_false hl)]
          exact .pc _ rfl hd hw no ns ne2 (fun g => by cases g)
    · have hz := em hem
      have es : m.step w = ({ m with fd := true, dn := true }, w.swap m.c m.at' 0 (held m.c)) := by
        unfold Pc.step; rw [if_neg (by rw [hmd]; decide), if_pos hem, hgp, if_pos hz]
      rw [es, set_af _ rfl]
      have hws : (w.swap m.c m.at' 0 (held m.c)).ws = upW ws0 (page s.p s.c s.m m.pg) (held c) := by rw [swap_yes (hgp.trans hz), hat, hw, o3, hc]
      rw [hws]
      refine .b1 (Bi.new t.s t.c m.pg t.k) rfl hd ⟨.inl (by show pgK s m.pg (pgAt s ws0 m.pg) = 0; rw [hz, pgK_zero]), no, ns, m.many, q0, q1, hpgd, .inl hz⟩ (Off.refl.pg hm hq.1 hq.2 _) rfl ?_ (fun i i0 i1 => by have i1 : i < 0 := i1; omega)
      show pgAt s _ m.pg = held c
      rw [pg_pg hm hq.1 hq.2 hq.1 hq.2, if_pos rfl]
  | no e hd hw no ns ne nf =>
    obtain ⟨g1, g2, g3, g4, g5, g6, g7, g8⟩ := h.wf.of hd
    rw [hts] at g8
    have hhere : t.here = (f + t.many) % s.p := by unfold Sk.here; rw [hts, hf]
    have hq := hmod t.many
    rw [← hhere] at hq
    have hgp : w.get t.pat = pgAt s ws0 t.here := by unfold Sk.pat; rw [hts, ← hw]; rfl
    rw [Sk.step_no hd e]
    show Ph s ws0 c k f (t.look w) (w.load t.c t.pat).ws
    unfold Sk.look
    split
    · rename_i hsup
      unfold Sk.isSup at hsup
      rw [hgp, hts] at hsup
      simp only [Bool.and_eq_true, decide_eq_true_eq] at hsup
      have hA := Gv.ok_super hsup.1 hsup.2
      have hs4 := slots_four hA.1 hA.2.1
      rw [hgp, hts]
      exact .st (St.new s t.c t.here (pgA s t.here (pgAt s ws0 t.here))) rfl hd no ns ne nf (by rw [show (w.load t.c t.pat).ws = ws0 from hw]; exact Off.refl) (by rw [show (w.load t.c t.pat).ws = ws0 from hw]; exact ⟨rfl, hsup.2, Int.le_refl _, by show 0 ≤ slots (pgA s t.here (pgAt s ws0 t.here)); omega, fun i i0 i1 => by have i1 : i < 0 := i1; omega, fun i i0 i1 => rfl⟩) rfl (fun g => by cases g)
    · rename_i hsup
      have hnf : ¬ Rw.Free s ws0 ((f + t.many) % s.p) := fun hfr => by
        rw [← hhere] at hfr
        rcases hfr with g | ⟨g, -⟩
        · have hz := is_empty (hok t.here hq.1 hq.2) g
          rw [hhere] at hz
          exact ne t.many g7 g8 hz
        · apply hsup
          unfold Sk.isSup
          rw [hgp, hts, hok t.here hq.1 hq.2, decide_eq_true g]; rfl
      have nf2 := nf.next hnf
      unfold Sk.turn
      rw [hts]
      by_cases hl : t.many + 1 = s.p
      · exact .n (by show decide (t.many + 1 = s.p) = true; exact decide_eq_true hl) (h.wf.fd hd) hw no ns (by rw [← hl]; exact nf2)
      · exact .no rfl (by show decide (t.many + 1 = s.p) = false; exact decide_eq_false hl) hw no ns ne nf2
  | st m e hd no ns ne nf of tr kk bk =>
    obtain ⟨g1, g2, g3, g4, g5, g6, g7, g8⟩ := h.wf.of hd
    rw [hts] at g8
    obtain ⟨ho, hmd⟩ := h.wf.nw hd
    rw [e] at ho hmd
    have hmd : m.dn = false := hmd
    obtain ⟨o1, o2, o3, o4, o5⟩ := ho
    have hhere : t.here = (f + t.many) % s.p := by unfold Sk.here; rw [hts, hf]
    have hpe : m.p = (f + t.many) % s.p := o4.trans hhere
    have hq := hmod t.many
    rw [← hpe] at hq
    obtain ⟨t1, t2, t3, t4, t5, t6⟩ := tr
    have hA := Gv.ok_super (pgK_ne (s := s) (x := pgAt s ws0 m.p) (by rw [t2]; decide)) t2
    have hs4 := slots_four hA.1 hA.2.1
    have hsup : ∀ i : Nat, i < 16 → slB s.c (pgA s m.p (pgAt s ws0 m.p)) i (slAt s ws0 m.p i) = true := by
      have := (h.snd.pg m.p.toNat (by omega)).2
      rw [show ((m.p.toNat : Nat) : Int) = m.p by omega] at this
      exact this.sup (by rw [t2]; rfl)
    obtain ⟨A, hAe⟩ : ∃ A, pgA s m.p (pgAt s ws0 m.p) = A := ⟨_, rfl⟩
    rw [hAe] at kk t4 t5 hA hs4 hsup
    have hat : ∀ j, m.at' j = slot s.p s.c s.m m.p j := fun j => by unfold St.at'; rw [o2, hts]
    have hpat : m.pat = page s.p s.c s.m m.p := by unfold St.pat; rw [o2, hts]
    have hmc : m.c = c := o3.trans hc
    have turnN : ∀ (x : Nw) (ws' : Nat → Int), ws' = ws0 → ¬ Rw.Free s ws0 m.p → Ph s ws0 c k f (({ t with nw := x } : Sk).turn) ws' := fun x ws' g7 g8' => by
      have nf2 := nf.next (by rw [← hpe]; exact g8')
      unfold Sk.turn
      by_cases hl : t.many + 1 = s.p
      · exact .n (by show decide (t.many + 1 = t.s.p) = true; rw [hts]; exact decide_eq_true hl) (h.wf.fd hd) g7 no ns (by rw [← hl]; exact nf2)
      · exact .no rfl (by show decide (t.many + 1 = t.s.p) = false; rw [hts]; exact decide_eq_false hl) g7 no ns ne nf2
    rw [Sk.step_st' hd e]
    rcases St.step_cases m w with ⟨e1, -⟩ | ⟨-, ⟨hb1, e2⟩ | ⟨hb1, hi, e2⟩ | ⟨hb1, hi, hg, e2⟩ | ⟨hb1, hi, hg, e2⟩⟩
    · rw [hmd] at e1; cases e1
    · -- goes back
      obtain ⟨-, -, -, -, -, -, a7, a8, a9⟩ := o1.of hmd
      have a9 := a9 hb1
      have hws : (w.store m.c (m.at' (m.i - 1)) (opn m.k)).ws = upW w.ws (slot s.p s.c s.m m.p (m.i - 1)) (opn A) := by rw [store_ws, hat, kk]
      rw [e2]
      show Ph s ws0 c k f (t.set (.st { m with i := m.i - 1, dn := decide (m.i - 1 = 0) })) (w.store m.c (m.at' (m.i - 1)) (opn m.k)).ws
      rw [hws]
      have of2 := of.sl hm hq.1 hq.2 (i := m.i - 1) (by omega) (by omega) (opn A)
      have tr2 : Rw.Tr s ws0 c (upW w.ws (slot s.p s.c s.m m.p (m.i - 1)) (opn A)) m.p (m.i - 1) := by
        refine ⟨(pg_sl hm hq.1 hq.2 (by omega) (by omega) hq.1 hq.2).trans t1, t2, by omega, by rw [hAe]; omega, fun i i0 i1 => ?_, fun i i0 i1 => ?_⟩
        · rw [sl_sl hm hq.1 hq.2 (by omega) (by omega) hq.1 i0 (by omega), if_neg (by omega), hAe]; exact t5 i i0 (by omega)
        · rw [sl_sl hm hq.1 hq.2 (by omega) (by omega) hq.1 (by omega) i1]
          split
          · rename_i g; rw [g.2]; exact (t5 (m.i - 1) (by omega) (by omega)).2.symm
          · exact t6 i (by omega) i1
      by_cases hl : m.i - 1 = 0
      · rw [set_af _ (by show decide (m.i - 1 = 0) = true; exact decide_eq_true hl)]
        have ea : ({ t with nw := .st { m with i := m.i - 1, dn := decide (m.i - 1 = 0) } } : Sk).after = ({ t with nw := .st { m with i := m.i - 1, dn := decide (m.i - 1 = 0) } } : Sk).turn := by
          show (if m.hd then _ else _ : Sk) = _; rw [o5 hmd]; rfl
        rw [ea]
        rw [hl] at tr2 of2 ⊢
        exact turnN _ _ (of2.same hm hq.1 hq.2 tr2.1 tr2.2.2.2.2.2) (bk hb1)
      · rw [set_go _ (by show decide (m.i - 1 = 0) = false; exact decide_eq_false hl)]
        exact .st _ rfl hd no ns ne nf of2 tr2 (by rw [hAe]; exact kk) bk
    · -- has it
      have hws : (w.store m.c m.pat (held m.c)).ws = upW w.ws (page s.p s.c s.m m.p) (held c) := by rw [store_ws, hpat, hmc]
      rw [e2]
      show Ph s ws0 c k f (t.set (.st { m with hd := true, dn := true })) (w.store m.c m.pat (held m.c)).ws
      rw [hws, set_af _ rfl]
      show Ph s ws0 c k f (({ t with nw := .st { m with hd := true, dn := true } } : Sk).bind t.here) _
      have hpp : t.here = m.p := o4.symm
      rw [hpp]
      refine .b1 (Bi.new t.s t.c m.p t.k) rfl hd ⟨.inr ⟨t2, fun i i0 i1 => ?_⟩, no, ns, t.many, g7, g8, hpe, .inr nf⟩ (of.pg hm hq.1 hq.2 _) rfl ?_ (fun i i0 i1 => by have i1 : i < 0 := i1; omega)
      · have i1 : i < slots (pgA s m.p (pgAt s ws0 m.p)) := i1
        rw [hAe] at i1
        show slK (slAt s ws0 m.p i) = 1
        rw [(t5 i i0 (by rw [hi, kk]; exact i1)).2]; exact (opn_ne A hA.1 (by omega)).2.1
      · show pgAt s _ m.p = held c
        rw [pg_pg hm hq.1 hq.2 hq.1 hq.2, if_pos rfl]
    · -- one more
      rw [kk] at hi
      have hgs : slAt s w.ws m.p m.i = opn A := by
        rw [hat, kk, slot_at hm hq.1 hq.2 t3 (by omega)] at hg; exact hg
      have hws : (w.swap m.c (m.at' m.i) (opn m.k) (way m.c)).ws = upW w.ws (slot s.p s.c s.m m.p m.i) (way c) := by rw [swap_yes hg, hat, hmc]
      rw [e2]
      show Ph s ws0 c k f (t.set (.st { m with i := m.i + 1 })) (w.swap m.c (m.at' m.i) (opn m.k) (way m.c)).ws
      rw [hws, set_go _ (by exact hmd)]
      refine .st _ rfl hd no ns ne nf (of.sl hm hq.1 hq.2 t3 (by omega) _) ?_ (by rw [hAe]; exact kk) bk
      show Rw.Tr s ws0 c (upW w.ws (slot s.p s.c s.m m.p m.i) (way c)) m.p (m.i + 1)
      refine ⟨(pg_sl hm hq.1 hq.2 (by omega) (by omega) hq.1 hq.2).trans t1, t2, by omega, by rw [hAe]; omega, fun i i0 i1 => ?_, fun i i0 i1 => ?_⟩
      · rw [hAe, sl_sl hm hq.1 hq.2 (by omega) (by omega) hq.1 i0 (by omega)]
        by_cases g : i = m.i
        · subst g
          rw [if_pos ⟨rfl, rfl⟩]
          exact ⟨rfl, (t6 _ (Int.le_refl _) (by omega)).symm.trans hgs⟩
        · rw [if_neg (by omega)]; exact t5 i i0 (by omega)
      · rw [sl_sl hm hq.1 hq.2 (by omega) (by omega) hq.1 (by omega) i1, if_neg (by omega)]; exact t6 i (by omega) i1
    · -- cannot have it
      rw [kk] at hi
      have hgs : slAt s w.ws m.p m.i ≠ opn A := by
        rw [hat, kk, slot_at hm hq.1 hq.2 t3 (by omega)] at hg; exact hg
      have hws : (w.swap m.c (m.at' m.i) (opn m.k) (way m.c)).ws = w.ws := swap_no hg
      have hnf : ¬ Rw.Free s ws0 m.p := fun hfr => by
        rcases hfr with g | ⟨-, g⟩
        · rw [t2] at g; cases g
        · rw [hAe] at g
          have g1 := g m.i t3 (by omega)
          have g2 := hsup m.i.toNat (by omega)
          rw [show ((m.i.toNat : Nat) : Int) = m.i by omega] at g2
          unfold slB at g2
          rw [decide_eq_true (by omega : m.i < slots A), g1] at g2
          have g3 : slA (slAt s ws0 m.p m.i) = A := by simpa using g2
          have g4 := is_opn g1
          rw [g3] at g4
          exact hgs ((t6 _ (Int.le_refl _) (by omega)).trans g4)
      rw [e2]
      show Ph s ws0 c k f (t.set (.st { m with bk := true, dn := decide (m.i = 0) })) (w.swap m.c (m.at' m.i) (opn m.k) (way m.c)).ws
      rw [hws]
      have tr2 : Rw.Tr s ws0 c w.ws m.p m.i := ⟨t1, t2, t3, by rw [hAe]; exact t4, by rw [hAe]; exact t5, t6⟩
      by_cases hl : m.i = 0
      · rw [set_af _ (by show decide (m.i = 0) = true; exact decide_eq_true hl)]
        have ea : ({ t with nw := .st { m with bk := true, dn := decide (m.i = 0) } } : Sk).after = ({ t with nw := .st { m with bk := true, dn := decide (m.i = 0) } } : Sk).turn := by
          show (if m.hd then _ else _ : Sk) = _; rw [o5 hmd]; rfl
        rw [ea]
        exact turnN _ _ (of.same hm hq.1 hq.2 t1 fun i i0 i1 => t6 i (by omega) i1) hnf
      · rw [set_go _ (by show decide (m.i = 0) = false; exact decide_eq_false hl)]
        exact .st _ rfl hd no ns ne nf of tr2 (by rw [hAe]; exact kk) fun _ => hnf
  | b1 m e hd og of hx pg sl =>
    obtain ⟨ho, hmd⟩ := h.wf.nw hd
    rw [e] at ho hmd
    have hmd : m.dn = false := hmd
    obtain ⟨o1, o2, o3, o4, o5, o6, o7⟩ := ho
    obtain ⟨-, -, -, p0, p1, -, i0, i1, -⟩ := o1.of hmd
    rw [o2, hts] at p1
    have hmc : m.c = c := o3.trans hc
    have hmk : m.k = k := o4.trans hk
    have hat : m.at' = slot s.p s.c s.m m.p m.i := by unfold Bi.at'; rw [o2, hts]
    have hpat : m.pat = page s.p s.c s.m m.p := by unfold Bi.pat; rw [o2, hts]
    rw [Sk.step_bi hd e]
    by_cases hl : m.i = 16
    · have es : m.step w = ({ m with bd := true, i := slots m.k - 1 }, w.store m.c m.pat (super m.k m.c)) := by
        unfold Bi.step; rw [if_neg (by rw [hmd]; decide), if_neg (by rw [hx]; decide), if_pos hl]
      have hws : (w.store m.c m.pat (super m.k m.c)).ws = upW w.ws (page s.p s.c s.m m.p) (super k c) := by rw [store_ws, hpat, hmk, hmc]
      rw [es, set_go _ (by exact hmd)]
      show Ph s ws0 c k f { t with nw := .bi { m with bd := true, i := slots m.k - 1 } } (w.store m.c m.pat (super m.k m.c)).ws
      rw [hws]
      refine .b2 _ rfl hd og (of.pg hm p0 p1 _) rfl ?_ (fun i a0 a1 => ?_) (fun i a0 a1 => ?_) (fun i a0 a1 => ?_)
      · show pgAt s _ m.p = _
        rw [pg_pg hm p0 p1 p0 p1, if_pos rfl]
      · have a1 : i ≤ slots m.k - 1 := a1
        rw [hmk] at a1
        show slAt s _ m.p i = _
        rw [sl_pg hm p0 p1 p0 a0, sl i a0 (by omega), if_pos (by omega)]
      · have a0 : slots m.k - 1 < i := a0
        rw [hmk] at a0; omega
      · show slAt s _ m.p i = _
        rw [sl_pg hm p0 p1 p0 (by omega), sl i (by omega) (by omega), if_neg (by omega)]
    · have es : m.step w = ({ m with i := m.i + 1 }, w.store m.c m.at' (if m.i < slots m.k then way m.c else 0)) := by
        unfold Bi.step; rw [if_neg (by rw [hmd]; decide), if_neg (by rw [hx]; decide), if_neg hl]
      have hws : (w.store m.c m.at' (if m.i < slots m.k then way m.c else 0)).ws = upW w.ws (slot s.p s.c s.m m.p m.i) (if m.i < slots k then way c else 0) := by rw [store_ws, hat, hmk, hmc]
      rw [es, set_go _ (by exact hmd)]
      show Ph s ws0 c k f { t with nw := .bi { m with i := m.i + 1 } } (w.store m.c m.at' (if m.i < slots m.k then way m.c else 0)).ws
      rw [hws]
      refine .b1 _ rfl hd og (of.sl hm p0 p1 i0 (by omega) _) hx ?_ (fun i a0 a1 => ?_)
      · show pgAt s _ m.p = _
        rw [pg_sl hm p0 p1 i0 (by omega) p0 p1]; exact pg
      · have a1 : i < m.i + 1 := a1
        show slAt s _ m.p i = _
        rw [sl_sl hm p0 p1 i0 (by omega) p0 a0 (by omega)]
        by_cases g : i = m.i
        · rw [if_pos ⟨rfl, g⟩, g]
        · rw [if_neg (fun x => g x.2)]; exact sl i a0 (by omega)
  | b2 m e hd og of hx pg sl so sz =>
    obtain ⟨ho, hmd⟩ := h.wf.nw hd
    rw [e] at ho hmd
    have hmd : m.dn = false := hmd
    obtain ⟨o1, o2, o3, o4, o5, o6, o7⟩ := ho
    obtain ⟨-, -, -, p0, p1, -, i0, i1, i2⟩ := o1.of hmd
    have i2 := i2 hx
    rw [o2, hts] at p1
    have hmk : m.k = k := o4.trans hk
    rw [hmk] at i2
    have hat : m.at' = slot s.p s.c s.m m.p m.i := by unfold Bi.at'; rw [o2, hts]
    have es : m.step w = ({ m with i := m.i - 1, dn := decide (m.i - 1 = 0) }, w.store m.c m.at' (opn m.k)) := by
      unfold Bi.step; rw [if_neg (by rw [hmd]; decide), if_pos hx]
    have hws : (w.store m.c m.at' (opn m.k)).ws = upW w.ws (slot s.p s.c s.m m.p m.i) (opn k) := by rw [store_ws, hat, hmk]
    have of2 := of.sl hm p0 p1 i0 (by omega) (opn k)
    have hsl : ∀ i, 0 ≤ i → i < 16 → slAt s (upW w.ws (slot s.p s.c s.m m.p m.i) (opn k)) m.p i = if i = m.i then opn k else slAt s w.ws m.p i := fun i a0 a1 => by
      rw [sl_sl hm p0 p1 i0 (by omega) p0 a0 a1]
      by_cases g : i = m.i
      · rw [if_pos ⟨rfl, g⟩, if_pos g]
      · rw [if_neg (fun x => g x.2), if_neg g]
    have pg2 : pgAt s (upW w.ws (slot s.p s.c s.m m.p m.i) (opn k)) m.p = super k c := by rw [pg_sl hm p0 p1 i0 (by omega) p0 p1]; exact pg
    have sl2 : ∀ i, 0 ≤ i → i ≤ m.i - 1 → slAt s (upW w.ws (slot s.p s.c s.m m.p m.i) (opn k)) m.p i = way c := fun i a0 a1 => by rw [hsl i a0 (by omega), if_neg (by omega)]; exact sl i a0 (by omega)
    have so2 : ∀ i, m.i - 1 < i → i < slots k → slAt s (upW w.ws (slot s.p s.c s.m m.p m.i) (opn k)) m.p i = opn k := fun i a0 a1 => by
      rw [hsl i (by omega) (by omega)]
      split
      · rfl
      · exact so i (by omega) a1
    have sz2 : ∀ i, slots k ≤ i → i < 16 → slAt s (upW w.ws (slot s.p s.c s.m m.p m.i) (opn k)) m.p i = 0 := fun i a0 a1 => by rw [hsl i (by omega) a1, if_neg (by omega)]; exact sz i a0 a1
    rw [Sk.step_bi hd e, es]
    show Ph s ws0 c k f (t.set (.bi { m with i := m.i - 1, dn := decide (m.i - 1 = 0) })) (w.store m.c m.at' (opn m.k)).ws
    rw [hws]
    by_cases hl : m.i - 1 = 0
    · rw [set_af _ (by show decide (m.i - 1 = 0) = true; exact decide_eq_true hl)]
      show Ph s ws0 c k f (({ t with nw := .bi { m with i := m.i - 1, dn := decide (m.i - 1 = 0) } } : Sk).fin t.pg 0) _
      rw [hl] at sl2 so2
      rw [o5] at og of2 pg2 sl2 so2 sz2 ⊢
      exact .f3 rfl rfl o6 (by rw [hts] at o7; exact o7) og rfl of2 pg2 (sl2 0 (Int.le_refl _) (Int.le_refl _)) so2 sz2
    · rw [set_go _ (by show decide (m.i - 1 = 0) = false; exact decide_eq_false hl)]
      exact .b2 _ rfl hd og of2 hx pg2 sl2 so2 sz2
  | f1 i hd hf i0 i1 ok kk hp hs hw => rw [Sk.step_dn hd]; exact .f1 i hd hf i0 i1 ok kk hp hs hw
  | f2 hd hf p0 p1 hh hw => rw [Sk.step_dn hd]; exact .f2 hd hf p0 p1 hh hw
  | f3 hd hf p0 p1 og hl of pg sl so sz => rw [Sk.step_dn hd]; exact .f3 hd hf p0 p1 og hl of pg sl so sz
  | n hd hf hw no ns nf => rw [Sk.step_dn hd]; exact .n hd hf hw no ns nf
theorem Al.init (hm : may s.p s.c s.m = true) (ho : w.of s) (c0 : 0 ≤ c) (c1 : c < s.c) (k0 : 0 ≤ k) (k1 : k ≤ 3) (f0 : 0 ≤ f) (f1 : f < s.p) (hs : Snd s w.ws) : Al s w.ws c k f (Sk.new s c k f) w := by
  have hb := (may_iff _ _ _).1 hm
  have hsk := slots_four k0 k1
  have g1 : good s c k = true := by
    unfold good
    rw [status_yes hm c0 c1, decide_eq_true (by omega : 0 < slots k), decide_eq_true c0]; rfl
  have g2 : decide (0 ≤ page s.p s.c s.m f) = true := decide_eq_true (by rw [page_yes hm f0 f1]; omega)
  have en : Sk.new s c k f = Sk.set ⟨s, c, k, f, .tk (Tk.new s c k), 0, 0, 0, false, false⟩ (.tk (Tk.new s c k)) := by
    unfold Sk.new; rw [g1, g2]; rfl
  have hkp : Sk.Kp ⟨s, c, k, f, .tk (Tk.new s c k), 0, 0, 0, false, false⟩ (Sk.new s c k f) := by rw [en]; exact Sk.set_kp _ _
  refine ⟨Sk.new_wf .., ho, hm, hkp.1, ⟨hkp.2.1, c0, c1⟩, ⟨hkp.2.2.1, k0, k1⟩, ⟨hkp.2.2.2, f0, f1⟩, hs, ?_⟩
  rw [en]
  by_cases h0 : s.m = 0
  · have hd : (Tk.new s c k).dn = true := by show (!good s c k || decide (s.m = 0)) = true; rw [decide_eq_true h0]; simp
    rw [set_af _ (m := .tk _) hd]
    show Ph s w.ws c k f { (_ : Sk) with nw := .sc (Sc.new s c k f) } w.ws
    exact .sc _ rfl rfl rfl (fun j j0 j1 => by omega) (fun q q0 q1 => by have q1 : q < 0 := q1; omega) (fun _ => rfl) (fun g => absurd rfl g) (fun g => by cases g)
  · have hd : (Tk.new s c k).dn = false := by show (!good s c k || decide (s.m = 0)) = false; rw [decide_eq_false h0, g1]; rfl
    rw [set_go _ (m := .tk _) hd]
    exact .tk _ rfl rfl rfl rfl (fun j j0 j1 => by have j1 : j < 0 := j1; omega)
/-- Each page comes in turn. -/
theorem turn_at {f P p : Int} (f0 : 0 ≤ f) (f1 : f < P) (p0 : 0 ≤ p) (p1 : p < P) : ∃ q, 0 ≤ q ∧ q < P ∧ (f + q) % P = p := by
  by_cases h : f ≤ p
  · exact ⟨p - f, by omega, by omega, by rw [show f + (p - f) = p by omega]; exact Int.emod_eq_of_lt p0 p1⟩
  · exact ⟨p - f + P, by omega, by omega, by rw [show f + (p - f + P) = p + P by omega, Int.add_emod_right]; exact Int.emod_eq_of_lt p0 p1⟩
/-- There is a slot for it. -/
def Want (s : Sh) (ws0 : Nat → Int) (c k : Int) : Prop := (∃ i, 0 ≤ i ∧ i < s.m ∧ okEn s (mgAt s ws0 c i) = true ∧ enK s (mgAt s ws0 c i) = k) ∨ (∃ p i, 0 ≤ p ∧ p < s.p ∧ Has s ws0 k p i) ∨ ∃ p, 0 ≤ p ∧ p < s.p ∧ Rw.Free s ws0 p
theorem Al.fin (h : Al s ws0 c k f t w) (hd : t.dn = true) : t.fd = true ↔ Want s ws0 c k := by
  cases h.ph with
  | tk m e hd' => rw [hd] at hd'; cases hd'
  | ht m e hd' => rw [hd] at hd'; cases hd'
  | sc m e hd' => rw [hd] at hd'; cases hd'
  | pc m e hd' => rw [hd] at hd'; cases hd'
  | no e hd' => rw [hd] at hd'; cases hd'
  | st m e hd' => rw [hd] at hd'; cases hd'
  | b1 m e hd' => rw [hd] at hd'; cases hd'
  | b2 m e hd' => rw [hd] at hd'; cases hd'
  | f1 i _ hf i0 i1 ok kk => exact ⟨fun _ => .inl ⟨i, i0, i1, ok, kk⟩, fun _ => hf⟩
  | f2 _ hf p0 p1 hh => exact ⟨fun _ => .inr (.inl ⟨_, _, p0, p1, hh⟩), fun _ => hf⟩
  | f3 _ hf p0 p1 og => exact ⟨fun _ => .inr (.inr ⟨_, p0, p1, og.1⟩), fun _ => hf⟩
  | n _ hf hw no ns nf =>
    refine ⟨fun g => by (rw [hf] at g; cases g), fun g => ?_⟩
    exfalso
    rcases g with ⟨i, i0, i1, g1, g2⟩ | ⟨p, i, p0, p1, g⟩ | ⟨p, p0, p1, g⟩
    · exact no i i0 i1 ⟨g1, g2⟩
    · obtain ⟨q, q0, q1, rfl⟩ := turn_at h.ff.2.1 h.ff.2.2 p0 p1
      exact ns q q0 q1 i g
    · obtain ⟨q, q0, q1, rfl⟩ := turn_at h.ff.2.1 h.ff.2.2 p0 p1
      exact nf q q0 q1 g
end
end Sa
end Go.Ma
set_option linter.unusedVariables false
set_option linter.unusedSectionVars false
set_option linter.unusedSimpArgs false
namespace Go.Ma
open Go.Pl
namespace Sa
section
variable {s : Sh} {ws0 ws : Nat → Int} {c k f p : Int} {t : Sk} {w : Wd}
theorem super_ok {q : Int} (hm : may s.p s.c s.m = true) (q0 : 0 ≤ q) (q1 : q < s.p) (k0 : 0 ≤ k) (k1 : k ≤ 3) (c0 : 0 ≤ c) (c1 : c < s.c) : okPg s q (super k c) = true ∧ pgK s q (super k c) = 2 ∧ pgA s q (super k c) = k := by
  have hb := (may_iff _ _ _).1 hm
  have hv : super k c = 2 + 16 * k + 4096 * c := by unfold super putPg; rw [if_pos (by omega)]
  have e1 : (2 + 16 * k + 4096 * c) % 16 = 2 := by omega
  have e2 : pt (2 + 16 * k + 4096 * c) 16 = k := by unfold pt; omega
  have e3 : pt (2 + 16 * k + 4096 * c) 4096 = c := by unfold pt; omega
  have hp : 0 ≤ page s.p s.c s.m q := by rw [page_yes hm q0 q1]; omega
  have ok : okPg s q (super k c) = true := by
    rw [hv]
    unfold okPg
    rw [e1, e2, e3]
    have g1 : decide (putPg 2 k c = 2 + 16 * k + 4096 * c) = true := decide_eq_true hv
    have g3 : fits s q 2 k c = true := by unfold fits; simp; omega
    rw [g1, g3, decide_eq_true hp]; rfl
  refine ⟨ok, ?_, ?_⟩
  · unfold pgK; rw [if_pos ok, hv, e1]
  · unfold pgA; rw [if_pos ok, hv, e2]
/-- One page is a super now, or still. -/
theorem one (hm : may s.p s.c s.m = true) (hsn : Snd s ws0) (p0 : 0 ≤ p) (p1 : p < s.p) (hkp : pgK s p (pgAt s ws0 p) = 0 ∨ pgK s p (pgAt s ws0 p) = 2) (un : ∀ q, 0 ≤ q → q < s.p → q ≠ p → Rw.Un s ws0 ws q)
    (ok : okPg s p (pgAt s ws p) = true) (k2 : pgK s p (pgAt s ws p) = 2) (sl : ∀ i : Nat, i < 16 → slB s.c (pgA s p (pgAt s ws p)) i (slAt s ws p i) = true)
    (mg : ∀ c' j, 0 ≤ c' → c' < s.c → 0 ≤ j → j < s.m → mgAt s ws c' j = mgAt s ws0 c' j ∨ mgAt s ws c' j = 0)
    (en : ∀ c' j : Nat, (c' : Int) < s.c → (j : Int) < s.m → mgAt s ws0 c' j ≠ 0 → enP s (mgAt s ws0 c' j) = p → EnB s ws0 c' (mgAt s ws0 c' j) → EnB s ws c' (mgAt s ws0 c' j)) : Snd s ws := by
  have hb := (may_iff _ _ _).1 hm
  have nk : ∀ (k' : Int) (q : Int), pgK s q (pgAt s ws0 q) = k' → k' ≠ 0 → k' ≠ 2 → q ≠ p := fun k' q h h0 h2 e => by
    subst e
    rcases hkp with g | g <;> rw [h] at g
    · exact h0 g
    · exact h2 g
  refine ⟨fun q q1 => ?_, fun c' j h1 h2 hx => ?_, fun c' j c'' j' h1 h2 h3 ha hx hy => ?_⟩
  · by_cases e : (q : Int) = p
    · rw [e]; exact ⟨ok, SpB.two (by rw [k2]; rfl) sl⟩
    · obtain ⟨e1, e2⟩ := hsn.pg q q1
      have hu := un q (by omega) q1 e
      rw [hu.1]
      refine ⟨e1, ⟨fun k j hj => ?_, fun k k' j hj => ?_, fun k k' k4 => ?_, fun k k' k4 k3 j j1 j2 => ?_⟩⟩
      · rw [hu.2 j (by omega) (by omega)]; exact e2.sup k j hj
      · rw [hu.2 j (by omega) (by omega)]; exact e2.emp k k' j hj
      · have hbo := Ad.ok_body e1 (beq_iff_eq.1 k4)
        have hbd := e2.bod k k' k4
        obtain ⟨A', hA'⟩ : ∃ A', pgA s q (pgAt s ws0 q) = A' := ⟨_, rfl⟩
        rw [hA'] at hbo hbd ⊢
        have hne : A' ≠ p := by
          obtain ⟨k', hk'⟩ : ∃ k', pgK s A' (pgAt s ws0 A') = k' := ⟨_, rfl⟩
          rw [hk'] at hbd
          refine nk k' A' hk' (fun e => ?_) (fun e => ?_) <;> rw [e] at hbd <;> simp at hbd
        rw [(un A' hbo.1 (by omega) hne).1]; exact hbd
      · have hl := large_bd e1 (beq_iff_eq.1 k3)
        have he := e2.lar k k' k4 k3 j j1 j2
        rw [(un (q + j) (by omega) (by omega) (nk 4 _ he.1 (by decide) (by decide))).1]; exact he
  · rcases mg c' j (by omega) h1 (by omega) h2 with g | g
    · rw [g] at hx ⊢
      have hE := hsn.en c' j h1 h2 hx
      by_cases e : enP s (mgAt s ws0 c' j) = p
      · exact en c' j h1 h2 hx e hE
      · obtain ⟨e1, e2, e3, e4⟩ := hE
        have hbd := en_bd e1
        have hu := un _ hbd.1 hbd.2.1 e
        exact ⟨e1, by rw [hu.1]; exact e2, by rw [hu.1]; exact e3, by rw [hu.2 _ hbd.2.2.1 hbd.2.2.2]; exact e4⟩
    · exact absurd g hx
  · have hc' : (c'' : Int) < s.c := by unfold ahead at ha; omega
    rcases mg c' j (by omega) h1 (by omega) h2 with g | g
    · rcases mg c'' j' (by omega) hc' (by omega) h3 with g' | g'
      · rw [g] at hx ⊢
        rw [g'] at hy ⊢
        exact hsn.dj c' j c'' j' h1 h2 h3 ha hx hy
      · exact absurd g' hy
    · exact absurd g hx
theorem Al.ends (h : Al s ws0 c k f t w) (hd : t.dn = true) : Snd s w.ws ∧ (t.fd = true → 0 ≤ t.pg ∧ t.pg < s.p ∧ 0 ≤ t.sl ∧ t.sl < 16 ∧ okPg s t.pg (pgAt s w.ws t.pg) = true ∧ pgK s t.pg (pgAt s w.ws t.pg) = 2 ∧ pgA s t.pg (pgAt s w.ws t.pg) = k ∧ slAt s w.ws t.pg t.sl = way c) := by
  have hm := h.ok
  have hb := (may_iff _ _ _).1 hm
  obtain ⟨hc, c0, c1⟩ := h.ec
  obtain ⟨hk, k0, k1⟩ := h.kk
  have hsn := h.snd
  have hsk := slots_four k0 k1
  have wn := way_ne c c0 (by omega)
  have on := opn_ne k k0 (by omega)
  cases h.ph with
  | tk m e hd' => rw [hd] at hd'; cases hd'
  | ht m e hd' => rw [hd] at hd'; cases hd'
  | sc m e hd' => rw [hd] at hd'; cases hd'
  | pc m e hd' => rw [hd] at hd'; cases hd'
  | no e hd' => rw [hd] at hd'; cases hd'
  | st m e hd' => rw [hd] at hd'; cases hd'
  | b1 m e hd' => rw [hd] at hd'; cases hd'
  | b2 m e hd' => rw [hd] at hd'; cases hd'
  | n _ hf hw => rw [hw]; exact ⟨hsn, fun g => by (rw [hf] at g; cases g)⟩
  | f1 i _ hf i0 i1 ok kk hp hs hw =>
    have hne : mgAt s ws0 c i ≠ 0 := fun g => by rw [g] at ok; cases ok
    have hE := hsn.en c.toNat i.toNat (by omega) (by omega)
    rw [show ((c.toNat : Nat) : Int) = c by omega, show ((i.toNat : Nat) : Int) = i by omega] at hE
    obtain ⟨e1, e2, e3, e4⟩ := hE hne
    have hbd := en_bd e1
    have un : ∀ q, 0 ≤ q → q < s.p → Rw.Un s ws0 w.ws q := fun q q0 q1 => by
      rw [hw]; exact ⟨pg_mg hm c0 c1 i0 i1 q0 q1, fun j j0 j1 => sl_mg hm c0 c1 i0 i1 q0 q1 j0 j1⟩
    rw [← hp] at e2 e3 hbd
    rw [← hp, ← hs] at e4
    rw [← hs] at hbd
    have hu := un t.pg hbd.1 hbd.2.1
    have hpn := hsn.pg t.pg.toNat (by omega)
    rw [show ((t.pg.toNat : Nat) : Int) = t.pg by omega] at hpn
    refine ⟨one hm hsn hbd.1 hbd.2.1 (.inr e2) (fun q q0 q1 _ => un q q0 q1) (by rw [hu.1]; exact hpn.1) (by rw [hu.1]; exact e2) (fun j hj => ?_) (fun c' j a0 a1 b0 b1 => ?_) (fun c' j a1 b1 hx _ hE => ?_), fun _ => ⟨hbd.1, hbd.2.1, hbd.2.2.1, hbd.2.2.2, by rw [hu.1]; exact hpn.1, by rw [hu.1]; exact e2, by rw [hu.1, e3]; exact kk, by rw [hu.2 _ hbd.2.2.1 hbd.2.2.2]; exact e4⟩⟩
    · rw [hu.1, hu.2 j (by omega) (by omega)]; exact hpn.2.sup (by rw [e2]; rfl) j hj
    · rw [hw, mg_mg hm c0 c1 i0 i1 a0 b0 b1]
      split
      · exact .inr rfl
      · exact .inl rfl
    · obtain ⟨r1, r2, r3, r4⟩ := hE
      have hb2 := en_bd r1
      have hu2 := un _ hb2.1 hb2.2.1
      exact ⟨r1, by rw [hu2.1]; exact r2, by rw [hu2.1]; exact r3, by rw [hu2.2 _ hb2.2.2.1 hb2.2.2.2]; exact r4⟩
  | f2 _ hf p0 p1 hh hw =>
    obtain ⟨g1, g2, g3, g4, g5⟩ := hh
    have un : ∀ q, 0 ≤ q → q < s.p → q ≠ t.pg → Rw.Un s ws0 w.ws q := fun q q0 q1 hne => by
      rw [hw]; exact Rw.Un.tr ⟨rfl, fun _ _ _ => rfl⟩ (Rw.Sm.sl hm p0 p1 g3 (by omega) q0 q1 hne)
    have hpg : pgAt s w.ws t.pg = pgAt s ws0 t.pg := by rw [hw]; exact pg_sl hm p0 p1 g3 (by omega) p0 p1
    have hsl : ∀ j, 0 ≤ j → j < 16 → slAt s w.ws t.pg j = if j = t.sl then way c else slAt s ws0 t.pg j := fun j j0 j1 => by
      rw [hw, sl_sl hm p0 p1 g3 (by omega) p0 j0 j1]
      by_cases e : j = t.sl
      · rw [if_pos ⟨rfl, e⟩, if_pos e]
      · rw [if_neg (fun x => e x.2), if_neg e]
    have hpn := hsn.pg t.pg.toNat (by omega)
    rw [show ((t.pg.toNat : Nat) : Int) = t.pg by omega] at hpn
    refine ⟨one hm hsn p0 p1 (.inr g1) un (by rw [hpg]; exact hpn.1) (by rw [hpg]; exact g1) (fun j hj => ?_) (fun c' j a0 a1 b0 b1 => .inl ?_) (fun c' j a1 b1 hx he hE => ?_), fun _ => ⟨p0, p1, g3, by omega, by rw [hpg]; exact hpn.1, by rw [hpg]; exact g1, by rw [hpg]; exact g2, by rw [hsl _ g3 (by omega), if_pos rfl]⟩⟩
    · rw [hpg, hsl j (by omega) (by omega)]
      split
      · rename_i e
        unfold slB
        rw [g2, decide_eq_true (by omega : (j : Int) < slots k), wn.2.1, wn.2.2]; simp; exact c1
      · exact hpn.2.sup (by rw [g1]; rfl) j hj
    · rw [hw]; exact mg_sl hm p0 p1 g3 (by omega) a0 b0
    · obtain ⟨r1, r2, r3, r4⟩ := hE
      have hb2 := en_bd r1
      rw [he] at r2 r3 r4
      have hns : enS s (mgAt s ws0 c' j) ≠ t.sl := fun e => by
        rw [e, g5] at r4
        have := congrArg slK r4
        rw [on.2.1] at this
        have h5 := (way_ne c' (by omega) (by omega)).2.1
        unfold way at h5
        rw [h5] at this; cases this
      exact ⟨r1, by rw [he, hpg]; exact r2, by rw [he, hpg]; exact r3, by rw [he, hsl _ hb2.2.2.1 hb2.2.2.2, if_neg hns]; exact r4⟩
  | f3 _ hf p0 p1 og hl of pg sl so sz =>
    obtain ⟨fr, -⟩ := og
    have hso := super_ok hm p0 p1 k0 k1 c0 c1
    have un : ∀ q, 0 ≤ q → q < s.p → q ≠ t.pg → Rw.Un s ws0 w.ws q := fun q q0 q1 hne => by
      refine ⟨?_, fun j j0 j1 => ?_⟩
      · unfold pgAt; rw [page_yes hm q0 q1]; exact of _ (by omega) (by omega)
      · exact of _ (by omega) (by omega)
    refine ⟨one hm hsn p0 p1 (fr.imp id fun x => x.1) un (by rw [pg]; exact hso.1) (by rw [pg]; exact hso.2.1) (fun j hj => ?_) (fun c' j a0 a1 b0 b1 => .inl ?_) (fun c' j a1 b1 hx he hE => ?_), fun _ => ⟨p0, p1, by omega, by omega, by rw [pg]; exact hso.1, by rw [pg]; exact hso.2.1, by rw [pg]; exact hso.2.2, by rw [hl]; exact sl⟩⟩
    · rw [pg, hso.2.2]
      unfold slB
      by_cases e : (j : Int) < slots k
      · rw [decide_eq_true e]
        by_cases e0 : (j : Int) = 0
        · rw [e0, sl, wn.2.1, wn.2.2]; simp; exact c1
        · rw [so j (by omega) e, on.2.1, on.2.2]; simp
      · rw [decide_eq_false e, sz j (by omega) (by omega)]; rfl
    · have h5 := Int.mul_nonneg a0 (by omega : 0 ≤ s.m)
      exact of _ (by omega) (by omega)
    · exfalso
      obtain ⟨r1, r2, r3, r4⟩ := hE
      have hb2 := en_bd r1
      have hS := en_slot r1
      rw [he] at r2 r3 r4
      rcases fr with g | ⟨g, g2⟩
      · rw [r2] at g; cases g
      · have := g2 _ hb2.2.2.1 (by rw [r3]; exact hS)
        rw [r4] at this
        have h5 := (way_ne c' (by omega) (by omega)).2.1
        unfold way at h5
        rw [h5] at this; cases this
end
end Sa
end Go.Ma
set_option linter.unusedVariables false
set_option linter.unusedSectionVars false
set_option linter.unusedSimpArgs false
namespace Go.Ma
open Go.Pl
namespace Rk
/-- The word of a page that is the runner's; 0: it is not. -/
def rOwn (t : Rn) (q : Int) : Int :=
  if t.dn = true then (if t.fd = true ∧ t.hd ≤ q ∧ q < t.hd + t.n then (if q = t.hd then held 0 else putPg 4 t.hd 0) else 0)
  else if t.nx ≤ 2 then (if t.hd ≤ q ∧ q < t.at' then held 0 else 0)
  else if t.nx = 4 then (if t.hd ≤ q ∧ q < t.i then held 0 else 0)
  else (if q = t.hd then held 0 else if t.hd < q ∧ q < t.i then putPg 4 t.hd 0 else if t.i ≤ q ∧ q < t.hd + t.n then held 0 else 0)
section
variable {t : Rn} {q : Int}
theorem own_row (hd : t.dn = false) (hx : t.nx ≤ 2) (a0 : t.hd ≤ t.at') (a1 : t.at' < t.hd + t.n) : rOwn t.own q = if q = t.at' then held 0 else rOwn t q := by
  have e : rOwn t q = if t.hd ≤ q ∧ q < t.at' then held 0 else 0 := by
    unfold rOwn; rw [if_neg (by rw [hd]; decide), if_pos hx]
  rw [e]
  unfold Rn.own
  split
  · rename_i h1
    unfold Rn.written
    split
    · rename_i h2
      have h2 : t.hd + 1 = t.hd + t.n := h2
      show (if true = true then (if true = true ∧ t.hd ≤ q ∧ q < t.hd + t.n then (if q = t.hd then held 0 else putPg 4 t.hd 0) else 0) else _) = _
      rw [if_pos rfl]
      by_cases g : q = t.at'
      · rw [if_pos g, if_pos ⟨rfl, by omega, by omega⟩, if_pos (by omega)]
      · rw [if_neg g, if_neg (by omega), if_neg (by omega)]
    · rename_i h2
      have h2 : ¬ t.hd + 1 = t.hd + t.n := h2
      show (if t.dn = true then _ else if (5 : Int) ≤ 2 then _ else if (5 : Int) = 4 then _ else (if q = t.hd then held 0 else if t.hd < q ∧ q < t.hd + 1 then putPg 4 t.hd 0 else if t.hd + 1 ≤ q ∧ q < t.hd + t.n then held 0 else 0)) = _
      rw [if_neg (by rw [hd]; decide), if_neg (by decide), if_neg (by decide)]
      by_cases g : q = t.hd
      · rw [if_pos g]
        by_cases g2 : q = t.at'
        · rw [if_pos g2]
        · rw [if_neg g2, if_pos (by omega)]
      · rw [if_neg g, if_neg (by omega)]
        by_cases g2 : t.hd + 1 ≤ q ∧ q < t.hd + t.n
        · rw [if_pos g2]
          by_cases g3 : q = t.at'
          · rw [if_pos g3]
          · rw [if_neg g3, if_pos (by omega)]
        · rw [if_neg g2, if_neg (by omega), if_neg (by omega)]
  · show (if t.dn = true then _ else if (0 : Int) ≤ 2 then (if t.hd ≤ q ∧ q < t.at' + 1 then held 0 else 0) else _) = _
    rw [if_neg (by rw [hd]; decide), if_pos (by decide)]
    by_cases g : q = t.at'
    · rw [if_pos g, if_pos (by omega)]
    · rw [if_neg g]
      by_cases g2 : t.hd ≤ q ∧ q < t.at'
      · rw [if_pos g2, if_pos (by omega)]
      · rw [if_neg g2, if_neg (by omega)]
theorem gone_row (hd : t.dn = false) (hf : t.fd = false) (hx : t.nx = 4) : rOwn t.gone q = if t.hd ≤ q ∧ q < t.i then held 0 else 0 := by
  unfold Rn.gone
  split
  · unfold rOwn
    rw [if_neg (by rw [hd]; decide), if_neg (by omega), if_pos hx]
  · rename_i h1
    rw [if_neg (by omega : ¬ (t.hd ≤ q ∧ q < t.i))]
    cases hz : decide (t.s.p - t.n < t.at' + 1)
    · show (if false = true then _ else if (0 : Int) ≤ 2 then (if t.at' + 1 ≤ q ∧ q < t.at' + 1 then held 0 else 0) else _) = _
      rw [if_neg (by decide), if_pos (by decide), if_neg (by omega)]
    · show (if true = true then (if t.fd = true ∧ _ ∧ _ then _ else 0) else _) = _
      rw [if_pos rfl, if_neg (by rw [hf]; exact fun g => by cases g.1)]
theorem miss_row (hd : t.dn = false) (hf : t.fd = false) (hx : t.nx ≤ 2) : rOwn t.miss q = rOwn t q := by
  have e : rOwn t q = if t.hd ≤ q ∧ q < t.at' then held 0 else 0 := by
    unfold rOwn; rw [if_neg (by rw [hd]; decide), if_pos hx]
  rw [e]
  exact gone_row (t := { t with nx := 4, i := t.at', gx := t.at' + 1 }) hd hf rfl
theorem written_row (hd : t.dn = false) (hx : t.nx = 5) (hi : t.hd < t.i) (hi2 : t.i < t.hd + t.n) : rOwn t.written q = if q = t.i then putPg 4 t.hd 0 else rOwn t q := by
  have e : rOwn t q = if q = t.hd then held 0 else if t.hd < q ∧ q < t.i then putPg 4 t.hd 0 else if t.i ≤ q ∧ q < t.hd + t.n then held 0 else 0 := by
    unfold rOwn; rw [if_neg (by rw [hd]; decide), if_neg (by omega), if_neg (by omega)]
  rw [e]
  unfold Rn.written
  split
  · rename_i h1
    show (if true = true then (if true = true ∧ t.hd ≤ q ∧ q < t.hd + t.n then (if q = t.hd then held 0 else putPg 4 t.hd 0) else 0) else _) = _
    rw [if_pos rfl]
    by_cases g : q = t.i
    · rw [if_pos g, if_pos ⟨rfl, by omega, by omega⟩, if_neg (by omega)]
    · rw [if_neg g]
      by_cases g2 : q = t.hd
      · rw [if_pos ⟨rfl, by omega, by omega⟩, if_pos g2, if_pos g2]
      · by_cases g3 : t.hd < q ∧ q < t.i
        · rw [if_pos ⟨rfl, by omega, by omega⟩, if_neg g2, if_neg g2, if_pos g3]
        · rw [if_neg (by omega), if_neg g2, if_neg g3, if_neg (by omega)]
  · rename_i h1
    show (if t.dn = true then _ else if t.nx ≤ 2 then _ else if t.nx = 4 then _ else (if q = t.hd then held 0 else if t.hd < q ∧ q < t.i + 1 then putPg 4 t.hd 0 else if t.i + 1 ≤ q ∧ q < t.hd + t.n then held 0 else 0)) = _
    rw [if_neg (by rw [hd]; decide), if_neg (by omega), if_neg (by omega)]
    by_cases g : q = t.i
    · rw [if_pos g, if_neg (by omega), if_pos (by omega)]
    · rw [if_neg g]
      by_cases g2 : q = t.hd
      · rw [if_pos g2, if_pos g2]
      · rw [if_neg g2, if_neg g2]
        by_cases g3 : t.hd < q ∧ q < t.i
        · rw [if_pos g3, if_pos (by omega)]
        · rw [if_neg g3, if_neg (by omega)]
          by_cases g4 : t.i ≤ q ∧ q < t.hd + t.n
          · rw [if_pos g4, if_pos (by omega)]
          · rw [if_neg g4, if_neg (by omega)]
theorem rOwn_cases (t : Rn) (q : Int) : rOwn t q = 0 ∨ rOwn t q = held 0 ∨ rOwn t q = putPg 4 t.hd 0 := by
  unfold rOwn
  repeat' split
  all_goals first | exact .inl rfl | exact .inr (.inl rfl) | exact .inr (.inr rfl)
end
theorem held_val {c : Int} (h0 : 0 ≤ c) (h1 : c ≤ 255) : held c = 1 + 16 * c := by unfold held putPg; rw [if_pos (by omega)]; omega
theorem body_val {c : Int} (h0 : 0 ≤ c) (h1 : c ≤ 255) : putPg 4 c 0 = 4 + 16 * c := by unfold putPg; rw [if_pos (by omega)]; omega
theorem super_val {k c : Int} (h0 : 0 ≤ k) (h1 : k ≤ 255) (h2 : 0 ≤ c) (h3 : c ≤ 255) : super k c = 2 + 16 * k + 4096 * c := by unfold super putPg; rw [if_pos (by omega)]
theorem kind_ne {s : Sh} {q x : Int} (h : x % 16 ≠ 2) : pgK s q x ≠ 2 := by
  unfold pgK
  split
  · exact h
  · decide
section
variable (P n K f : Int)
def sh : Sh := ⟨P, 2, 0⟩
/-- The seeker's side. -/
inductive Bp (u : Sk) (ws : Nat → Int) (bp : Int) : Prop
  | sc (m : Sc) (e : u.nw = .sc m) (d : u.dn = false) (b : bp = -1) (x : m.nx = 0) (i : m.i = 0)
  | pc (m : Pc) (e : u.nw = .pc m) (d : u.dn = false) (b : bp = -1) (nz : ∀ j, 0 ≤ j → j < m.many → pgAt (sh P) ws ((f + j) % P) ≠ 0)
  | no (e : u.nw = .no) (d : u.dn = false) (b : bp = -1) (nz : ∀ q, 0 ≤ q → q < P → pgAt (sh P) ws q ≠ 0)
  | b1 (m : Bi) (e : u.nw = .bi m) (d : u.dn = false) (b : bp = m.p) (x : m.bd = false) (pg : pgAt (sh P) ws bp = held 1) (sl : ∀ i, 0 ≤ i → i < m.i → slAt (sh P) ws bp i = if i < slots K then way 1 else 0)
  | b2 (m : Bi) (e : u.nw = .bi m) (d : u.dn = false) (b : bp = m.p) (x : m.bd = true) (pg : pgAt (sh P) ws bp = super K 1) (sl : ∀ i, 0 ≤ i → i ≤ m.i → slAt (sh P) ws bp i = way 1) (so : ∀ i, m.i < i → i < slots K → slAt (sh P) ws bp i = opn K) (sz : ∀ i, slots K ≤ i → i < 16 → slAt (sh P) ws bp i = 0)
  | f (d : u.dn = true) (g : u.fd = true) (b : bp = u.pg) (b0 : 0 ≤ bp) (pg : pgAt (sh P) ws bp = super K 1) (s0 : slAt (sh P) ws bp 0 = way 1) (so : ∀ i, 0 < i → i < slots K → slAt (sh P) ws bp i = opn K) (sz : ∀ i, slots K ≤ i → i < 16 → slAt (sh P) ws bp i = 0)
  | n (d : u.dn = true) (g : u.fd = false) (b : bp = -1) (nz : ∀ q, 0 ≤ q → q < P → pgAt (sh P) ws q ≠ 0)
structure Inv (t : Rn) (u : Sk) (w : Wd) (bp : Int) : Prop where
  ok : 1 ≤ P ∧ P ≤ 9
  of : w.of (sh P)
  ts : t.wf ∧ t.s = sh P ∧ t.c = 0 ∧ t.n = n ∧ 1 ≤ n ∧ n ≤ 8
  us : u.wf ∧ u.s = sh P ∧ u.c = 1 ∧ u.k = K ∧ u.f = f
  kf : 0 ≤ K ∧ K ≤ 3 ∧ 0 ≤ f ∧ f < P
  pg : ∀ q, 0 ≤ q → q < P → q ≠ bp → pgAt (sh P) w.ws q = rOwn t q
  sl : ∀ q, 0 ≤ q → q < P → q ≠ bp → Rw.Zs (sh P) w.ws q
  bo : -1 ≤ bp ∧ (0 ≤ bp → bp < P ∧ rOwn t bp = 0)
  r3 : t.dn = false → t.nx ≠ 3
  r2 : t.dn = false → t.nx = 2 → 0 ≤ bp ∧ bp = t.at' ∧ pgAt (sh P) w.ws bp = super K 1 ∧ ∃ q, t.st = some q ∧ q.i = 0 ∧ q.bk = false ∧ 0 ≤ q.k ∧ q.k ≤ 3
  r1 : bp = -1 → t.hd = 0 ∧ (t.dn = false → t.nx ≠ 4) ∧ (t.dn = true → t.fd = true ∨ P < n)
  r0 : P < n → t.dn = true ∧ t.fd = false
  hb : 0 ≤ t.hd ∧ t.hd ≤ P + 8
  ph : Bp P K f u w.ws bp
end
section
variable {P n K f bp : Int} {t : Rn} {u : Sk} {w : Wd}
theorem may_ok (h : 1 ≤ P ∧ P ≤ 9) : may (sh P).p (sh P).c (sh P).m = true := (may_iff _ _ _).2 ⟨h.1, by show P ≤ 64; omega, by show (1 : Int) ≤ 2; decide, by show (2 : Int) ≤ 12; decide, by show (0 : Int) ≤ 0; decide, by show (0 : Int) ≤ 8; decide⟩
/-- What the seeker has said stays so, where its page is not touched. -/
theorem Bp.tr {ws ws' : Nat → Int} (h : Bp P K f u ws bp) (hs : 0 ≤ bp → Rw.Sm (sh P) ws bp ws') (hb : 0 ≤ bp ∨ bp = -1) (hk : 0 ≤ K ∧ K ≤ 3) (hn : bp = -1 → ∀ q, 0 ≤ q → q < P → pgAt (sh P) ws q ≠ 0 → pgAt (sh P) ws' q ≠ 0) (hP : 1 ≤ P) (hi : ∀ m, u.nw = .bi m → u.dn = false → 0 ≤ m.i ∧ m.i ≤ 16 ∧ 0 ≤ m.p ∧ (m.bd = true → m.i < 16)) : Bp P K f u ws' bp := by
  have hs4 := slots_four hk.1 hk.2
  cases h with
  | sc m e d b x i => exact .sc m e d b x i
  | pc m e d b nz => exact .pc m e d b fun j j0 j1 => hn b _ (Int.emod_nonneg _ (by omega)) (Int.emod_lt_of_pos _ (by omega)) (nz j j0 j1)
  | no e d b nz => exact .no e d b fun q q0 q1 => hn b q q0 q1 (nz q q0 q1)
  | b1 m e d b x pg sl =>
    have hh := hi m e d
    have hs := hs (by omega)
    exact .b1 m e d b x (hs.1.trans pg) fun i i0 i1 => (hs.2 i i0 (by omega)).trans (sl i i0 i1)
  | b2 m e d b x pg sl so sz =>
    have hh := hi m e d
    have hs := hs (by omega)
    refine .b2 m e d b x (hs.1.trans pg) (fun i i0 i1 => ?_) (fun i i0 i1 => (hs.2 i (by omega) (by omega)).trans (so i i0 i1)) fun i i0 i1 => (hs.2 i (by omega) i1).trans (sz i i0 i1)
    have := hh.2.2.2 x
    exact (hs.2 i i0 (by omega)).trans (sl i i0 i1)
  | f d g b b0 pg s0 so sz =>
    have hs := hs b0
    exact .f d g b b0 (hs.1.trans pg) ((hs.2 0 (by decide) (by decide)).trans s0) (fun i i0 i1 => (hs.2 i (by omega) (by omega)).trans (so i i0 i1)) fun i i0 i1 => (hs.2 i (by omega) i1).trans (sz i i0 i1)
  | n d g b nz => exact .n d g b fun q q0 q1 => hn b q q0 q1 (nz q q0 q1)
theorem same_row (hd : t.dn = false) (hx : t.nx ≤ 2) {q nx' : Int} {st' : Option St} (hx' : nx' ≤ 2) : rOwn ({ t with nx := nx', st := st' } : Rn) q = rOwn t q := by
  have e1 : rOwn t q = if t.hd ≤ q ∧ q < t.at' then held 0 else 0 := by
    unfold rOwn; rw [if_neg (by rw [hd]; decide), if_pos hx]
  rw [e1]
  show (if t.dn = true then _ else if nx' ≤ 2 then (if t.hd ≤ q ∧ q < t.at' then held 0 else 0) else _) = _
  rw [if_neg (by rw [hd]; decide), if_pos hx']
theorem gone_f (hx : t.nx = 4) : (t.gone.nx = 4 ∨ t.gone.nx = 0) ∧ (t.gone.hd = t.hd ∨ t.gone.hd = t.at' + 1) := by
  unfold Rn.gone
  split
  · exact ⟨.inl hx, .inl rfl⟩
  · exact ⟨.inr rfl, .inr rfl⟩
theorem miss_f : (t.miss.nx = 4 ∨ t.miss.nx = 0) ∧ (t.miss.hd = t.hd ∨ t.miss.hd = t.at' + 1) := gone_f (t := { t with nx := 4, i := t.at', gx := t.at' + 1 }) rfl
theorem written_f (hd : t.dn = false) (hx : t.nx = 5) : t.written.nx = 5 ∧ t.written.hd = t.hd ∧ (t.written.dn = true → t.written.fd = true) := by
  unfold Rn.written
  split
  · exact ⟨hx, rfl, fun _ => rfl⟩
  · exact ⟨hx, rfl, fun g => by have g : t.dn = true := g; rw [hd] at g; cases g⟩
theorem own_f (hd : t.dn = false) : (t.own.nx = 0 ∨ t.own.nx = 5) ∧ t.own.hd = t.hd ∧ (t.own.dn = true → t.own.fd = true) := by
  unfold Rn.own
  split
  · have := written_f (t := { t with at' := t.at' + 1, nx := 5, i := t.hd }) hd rfl
    exact ⟨.inr this.1, this.2.1, this.2.2⟩
  · exact ⟨.inl rfl, rfl, fun g => by have g : t.dn = true := g; rw [hd] at g; cases g⟩
/-- Its word: held, or bound. -/
theorem Bp.word {ws : Nat → Int} (h : Bp P K f u ws bp) (h0 : 0 ≤ bp) : pgAt (sh P) ws bp = held 1 ∨ (pgAt (sh P) ws bp = super K 1 ∧ ((∃ m, u.nw = .bi m ∧ u.dn = false ∧ m.bd = true ∧ (0 ≤ m.i → slAt (sh P) ws bp 0 = way 1)) ∨ slAt (sh P) ws bp 0 = way 1)) := by
  cases h with
  | sc m e d b => omega
  | pc m e d b => omega
  | no e d b => omega
  | b1 m e d b x pg => exact .inl pg
  | b2 m e d b x pg sl => exact .inr ⟨pg, .inl ⟨m, e, d, x, fun g => sl 0 (Int.le_refl _) g⟩⟩
  | f d g b b0 pg s0 => exact .inr ⟨pg, .inr s0⟩
  | n d g b => omega
theorem Inv.astep (h : Inv P n K f t u w bp) : Inv P n K f (t.step w).1 u (t.step w).2 bp := by
  obtain ⟨w1, w2, w3, w4, n0, n1⟩ := h.ts
  obtain ⟨k0, k1, f0, f1⟩ := h.kf
  have hm := may_ok h.ok
  have hP := h.ok
  have hk := Rn.step_k w1 w
  have hsP : (sh P).p = P := rfl
  have hbi : ∀ m, u.nw = .bi m → u.dn = false → 0 ≤ m.i ∧ m.i ≤ 16 ∧ 0 ≤ m.p ∧ (m.bd = true → m.i < 16) := fun m e d => by
    obtain ⟨ho, hmd⟩ := h.us.1.nw d
    rw [e] at ho hmd
    have hmd : m.dn = false := hmd
    obtain ⟨o1, -, -, o4, -⟩ := ho
    have hw := o1.of hmd
    have hkk : m.k = K := o4.trans h.us.2.2.2.1
    have hs4 := slots_four k0 k1
    rw [hkk] at hw
    exact ⟨hw.2.2.2.2.2.2.1, hw.2.2.2.2.2.2.2.1, hw.2.2.2.1, fun g => by have := hw.2.2.2.2.2.2.2.2 g; omega⟩
  rcases Rn.step_cases w1 w with ⟨-, e⟩ | ⟨hd, hcs⟩
  · rw [e]; exact h
  obtain ⟨-, hf, har⟩ := w1.of hd
  unfold Rn.Ar at har
  rw [w2, w3, w4, hsP] at har
  have hx3 := h.r3 hd
  have hnP : ¬ P < n := fun g => by have := (h.r0 g).1; rw [hd] at this; cases this
  -- what is needed of a step
  have mk : ∀ t' : Rn, ∀ w' : Wd, (t.step w) = (t', w') → (∀ q, 0 ≤ q → q < P → q ≠ bp → pgAt (sh P) w'.ws q = rOwn t' q) → (∀ q, 0 ≤ q → q < P → Rw.Zs (sh P) w.ws q → Rw.Zs (sh P) w'.ws q) → (0 ≤ bp → rOwn t' bp = 0 ∧ Rw.Sm (sh P) w.ws bp w'.ws) →
      (bp = -1 → ∀ q, 0 ≤ q → q < P → pgAt (sh P) w.ws q ≠ 0 → pgAt (sh P) w'.ws q ≠ 0) → (t'.dn = false → t'.nx ≠ 3) →
      (t'.dn = false → t'.nx = 2 → 0 ≤ bp ∧ bp = t'.at' ∧ pgAt (sh P) w'.ws bp = super K 1 ∧ ∃ q, t'.st = some q ∧ q.i = 0 ∧ q.bk = false ∧ 0 ≤ q.k ∧ q.k ≤ 3) →
      (bp = -1 → t'.hd = 0 ∧ (t'.dn = false → t'.nx ≠ 4) ∧ (t'.dn = true → t'.fd = true ∨ P < n)) → (0 ≤ t'.hd ∧ t'.hd ≤ P + 8) → Inv P n K f t' u w' bp := fun t' w' e a1 a2 a3 a4 a5 a6 a7 a8 => by
    have e1 : t' = (t.step w).1 := by rw [e]
    have e2 : w' = (t.step w).2 := by rw [e]
    refine ⟨hP, by rw [e2]; exact Rn.step_of w1 h.of, ⟨by rw [e1]; exact Rn.step_wf w1 w, by rw [e1]; exact hk.1.trans w2, by rw [e1]; exact hk.2.1.trans w3, by rw [e1]; exact hk.2.2.trans w4, n0, n1⟩, h.us, h.kf, a1, fun q q0 q1 hne => a2 q q0 q1 (h.sl q q0 q1 hne), ⟨h.bo.1, fun g => ⟨(h.bo.2 g).1, (a3 g).1⟩⟩, a5, a6, a7, fun g => absurd g hnP, a8, ?_⟩
    exact h.ph.tr (fun g => (a3 g).2) (by have := h.bo.1; omega) ⟨k0, k1⟩ a4 hP.1 hbi
  have hpat : t.pat = page P 2 0 t.at' := by unfold Rn.pat; rw [w2]; rfl
  have hgp : w.get t.pat = pgAt (sh P) w.ws t.at' := by rw [hpat]; rfl
  have hfree : t.nx ≤ 2 → rOwn t t.at' = 0 := fun g => by
    unfold rOwn; rw [if_neg (by rw [hd]; decide), if_pos g, if_neg (by omega)]
  have hmissk : t.nx ≤ 2 → t.at' = bp → ∀ x w', t.step w = (({ t with st := x } : Rn).miss, w') → w'.ws = w.ws → Inv P n K f ({ t with st := x } : Rn).miss u w' bp := fun hx hb x w' e hw => by
    have hmf : (({ t with st := x } : Rn).miss.nx = 4 ∨ ({ t with st := x } : Rn).miss.nx = 0) ∧ (({ t with st := x } : Rn).miss.hd = t.hd ∨ ({ t with st := x } : Rn).miss.hd = t.at' + 1) := miss_f (t := { t with st := x })
    have hmr : ∀ q, rOwn ({ t with st := x } : Rn).miss q = rOwn t q := fun q => miss_row (t := { t with st := x }) (q := q) hd hf hx
    refine mk _ _ e (fun q q0 q1 hne => ?_) (fun q q0 q1 hz => by rw [hw]; exact hz) (fun g => ⟨by rw [hmr]; exact (h.bo.2 g).2, by rw [hw]; exact ⟨rfl, fun _ _ _ => rfl⟩⟩) (fun _ q _ _ g => by rw [hw]; exact g) (fun _ => by omega) (fun _ g => by omega) (fun g => by omega) (by omega)
    rw [hmr, hw]; exact h.pg q q0 q1 hne
  rcases hcs with ⟨hx, e⟩ | ⟨hx, e⟩ | ⟨hx, q, hq, hqw, hqd, hqs, hqc, hqp, e⟩ | ⟨hx, e⟩ | ⟨hx, e⟩ | ⟨hx, e⟩
  · -- looks
    rw [e]
    by_cases hb : t.at' = bp
    · have hw := h.ph.word (by omega)
      rw [hgp, hb] at e ⊢
      rcases hw with hw | ⟨hw, -⟩
      · have hl : t.look (pgAt (sh P) w.ws bp) = t.miss := by
          have ho := held_ok (s := sh P) (q := t.at') (c := 1) hm (by omega) (by show t.at' < P; omega) (by decide) (by show (1 : Int) < 2; decide)
          unfold Rn.look Rn.isE Rn.isS
          rw [hw, w2, ho.2.1, if_neg (by simp), if_neg (by simp)]
        rw [hl] at e ⊢
        exact hmissk (by omega) hb t.st _ e rfl
      · have ho := Sa.super_ok (s := sh P) (q := t.at') (k := K) (c := 1) hm (by omega) (by show t.at' < P; omega) k0 k1 (by decide) (by show (1 : Int) < 2; decide)
        have hl : t.look (pgAt (sh P) w.ws bp) = { t with nx := 2, st := some (t.snew (pgAt (sh P) w.ws bp)) } := by
          unfold Rn.look Rn.isE Rn.isS
          rw [hw, w2, ho.2.1, ho.1, if_neg (by simp), if_pos (by simp)]
        rw [hl] at e ⊢
        have hr : ∀ q, rOwn ({ t with nx := 2, st := some (t.snew (pgAt (sh P) w.ws bp)) } : Rn) q = rOwn t q := fun q => same_row hd (by omega) (by decide)
        refine mk _ _ e (fun q q0 q1 hne => by rw [hr]; exact h.pg q q0 q1 hne) (fun q q0 q1 hz => hz) (fun g => ⟨by rw [hr]; exact (h.bo.2 g).2, rfl, fun _ _ _ => rfl⟩) (fun _ q _ _ g => g) (fun _ => by show (2 : Int) ≠ 3; decide) (fun _ _ => ⟨by omega, hb.symm, hw, _, rfl, rfl, rfl, ?_⟩) (fun g => by omega) h.hb
        have : (t.snew (pgAt (sh P) w.ws bp)).k = K := by
          show pgA t.s t.at' _ = K
          rw [hw, w2]; exact ho.2.2
        rw [this]; exact ⟨k0, k1⟩
    · have hz : pgAt (sh P) w.ws t.at' = 0 := by rw [h.pg t.at' (by omega) (by omega) hb]; exact hfree (by omega)
      rw [hgp, hz] at e ⊢
      have hl : t.look 0 = { t with nx := 1 } := by
        unfold Rn.look Rn.isE
        rw [w2, okPg_zero hm (by omega) (by show t.at' < P; omega), pgK_zero, if_pos (by simp)]
      rw [hl] at e ⊢
      have hr : ∀ q, rOwn ({ t with nx := 1 } : Rn) q = rOwn t q := fun q => same_row (st' := t.st) hd (by omega) (by decide)
      exact mk _ _ e (fun q q0 q1 hne => by rw [hr]; exact h.pg q q0 q1 hne) (fun q q0 q1 hz => hz) (fun g => ⟨by rw [hr]; exact (h.bo.2 g).2, rfl, fun _ _ _ => rfl⟩) (fun _ q _ _ g => g) (fun _ => by show (1 : Int) ≠ 3; decide) (fun _ g => by have g : (1 : Int) = 2 := g; omega) (fun g => ⟨(h.r1 g).1, fun _ => by show (1 : Int) ≠ 4; decide, fun g2 => by have g2 : t.dn = true := g2; rw [hd] at g2; cases g2⟩) h.hb
  · -- claims
    by_cases hb : t.at' = bp
    · have hw := h.ph.word (by omega)
      have hne : w.get t.pat ≠ 0 := by
        rw [hgp, hb]
        rcases hw with hw | ⟨hw, -⟩
        · rw [hw, held_val (by decide) (by decide)]; decide
        · rw [hw, super_val k0 (by omega) (by decide) (by decide)]; omega
      have hl : t.claim (w.get t.pat) = t.miss := by unfold Rn.claim; rw [if_neg hne]
      rw [hl] at e
      rw [e]
      exact hmissk (by omega) hb t.st _ e (swap_no hne)
    · have hz : w.get t.pat = 0 := by rw [hgp, h.pg t.at' (by omega) (by omega) hb]; exact hfree (by omega)
      have hl : t.claim (w.get t.pat) = t.own := by unfold Rn.claim; rw [if_pos hz]
      have hws : (w.swap t.c t.pat 0 (held t.c)).ws = upW w.ws (page (sh P).p (sh P).c (sh P).m t.at') (held 0) := by rw [swap_yes hz, hpat, w3]; rfl
      rw [hl] at e
      rw [e]
      obtain ⟨hof1, hof2, hof3⟩ := own_f (t := t) hd
      have hor := fun q => own_row (t := t) (q := q) hd (by omega) (by omega) (by omega)
      have fr : ∀ q, 0 ≤ q → q < P → q ≠ t.at' → Rw.Sm (sh P) w.ws q (upW w.ws (page (sh P).p (sh P).c (sh P).m t.at') (held 0)) := fun q q0 q1 hne => Rw.Sm.pg hm (by omega) (by show t.at' < P; omega) q0 q1 hne
      have hat : pgAt (sh P) (upW w.ws (page (sh P).p (sh P).c (sh P).m t.at') (held 0)) t.at' = held 0 := by rw [pg_pg hm (by omega) (by show t.at' < P; omega) (by omega) (by show t.at' < P; omega), if_pos rfl]
      have o3 : t.own.nx ≠ 3 := by rcases hof1 with g | g <;> rw [g] <;> decide
      have o2 : t.own.nx ≠ 2 := by rcases hof1 with g | g <;> rw [g] <;> decide
      have o4 : t.own.nx ≠ 4 := by rcases hof1 with g | g <;> rw [g] <;> decide
      refine mk _ _ e (fun q q0 q1 hne => ?_) (fun q q0 q1 hz i i0 i1 => ?_) (fun g => ⟨?_, ?_⟩) (fun g q q0 q1 hnz => ?_) (fun _ => o3) (fun _ g => absurd g o2) (fun g => ⟨by rw [hof2]; exact (h.r1 g).1, fun _ => o4, fun g2 => .inl (hof3 g2)⟩) (by rw [hof2]; exact h.hb)
      · rw [hws, hor]
        by_cases g : q = t.at'
        · rw [if_pos g, g]; exact hat
        · rw [if_neg g, (fr q q0 q1 g).1]; exact h.pg q q0 q1 hne
      · rw [hws, sl_pg hm (by omega) (by show t.at' < P; omega) q0 i0]; exact hz i i0 i1
      · rw [hor, if_neg (by omega)]; exact (h.bo.2 g).2
      · rw [hws]; exact fr bp g (h.bo.2 g).1 (by omega)
      · rw [hws]
        by_cases g2 : q = t.at'
        · rw [g2, hat, held_val (by decide) (by decide)]; decide
        · rw [(fr q q0 q1 g2).1]; exact hnz
  · -- strips
    obtain ⟨b0, b1, b2, q2, c1, c2, c3, c4, c5⟩ := h.r2 hd hx
    have hqq : q2 = q := by rw [hq] at c1; exact (Option.some.inj c1).symm
    subst hqq
    have hs4 := slots_four c4 c5
    have hs0 : slAt (sh P) w.ws bp 0 = way 1 := by
      rcases h.ph.word b0 with g | ⟨-, ⟨m, g1, g2, g3, g4⟩ | g⟩
      · rw [b2, held_val (by decide) (by decide), super_val k0 (by omega) (by decide) (by decide)] at g; omega
      · exact g4 (hbi m g1 g2).1
      · exact g
    have hg : w.get (q2.at' q2.i) ≠ opn q2.k := by
      have : q2.at' q2.i = slot (sh P).p (sh P).c (sh P).m bp 0 := by unfold St.at'; rw [hqs, w2, hqp, c2, b1]
      rw [this, slot_at hm b0 (h.bo.2 b0).1 (by decide) (by decide), hs0]
      exact fun g => by
        have := congrArg slK g
        rw [(way_ne 1 (by decide) (by decide)).2.1, (opn_ne q2.k c4 (by omega)).2.1] at this; cases this
    have es : q2.step w = ({ q2 with bk := true, dn := decide (q2.i = 0) }, w.swap q2.c (q2.at' q2.i) (opn q2.k) (way q2.c)) := by
      rcases St.step_cases q2 w with ⟨e1, -⟩ | ⟨-, ⟨g1, -⟩ | ⟨-, g1, -⟩ | ⟨-, -, g1, -⟩ | ⟨-, -, -, e2⟩⟩
      · rw [hqd] at e1; cases e1
      · rw [c3] at g1; cases g1
      · omega
      · exact absurd g1 hg
      · exact e2
    have hqh : q2.hd = false := by
      obtain ⟨q3, g1, -, -, -, -, -, g2⟩ := w1.q hd hx
      rw [hq] at g1; rw [Option.some.inj g1]; exact g2
    have hl : t.outs (q2.step w).1 = ({ t with st := some (q2.step w).1 } : Rn).miss := by
      unfold Rn.outs
      rw [es, if_neg (by show ¬ q2.hd = true; rw [hqh]; decide), if_pos (by show decide (q2.i = 0) = true; rw [c2]; rfl)]
    rw [hl] at e
    rw [e]
    exact hmissk (by omega) b1.symm _ _ e (by rw [es]; exact swap_no hg)
  · exact absurd hx hx3
  · -- gives back
    have hi : t.hd < t.i ∧ t.i ≤ t.at' := by omega
    have hbn : bp ≠ -1 := fun g => (h.r1 g).2.1 hd hx
    have hws : (w.store t.c t.bat 0).ws = upW w.ws (page (sh P).p (sh P).c (sh P).m (t.i - 1)) 0 := by rw [store_ws]; unfold Rn.bat; rw [w2]
    rw [e]
    have hgf := gone_f (t := { t with i := t.i - 1 }) hx
    have hgr : ∀ q, rOwn ({ t with i := t.i - 1 } : Rn).gone q = if t.hd ≤ q ∧ q < t.i - 1 then held 0 else 0 := fun q => gone_row (t := { t with i := t.i - 1 }) hd hf hx
    have her : ∀ q, rOwn t q = if t.hd ≤ q ∧ q < t.i then held 0 else 0 := fun q => by
      unfold rOwn; rw [if_neg (by rw [hd]; decide), if_neg (by omega), if_pos hx]
    have hbi1 : 0 ≤ bp → bp ≠ t.i - 1 := fun g g2 => by
      have := (h.bo.2 g).2
      rw [her, if_pos (by omega), held_val (by decide) (by decide)] at this; omega
    have fr : ∀ q, 0 ≤ q → q < P → q ≠ t.i - 1 → Rw.Sm (sh P) w.ws q (upW w.ws (page (sh P).p (sh P).c (sh P).m (t.i - 1)) 0) := fun q q0 q1 hne => Rw.Sm.pg hm (by omega) (by show t.i - 1 < P; omega) q0 q1 hne
    have o3 : ({ t with i := t.i - 1 } : Rn).gone.nx ≠ 3 := by rcases hgf.1 with g | g <;> rw [g] <;> decide
    have o2 : ({ t with i := t.i - 1 } : Rn).gone.nx ≠ 2 := by rcases hgf.1 with g | g <;> rw [g] <;> decide
    have o8 : 0 ≤ ({ t with i := t.i - 1 } : Rn).gone.hd ∧ ({ t with i := t.i - 1 } : Rn).gone.hd ≤ P + 8 := by
      have hh := h.hb
      rcases hgf.2 with g | g <;> rw [g]
      · exact hh
      · show 0 ≤ t.at' + 1 ∧ t.at' + 1 ≤ P + 8; omega
    refine mk _ _ e (fun q q0 q1 hne => ?_) (fun q q0 q1 hz i i0 i1 => ?_) (fun g => ⟨?_, ?_⟩) (fun g => absurd g hbn) (fun _ => o3) (fun _ g => absurd g o2) (fun g => absurd g hbn) o8
    · rw [hws, hgr]
      by_cases g : q = t.i - 1
      · rw [g, if_neg (by omega), pg_pg hm (by omega) (by show t.i - 1 < P; omega) (by omega) (by show t.i - 1 < P; omega), if_pos rfl]
      · rw [(fr q q0 q1 g).1, h.pg q q0 q1 hne, her]
        by_cases g2 : t.hd ≤ q ∧ q < t.i
        · rw [if_pos g2, if_pos (by omega)]
        · rw [if_neg g2, if_neg (by omega)]
    · rw [hws, sl_pg hm (by omega) (by show t.i - 1 < P; omega) q0 i0]; exact hz i i0 i1
    · have := (h.bo.2 g).2
      rw [her] at this
      rw [hgr, if_neg]
      intro g2
      rw [if_pos (by omega), held_val (by decide) (by decide)] at this; omega
    · rw [hws]; exact fr bp g (h.bo.2 g).1 (hbi1 g)
  · -- writes bodies
    have hi : t.hd < t.i ∧ t.i < t.hd + t.n := by omega
    have hws : (w.store t.c t.iat (putPg 4 t.hd 0)).ws = upW w.ws (page (sh P).p (sh P).c (sh P).m t.i) (putPg 4 t.hd 0) := by rw [store_ws]; unfold Rn.iat; rw [w2]
    rw [e]
    obtain ⟨hwf1, hwf2, hwf3⟩ := written_f (t := t) hd hx
    have hwr := fun q => written_row (t := t) (q := q) hd hx hi.1 hi.2
    have her : rOwn t t.i = held 0 := by
      unfold rOwn; rw [if_neg (by rw [hd]; decide), if_neg (by omega), if_neg (by omega), if_neg (by omega), if_neg (by omega), if_pos (by omega)]
    have hbi1 : 0 ≤ bp → bp ≠ t.i := fun g g2 => by
      have := (h.bo.2 g).2
      rw [g2, her, held_val (by decide) (by decide)] at this; omega
    have fr : ∀ q, 0 ≤ q → q < P → q ≠ t.i → Rw.Sm (sh P) w.ws q (upW w.ws (page (sh P).p (sh P).c (sh P).m t.i) (putPg 4 t.hd 0)) := fun q q0 q1 hne => Rw.Sm.pg hm (by omega) (by show t.i < P; omega) q0 q1 hne
    have hat : pgAt (sh P) (upW w.ws (page (sh P).p (sh P).c (sh P).m t.i) (putPg 4 t.hd 0)) t.i = putPg 4 t.hd 0 := by rw [pg_pg hm (by omega) (by show t.i < P; omega) (by omega) (by show t.i < P; omega), if_pos rfl]
    refine mk _ _ e (fun q q0 q1 hne => ?_) (fun q q0 q1 hz i i0 i1 => ?_) (fun g => ⟨?_, ?_⟩) (fun g q q0 q1 hnz => ?_) (fun _ => by rw [hwf1]; decide) (fun _ g => by rw [hwf1] at g; cases g) (fun g => ⟨by rw [hwf2]; exact (h.r1 g).1, fun _ => by rw [hwf1]; decide, fun g2 => .inl (hwf3 g2)⟩) (by rw [hwf2]; exact h.hb)
    · rw [hws, hwr]
      by_cases g : q = t.i
      · rw [if_pos g, g]; exact hat
      · rw [if_neg g, (fr q q0 q1 g).1]; exact h.pg q q0 q1 hne
    · rw [hws, sl_pg hm (by omega) (by show t.i < P; omega) q0 i0]; exact hz i i0 i1
    · rw [hwr, if_neg (hbi1 g)]; exact (h.bo.2 g).2
    · rw [hws]; exact fr bp g (h.bo.2 g).1 (hbi1 g)
    · rw [hws]
      by_cases g2 : q = t.i
      · rw [g2, hat, body_val (by omega) (by omega)]; omega
      · rw [(fr q q0 q1 g2).1]; exact hnz
theorem Inv.bstep (h : Inv P n K f t u w bp) : ∃ bp', Inv P n K f t (u.step w).1 (u.step w).2 bp' := by
  obtain ⟨w1, w2, w3, w4, w5⟩ := h.us
  obtain ⟨k0, k1, f0, f1⟩ := h.kf
  have hm := may_ok h.ok
  have hP := h.ok
  have hsP : (sh P).p = P := rfl
  have hkp := Sk.step_kp (t := u) (w := w)
  have hs4 := slots_four k0 k1
  have hmod : ∀ j, 0 ≤ (f + j) % P ∧ (f + j) % P < P := fun j => ⟨Int.emod_nonneg _ (by omega), Int.emod_lt_of_pos _ (by omega)⟩
  have mk : ∀ u' : Sk, ∀ w' : Wd, u.step w = (u', w') → (∀ q, 0 ≤ q → q < P → q ≠ bp → Rw.Sm (sh P) w.ws q w'.ws) → (t.dn = false → t.nx = 2 → pgAt (sh P) w'.ws bp = super K 1) → Bp P K f u' w'.ws bp → ∃ bp', Inv P n K f t u' w' bp' := fun u' w' e a1 a2 a3 => by
    have e1 : u' = (u.step w).1 := by rw [e]
    have e2 : w' = (u.step w).2 := by rw [e]
    refine ⟨bp, hP, by rw [e2]; exact Sk.step_of h.of, h.ts, ⟨by rw [e1]; exact Sk.step_wf w1, by rw [e1]; exact hkp.1.trans w2, by rw [e1]; exact hkp.2.1.trans w3, by rw [e1]; exact hkp.2.2.1.trans w4, by rw [e1]; exact hkp.2.2.2.trans w5⟩, h.kf, fun q q0 q1 hne => (a1 q q0 q1 hne).1.trans (h.pg q q0 q1 hne), fun q q0 q1 hne => (h.sl q q0 q1 hne).tr (a1 q q0 q1 hne), h.bo, h.r3, fun d x => ?_, h.r1, h.r0, h.hb, a3⟩
    obtain ⟨b0, b1, -, b3⟩ := h.r2 d x
    exact ⟨b0, b1, a2 d x, b3⟩
  have same : ∀ ws : Nat → Int, ∀ q, Rw.Sm (sh P) ws q ws := fun ws q => ⟨rfl, fun _ _ _ => rfl⟩
  have r2s := fun d x => (h.r2 d x).2.2.1
  -- no page is a super while it has none
  have nosup : bp = -1 → ∀ q, 0 ≤ q → q < P → pgK (sh P) q (pgAt (sh P) w.ws q) ≠ 2 := fun hb q q0 q1 => by
    rw [h.pg q q0 q1 (by omega)]
    refine kind_ne ?_
    rcases rOwn_cases t q with g | g | g <;> rw [g]
    · decide
    · rw [held_val (by decide) (by decide)]; decide
    · rw [body_val h.hb.1 (by have := h.hb.2; omega)]; omega
  cases h.ph with
  | sc m e d b x i =>
    obtain ⟨ho, hmd⟩ := w1.nw d
    rw [e] at ho hmd
    have hmd : m.dn = false := hmd
    obtain ⟨o1, o2, o3, o4, o5, -, o7, -⟩ := ho
    have hq : 0 ≤ m.pg ∧ m.pg < P := by unfold Sc.pg; rw [o2, w2, o5, w5]; exact hmod m.many
    have hmine : m.mine w = false := by
      have hp : w.get m.pat = pgAt (sh P) w.ws m.pg := by unfold Sc.pat; rw [o2, w2]; rfl
      unfold Sc.mine
      rw [hp, o2, w2, decide_eq_false (nosup b m.pg hq.1 hq.2)]; simp
    have es : m.step w = (m.turn, w.load m.c m.pat) := by
      unfold Sc.step; rw [if_neg (by rw [hmd]; decide), if_pos x, if_neg (by rw [hmine]; decide)]
    have e' := Sk.step_sc (w := w) d e
    rw [es] at e'
    rw [e']
    refine mk _ _ e' (fun q _ _ _ => same _ q) r2s ?_
    by_cases hl : m.many + 1 = m.s.p
    · rw [Sa.set_af _ (by show decide (m.many + 1 = m.s.p) = true; exact decide_eq_true hl)]
      have ea : ({ u with nw := .sc m.turn } : Sk).after = { u with nw := .pc (Pc.new u.s u.c u.f) } := by
        show (if m.turn.fd then _ else _ : Sk) = _; rw [show m.turn.fd = false from o7 hmd]; rfl
      rw [ea]
      exact .pc _ rfl d b fun j j0 j1 => by have j1 : j < 0 := j1; omega
    · rw [Sa.set_go _ (by show decide (m.many + 1 = m.s.p) = false; exact decide_eq_false hl)]
      exact .sc _ rfl d b rfl rfl
  | pc m e d b nz =>
    obtain ⟨ho, hmd⟩ := w1.nw d
    rw [e] at ho hmd
    have hmd : m.dn = false := hmd
    obtain ⟨o1, o2, o3, o4, o5, o6, o7, o8⟩ := ho
    have hsp : m.s.p = P := by rw [o2, w2]; rfl
    have hpgd : m.pg = (f + m.many) % P := by unfold Pc.pg; rw [hsp, o4, w5]
    have hq : 0 ≤ m.pg ∧ m.pg < P := by rw [hpgd]; exact hmod m.many
    have hat : m.at' = page (sh P).p (sh P).c (sh P).m m.pg := by unfold Pc.at'; rw [o2, w2]
    have hgp : w.get m.at' = pgAt (sh P) w.ws m.pg := by rw [hat]; rfl
    have e' := Sk.step_pc (w := w) d e
    -- on to the next page
    have next : ∀ w', m.step w = (m.next, w') → w'.ws = w.ws → pgAt (sh P) w.ws m.pg ≠ 0 → ∃ bp', Inv P n K f t (u.step w).1 (u.step w).2 bp' := fun w' es hw hz => by
      rw [es] at e'
      rw [e']
      refine mk _ _ e' (fun q _ _ _ => by rw [hw]; exact same _ q) (fun dd xx => by rw [hw]; exact r2s dd xx) ?_
      have nz2 : ∀ j, 0 ≤ j → j < m.many + 1 → pgAt (sh P) w'.ws ((f + j) % P) ≠ 0 := fun j j0 j1 => by
        rw [hw]
        by_cases g : j = m.many
        · rw [g, ← hpgd]; exact hz
        · exact nz j j0 (by omega)
      by_cases hl : m.many + 1 = m.s.p
      · rw [Sa.set_af _ (by show decide (m.many + 1 = m.s.p) = true; exact decide_eq_true hl)]
        have ea : ({ u with nw := .pc m.next } : Sk).after = { u with nw := .no } := by
          show (if m.next.fd then _ else _ : Sk) = _; rw [show m.next.fd = false from o6 hmd]; rfl
        rw [ea]
        refine .no rfl d b fun q q0 q1 => ?_
        obtain ⟨j, j0, j1, rfl⟩ := Sa.turn_at f0 f1 q0 q1
        exact nz2 j j0 (by omega)
      · rw [Sa.set_go _ (by show decide (m.many + 1 = m.s.p) = false; exact decide_eq_false hl)]
        exact .pc _ rfl d b nz2
    cases hem : m.em
    · by_cases hz : pgAt (sh P) w.ws m.pg = 0
      · have es : m.step w = ({ m with em := true }, w.load m.c m.at') := by
          unfold Pc.step; rw [if_neg (by rw [hmd]; decide), if_neg (by rw [hem]; decide), hgp, if_pos hz]
        rw [es, Sa.set_go _ (by exact hmd)] at e'
        rw [e']
        exact mk _ _ e' (fun q _ _ _ => same _ q) r2s (.pc _ rfl d b nz)
      · exact next (w.load m.c m.at') (by unfold Pc.step; rw [if_neg (by rw [hmd]; decide), if_neg (by rw [hem]; decide), hgp, if_neg hz]) rfl hz
    · by_cases hz : pgAt (sh P) w.ws m.pg = 0
      rotate_left
      · exact next (w.swap m.c m.at' 0 (held m.c)) (by unfold Pc.step; rw [if_neg (by rw [hmd]; decide), if_pos hem, hgp, if_neg hz]) (swap_no (by rw [hgp]; exact hz)) hz
      have es : m.step w = ({ m with fd := true, dn := true }, w.swap m.c m.at' 0 (held m.c)) := by
        unfold Pc.step; rw [if_neg (by rw [hmd]; decide), if_pos hem, hgp, if_pos hz]
      have hws : (w.swap m.c m.at' 0 (held m.c)).ws = upW w.ws (page (sh P).p (sh P).c (sh P).m m.pg) (held 1) := by rw [swap_yes (hgp.trans hz), hat, o3, w3]
      rw [es, Sa.set_af _ rfl] at e'
      have e1 : (u.step w).1 = ({ u with nw := .pc { m with fd := true, dn := true } } : Sk).after := by rw [e']
      have e2 : (u.step w).2 = w.swap m.c m.at' 0 (held m.c) := by rw [e']
      have hr : rOwn t m.pg = 0 := by rw [← h.pg m.pg hq.1 hq.2 (by omega)]; exact hz
      refine ⟨m.pg, hP, Sk.step_of h.of, h.ts, ⟨Sk.step_wf w1, hkp.1.trans w2, hkp.2.1.trans w3, hkp.2.2.1.trans w4, hkp.2.2.2.trans w5⟩, h.kf, fun q q0 q1 hne => ?_, fun q q0 q1 hne => ?_, ⟨by omega, fun _ => ⟨hq.2, hr⟩⟩, h.r3, fun dd xx => by have := (h.r2 dd xx).1; omega, fun g => by omega, h.r0, h.hb, ?_⟩
      · rw [e2, hws, pg_pg hm hq.1 hq.2 q0 q1, if_neg hne]; exact h.pg q q0 q1 (by omega)
      · intro i i0 i1
        rw [e2, hws, sl_pg hm hq.1 hq.2 q0 i0]; exact h.sl q q0 q1 (by omega) i i0 i1
      · rw [e1, e2, hws]
        refine .b1 (Bi.new u.s u.c m.pg u.k) rfl d rfl rfl ?_ fun i i0 i1 => by have i1 : i < 0 := i1; omega
        rw [pg_pg hm hq.1 hq.2 hq.1 hq.2, if_pos rfl]
  | no e d b nz =>
    have hhere : u.here = (f + u.many) % P := by unfold Sk.here; rw [w2, w5]; rfl
    have hq : 0 ≤ u.here ∧ u.here < P := by rw [hhere]; exact hmod u.many
    have e' := Sk.step_no (w := w) d e
    have hl : u.look w = u.turn := by
      have hp : w.get u.pat = pgAt (sh P) w.ws u.here := by unfold Sk.pat; rw [w2]; rfl
      unfold Sk.look Sk.isSup
      rw [hp, w2, decide_eq_false (nosup b u.here hq.1 hq.2), if_neg (by simp)]
    rw [hl] at e'
    rw [e']
    refine mk _ _ e' (fun q _ _ _ => same _ q) r2s ?_
    unfold Sk.turn
    by_cases hl : u.many + 1 = u.s.p
    · exact .n (by show decide (u.many + 1 = u.s.p) = true; exact decide_eq_true hl) (w1.fd d) b nz
    · exact .no rfl (by show decide (u.many + 1 = u.s.p) = false; exact decide_eq_false hl) b nz
  | b1 m e d b x pg sl =>
    obtain ⟨ho, hmd⟩ := w1.nw d
    rw [e] at ho hmd
    have hmd : m.dn = false := hmd
    obtain ⟨o1, o2, o3, o4, o5, o6, o7⟩ := ho
    obtain ⟨-, -, -, p0, p1, -, i0, i1, -⟩ := o1.of hmd
    rw [o2, w2] at p1
    have p1 : m.p < P := p1
    have hmc : m.c = 1 := o3.trans w3
    have hmk : m.k = K := o4.trans w4
    rw [b] at pg sl
    have hno : t.dn = false → t.nx = 2 → False := fun dd xx => by
      have g := r2s dd xx
      rw [b, pg, held_val (by decide) (by decide), super_val k0 (by omega) (by decide) (by decide)] at g; omega
    have hat : m.at' = slot (sh P).p (sh P).c (sh P).m m.p m.i := by unfold Bi.at'; rw [o2, w2]
    have hpat : m.pat = page (sh P).p (sh P).c (sh P).m m.p := by unfold Bi.pat; rw [o2, w2]
    have e' := Sk.step_bi (w := w) d e
    by_cases hl : m.i = 16
    · have es : m.step w = ({ m with bd := true, i := slots m.k - 1 }, w.store m.c m.pat (super m.k m.c)) := by
        unfold Bi.step; rw [if_neg (by rw [hmd]; decide), if_neg (by rw [x]; decide), if_pos hl]
      have hws : (w.store m.c m.pat (super m.k m.c)).ws = upW w.ws (page (sh P).p (sh P).c (sh P).m m.p) (super K 1) := by rw [store_ws, hpat, hmk, hmc]
      rw [es, Sa.set_go _ (by exact hmd)] at e'
      rw [e']
      refine mk _ _ e' (fun q q0 q1 hne => by rw [hws]; exact Rw.Sm.pg hm p0 p1 q0 q1 (by rw [← b]; exact hne)) (fun dd xx => (hno dd xx).elim) (.b2 _ rfl d b rfl ?_ (fun i a0 a1 => ?_) (fun i a0 a1 => ?_) (fun i a0 a1 => ?_))
      · rw [hws, b, pg_pg hm p0 p1 p0 p1, if_pos rfl]
      · have a1 : i ≤ slots m.k - 1 := a1
        rw [hmk] at a1
        rw [hws, b, sl_pg hm p0 p1 p0 a0, sl i a0 (by omega), if_pos (by omega)]
      · have a0 : slots m.k - 1 < i := a0
        rw [hmk] at a0; omega
      · rw [hws, b, sl_pg hm p0 p1 p0 (by omega), sl i (by omega) (by omega), if_neg (by omega)]
    · have es : m.step w = ({ m with i := m.i + 1 }, w.store m.c m.at' (if m.i < slots m.k then way m.c else 0)) := by
        unfold Bi.step; rw [if_neg (by rw [hmd]; decide), if_neg (by rw [x]; decide), if_neg hl]
      have hws : (w.store m.c m.at' (if m.i < slots m.k then way m.c else 0)).ws = upW w.ws (slot (sh P).p (sh P).c (sh P).m m.p m.i) (if m.i < slots K then way 1 else 0) := by rw [store_ws, hat, hmk, hmc]
      rw [es, Sa.set_go _ (by exact hmd)] at e'
      rw [e']
      refine mk _ _ e' (fun q q0 q1 hne => by rw [hws]; exact Rw.Sm.sl hm p0 p1 i0 (by omega) q0 q1 (by rw [← b]; exact hne)) (fun dd xx => (hno dd xx).elim) (.b1 _ rfl d b x ?_ (fun i a0 a1 => ?_))
      · rw [hws, b, pg_sl hm p0 p1 i0 (by omega) p0 p1]; exact pg
      · have a1 : i < m.i + 1 := a1
        rw [hws, b, sl_sl hm p0 p1 i0 (by omega) p0 a0 (by omega)]
        by_cases g : i = m.i
        · rw [if_pos ⟨rfl, g⟩, g]
        · rw [if_neg (fun x => g x.2)]; exact sl i a0 (by omega)
  | b2 m e d b x pg sl so sz =>
    obtain ⟨ho, hmd⟩ := w1.nw d
    rw [e] at ho hmd
    have hmd : m.dn = false := hmd
    obtain ⟨o1, o2, o3, o4, o5, o6, o7⟩ := ho
    obtain ⟨-, -, -, p0, p1, -, i0, i1, i2⟩ := o1.of hmd
    have i2 := i2 x
    rw [o2, w2] at p1
    have p1 : m.p < P := p1
    have hmk : m.k = K := o4.trans w4
    rw [hmk] at i2
    rw [b] at pg sl so sz
    have hat : m.at' = slot (sh P).p (sh P).c (sh P).m m.p m.i := by unfold Bi.at'; rw [o2, w2]
    have e' := Sk.step_bi (w := w) d e
    have es : m.step w = ({ m with i := m.i - 1, dn := decide (m.i - 1 = 0) }, w.store m.c m.at' (opn m.k)) := by
      unfold Bi.step; rw [if_neg (by rw [hmd]; decide), if_pos x]
    have hws : (w.store m.c m.at' (opn m.k)).ws = upW w.ws (slot (sh P).p (sh P).c (sh P).m m.p m.i) (opn K) := by rw [store_ws, hat, hmk]
    have hsl : ∀ i, 0 ≤ i → i < 16 → slAt (sh P) (upW w.ws (slot (sh P).p (sh P).c (sh P).m m.p m.i) (opn K)) m.p i = if i = m.i then opn K else slAt (sh P) w.ws m.p i := fun i a0 a1 => by
      rw [sl_sl hm p0 p1 i0 (by omega) p0 a0 a1]
      by_cases g : i = m.i
      · rw [if_pos ⟨rfl, g⟩, if_pos g]
      · rw [if_neg (fun x => g x.2), if_neg g]
    have pg2 : pgAt (sh P) (upW w.ws (slot (sh P).p (sh P).c (sh P).m m.p m.i) (opn K)) m.p = super K 1 := by rw [pg_sl hm p0 p1 i0 (by omega) p0 p1]; exact pg
    have sl2 : ∀ i, 0 ≤ i → i ≤ m.i - 1 → slAt (sh P) (upW w.ws (slot (sh P).p (sh P).c (sh P).m m.p m.i) (opn K)) m.p i = way 1 := fun i a0 a1 => by rw [hsl i a0 (by omega), if_neg (by omega)]; exact sl i a0 (by omega)
    have so2 : ∀ i, m.i - 1 < i → i < slots K → slAt (sh P) (upW w.ws (slot (sh P).p (sh P).c (sh P).m m.p m.i) (opn K)) m.p i = opn K := fun i a0 a1 => by
      rw [hsl i (by omega) (by omega)]
      split
      · rfl
      · exact so i (by omega) a1
    have sz2 : ∀ i, slots K ≤ i → i < 16 → slAt (sh P) (upW w.ws (slot (sh P).p (sh P).c (sh P).m m.p m.i) (opn K)) m.p i = 0 := fun i a0 a1 => by rw [hsl i (by omega) a1, if_neg (by omega)]; exact sz i a0 a1
    rw [es] at e'
    rw [e']
    rw [← hws, ← b] at pg2 sl2 so2 sz2
    refine mk _ _ e' (fun q q0 q1 hne => by rw [hws]; exact Rw.Sm.sl hm p0 p1 i0 (by omega) q0 q1 (by rw [← b]; exact hne)) (fun _ _ => pg2) ?_
    by_cases hl : m.i - 1 = 0
    · rw [Sa.set_af _ (by show decide (m.i - 1 = 0) = true; exact decide_eq_true hl)]
      show Bp P K f (({ u with nw := .bi { m with i := m.i - 1, dn := decide (m.i - 1 = 0) } } : Sk).fin u.pg 0) _ bp
      rw [hl] at sl2 so2
      exact .f rfl rfl (b.trans o5) (by omega) pg2 (sl2 0 (Int.le_refl _) (Int.le_refl _)) so2 sz2
    · rw [Sa.set_go _ (by show decide (m.i - 1 = 0) = false; exact decide_eq_false hl)]
      exact .b2 _ rfl d b x pg2 sl2 so2 sz2
  | f d g b b0 pg s0 so sz => rw [Sk.step_dn d]; exact ⟨bp, h⟩
  | n d g b nz => rw [Sk.step_dn d]; exact ⟨bp, h⟩
theorem Inv.fin (h : Inv P n K f t u w bp) (hd : t.dn = true) (hu : u.dn = true) : (t.fd = true ∨ u.fd = true) ∧ (t.fd = true → u.fd = true → ¬ (t.hd ≤ u.pg ∧ u.pg < t.hd + n)) ∧ Snd (sh P) w.ws := by
  have hm := may_ok h.ok
  have hP := h.ok
  obtain ⟨w1, w2, w3, w4, n0, n1⟩ := h.ts
  obtain ⟨k0, k1, f0, f1⟩ := h.kf
  have hs4 := slots_four k0 k1
  have hrow : ∀ q, rOwn t q = if t.fd = true ∧ t.hd ≤ q ∧ q < t.hd + n then (if q = t.hd then held 0 else putPg 4 t.hd 0) else 0 := fun q => by
    unfold rOwn; rw [if_pos hd, w4]
  have hh := h.hb
  have hnz : ∀ q, t.fd = true → t.hd ≤ q → q < t.hd + n → rOwn t q ≠ 0 := fun q g g0 g1 => by
    rw [hrow, if_pos ⟨g, g0, g1⟩]
    split
    · rw [held_val (by decide) (by decide)]; decide
    · rw [body_val hh.1 (by omega)]; omega
  refine ⟨?_, fun g1 g2 g3 => ?_, fun q q1 => ?_, fun c i h1 h2 => ?_, fun c i c' i' h1 h2 => ?_⟩
  · cases h.ph with
    | sc m e d => rw [hu] at d; cases d
    | pc m e d => rw [hu] at d; cases d
    | no e d => rw [hu] at d; cases d
    | b1 m e d => rw [hu] at d; cases d
    | b2 m e d => rw [hu] at d; cases d
    | f d g => exact .inr g
    | n d g b nz =>
      rcases (h.r1 b).2.2 hd with g2 | g2
      · exact .inl g2
      · exfalso
        have h0 := h.r0 g2
        have := h.pg 0 (Int.le_refl 0) (by omega) (by omega)
        rw [hrow, if_neg (fun x => by rw [h0.2] at x; cases x.1)] at this
        exact nz 0 (Int.le_refl 0) (by omega) this
  · cases h.ph with
    | sc m e d => rw [hu] at d; cases d
    | pc m e d => rw [hu] at d; cases d
    | no e d => rw [hu] at d; cases d
    | b1 m e d => rw [hu] at d; cases d
    | b2 m e d => rw [hu] at d; cases d
    | f d g b b0 => exact hnz bp g1 (by rw [b]; exact g3.1) (by rw [b]; exact g3.2) (h.bo.2 b0).2
    | n d g => rw [g2] at g; cases g
  · have q1 : (q : Int) < P := q1
    by_cases e : (q : Int) = bp
    · cases h.ph with
      | sc m e d => rw [hu] at d; cases d
      | pc m e d => rw [hu] at d; cases d
      | no e d => rw [hu] at d; cases d
      | b1 m e d => rw [hu] at d; cases d
      | b2 m e d => rw [hu] at d; cases d
      | n d g b => omega
      | f d g b b0 pg s0 so sz =>
        have ho := Sa.super_ok (s := sh P) (q := bp) (k := K) (c := 1) hm b0 (by show bp < P; omega) k0 k1 (by decide) (by show (1 : Int) < 2; decide)
        rw [e, pg]
        refine ⟨ho.1, SpB.two (by rw [ho.2.1]; rfl) fun i hi => ?_⟩
        rw [ho.2.2]
        have wn := way_ne 1 (by decide) (by decide)
        have on := opn_ne K k0 (by omega)
        unfold slB
        by_cases e2 : (i : Int) < slots K
        · rw [decide_eq_true e2]
          by_cases e0 : (i : Int) = 0
          · rw [e0, s0, wn.2.1, wn.2.2]; rfl
          · rw [so i (by omega) e2, on.2.1, on.2.2]; simp
        · rw [decide_eq_false e2, sz i (by omega) (by omega)]; rfl
    · have hz := h.sl q (by omega) q1 e
      have hz : ∀ i : Nat, i < 16 → slAt (sh P) w.ws q i = 0 := fun i hi => hz i (by omega) (by omega)
      rw [h.pg q (by omega) q1 e, hrow]
      by_cases g : t.fd = true ∧ t.hd ≤ (q : Int) ∧ (q : Int) < t.hd + n
      · rw [if_pos g]
        by_cases g2 : (q : Int) = t.hd
        · rw [if_pos g2]
          have ho := held_ok (s := sh P) (q := q) (c := 0) hm (by omega) (by show (q : Int) < P; omega) (by decide) (by show (0 : Int) < 2; decide)
          exact ⟨ho.1, SpB.one (by rw [ho.2.1]; rfl) (by rw [ho.2.1]; rfl)⟩
        · rw [if_neg g2]
          have ho := body_ok (s := sh P) (q := q) (h := t.hd) hm hh.1 (by omega) (by omega) (by show (q : Int) < P; omega)
          have hhd : pgAt (sh P) w.ws t.hd = held 0 := by
            have hne : t.hd ≠ bp := fun x => by
              have := hnz t.hd g.1 (Int.le_refl _) (by omega)
              rw [x] at this
              exact this (h.bo.2 (by omega)).2
            rw [h.pg t.hd hh.1 (by omega) hne, hrow, if_pos ⟨g.1, Int.le_refl _, by omega⟩, if_pos rfl]
          refine ⟨ho.1, SpB.four (by rw [ho.2.1]; rfl) hz (by rw [ho.2.1]; rfl) ?_⟩
          rw [ho.2.2, hhd, (held_ok (s := sh P) (q := t.hd) (c := 0) hm hh.1 (by show t.hd < P; omega) (by decide) (by show (0 : Int) < 2; decide)).2.1]; rfl
      · rw [if_neg g, pgK_zero]
        exact ⟨okPg_zero hm (by omega) (by show (q : Int) < P; omega), SpB.oth rfl hz rfl rfl⟩
  · have h2 : (i : Int) < 0 := h2
    omega
  · have h2 : (i : Int) < 0 := h2
    omega
theorem Inv.init (hP : 1 ≤ P ∧ P ≤ 9) (hn : 1 ≤ n ∧ n ≤ 8) (hk : 0 ≤ K ∧ K ≤ 3) (hf : 0 ≤ f ∧ f < P) (ho : w.of (sh P)) (hw : ∀ j, w.ws j = 0) : Inv P n K f (Rn.new (sh P) 0 n) (Sk.new (sh P) 1 K f) w (-1) := by
  have hm := may_ok hP
  have hs4 := slots_four hk.1 hk.2
  have hb := (may_iff _ _ _).1 hm
  have hst : status (sh P).p (sh P).c (sh P).m 0 = 0 := status_yes hm (by decide) (by show (0 : Int) < 2; decide)
  have hr : ∀ q, rOwn (Rn.new (sh P) 0 n) q = 0 := fun q => by
    unfold rOwn
    cases hdn : (Rn.new (sh P) 0 n).dn
    · rw [if_neg (by decide), if_pos (by show (0 : Int) ≤ 2; decide), if_neg (by show ¬ ((0 : Int) ≤ q ∧ q < 0); omega)]
    · rw [if_pos rfl, if_neg (fun x => by have := x.1; cases this)]
  have g1 : good (sh P) 1 K = true := by
    unfold good
    rw [status_yes hm (by decide) (by show (1 : Int) < 2; decide), decide_eq_true (by omega : 0 < slots K)]; rfl
  have g2 : decide (0 ≤ page (sh P).p (sh P).c (sh P).m f) = true := decide_eq_true (by rw [page_yes hm hf.1 hf.2]; show 0 ≤ (2 : Int) + f; omega)
  have en : Sk.new (sh P) 1 K f = Sk.set ⟨sh P, 1, K, f, .tk (Tk.new (sh P) 1 K), 0, 0, 0, false, false⟩ (.tk (Tk.new (sh P) 1 K)) := by
    unfold Sk.new; rw [g1, g2]; rfl
  have hkp : Sk.Kp ⟨sh P, 1, K, f, .tk (Tk.new (sh P) 1 K), 0, 0, 0, false, false⟩ (Sk.new (sh P) 1 K f) := by rw [en]; exact Sk.set_kp _ _
  have hd : (Tk.new (sh P) 1 K).dn = true := by show (!good (sh P) 1 K || decide ((0 : Int) = 0)) = true; simp
  refine ⟨hP, ho, ⟨Rn.new_wf .., rfl, rfl, rfl, hn.1, hn.2⟩, ⟨Sk.new_wf .., hkp.1, hkp.2.1, hkp.2.2.1, hkp.2.2.2⟩, ⟨hk.1, hk.2, hf.1, hf.2⟩, fun q _ _ _ => ?_, fun q _ _ _ i _ _ => hw _, ⟨Int.le_refl _, fun g => by omega⟩, fun _ => by show (0 : Int) ≠ 3; decide, fun _ g => by have g : (0 : Int) = 2 := g; omega, fun _ => ⟨rfl, fun _ => by show (0 : Int) ≠ 4; decide, fun g => .inr ?_⟩, fun g => ⟨?_, rfl⟩, ⟨Int.le_refl 0, by show (0 : Int) ≤ P + 8; omega⟩, ?_⟩
  · rw [hr]; exact hw _
  · have g : (!Rn.ok (sh P) 0 n) = true := g
    by_cases hc : P < n
    · exact hc
    · exfalso
      unfold Rn.ok at g
      rw [hst, decide_eq_true (by decide : (0 : Int) ≤ 0), decide_eq_true hn.1, decide_eq_true hn.2, decide_eq_true (by show n ≤ P; omega : n ≤ (sh P).p)] at g
      cases g
  · show (!Rn.ok (sh P) 0 n) = true
    unfold Rn.ok
    rw [decide_eq_false (by show ¬ n ≤ P; omega : ¬ n ≤ (sh P).p)]; simp
  · rw [en, Sa.set_af _ (m := .tk _) hd]
    show Bp P K f { (_ : Sk) with nw := .sc (Sc.new (sh P) 1 K f) } w.ws (-1)
    exact .sc _ rfl rfl rfl rfl rfl
end
end Rk
end Go.Ma
