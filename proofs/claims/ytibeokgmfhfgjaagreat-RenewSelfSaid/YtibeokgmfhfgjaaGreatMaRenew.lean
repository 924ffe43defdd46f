/-
Another block in place of one, plain: the machine that reserves, gives, and commits or undoes. Conditions: none.
Over any words: what one does that reserves, and undoes, touches no block. Conditions: none.
-/
import Derived.Test.YtibeokgmfhfgjaaGreatMaTake
import Derived.Test.YtibeokgmfhfgjaaGreatMaGive
import Derived.Test.YtibeokgmfhfgjaaGreatMaBase
set_option linter.unusedVariables false
set_option linter.unusedSectionVars false
set_option linter.unusedSimpArgs false
namespace Go.Ma
open Go.Pl

/-- What follows the old block's end. -/
inductive Md where
  | no
  | uo (t : Uo)
  | cm (t : Cm)
structure Re where
  s : Sh
  c : Int
  on : Bool
  rv : Rv
  gv : Gv
  md : Md
  er : Int
  dn : Bool
namespace Re
def fin (t : Re) (e : Int) : Re := { t with er := e, dn := true }
/-- On behind an access. -/
def go (t : Re) : Re := match t.md with
  | .uo u => if u.dn then t.fin 1 else t
  | .cm m => if m.dn then t.fin 0 else t
  | .no => if t.rv.dn then (if t.rv.fd then (if t.gv.dn then (if t.gv.gv then { t with md := .cm (Cm.new t.s t.c t.rv.bk) } else { t with md := .uo (Uo.new t.s t.c t.rv.bk) }) else t) else t.fin 3) else t
def ok (s : Sh) (c a n : Int) : Bool := there s.p s.c s.m a && fine n && decide (0 ≤ status s.p s.c s.m c)
def raw (s : Sh) (c a n f : Int) : Re := ⟨s, c, true, Rv.new s c n f, Gv.new s c a, .no, 0, false⟩
def bad (s : Sh) (c : Int) : Re := ⟨s, c, false, .no, Gv.new s c 0, .no, 1, true⟩
def new (s : Sh) (c a n f : Int) : Re := if ok s c a n then (raw s c a n f).go else bad s c
/-- An access, ahead of what follows. -/
def acc (t : Re) (w : Wd) : Re × Wd :=
  if t.rv.dn then (if t.gv.dn then (match t.md with
    | .uo u => ({ t with md := .uo (u.step w).1 }, (u.step w).2)
    | .cm m => ({ t with md := .cm (m.step w).1 }, (m.step w).2)
    | .no => (t, w)) else ({ t with gv := (t.gv.step w).1 }, (t.gv.step w).2)) else ({ t with rv := (t.rv.step w).1 }, (t.rv.step w).2)
def step (t : Re) (w : Wd) : Re × Wd := if t.dn then (t, w) else ((t.acc w).1.go, (t.acc w).2)
def gave (t : Re) : Bool := t.on && t.gv.gv
def fd (t : Re) : Bool := t.dn && decide (t.er = 0) && t.rv.fd
def bk (t : Re) : Bk := if t.dn && decide (t.er = 0) then t.rv.bk else Bk.zero

/-- It fits. -/
structure wf (t : Re) : Prop where
  of : t.on = false → t.dn = true ∧ t.md = .no ∧ t.er = 1
  rw : t.rv.wf
  ro : t.rv.of t.s t.c
  gw : t.gv.wf
  gs : t.gv.s = t.s ∧ t.gv.c = t.c
  uo : ∀ u, t.md = .uo u → u.wf ∧ u.s = t.s ∧ u.c = t.c ∧ t.rv.dn = true ∧ t.rv.fd = true ∧ t.gv.dn = true ∧ t.gv.gv = false
  cm : ∀ m, t.md = .cm m → m.wf ∧ m.s = t.s ∧ m.c = t.c ∧ t.rv.dn = true ∧ t.rv.fd = true ∧ t.gv.dn = true ∧ t.gv.gv = true
  nx : t.dn = false → t.md = .no → t.rv.dn = true → t.rv.fd = true ∧ t.gv.dn = false
  g0 : t.rv.dn = false → t.gv.gv = false
/-- Behind an access: as it is ahead of what follows. -/
structure wf' (t : Re) : Prop where
  on : t.on = true
  dn : t.dn = false
  rw : t.rv.wf
  ro : t.rv.of t.s t.c
  gw : t.gv.wf
  gs : t.gv.s = t.s ∧ t.gv.c = t.c
  uo : ∀ u, t.md = .uo u → u.wf ∧ u.s = t.s ∧ u.c = t.c ∧ t.rv.dn = true ∧ t.rv.fd = true ∧ t.gv.dn = true ∧ t.gv.gv = false
  cm : ∀ m, t.md = .cm m → m.wf ∧ m.s = t.s ∧ m.c = t.c ∧ t.rv.dn = true ∧ t.rv.fd = true ∧ t.gv.dn = true ∧ t.gv.gv = true
  g0 : t.rv.dn = false → t.gv.gv = false
variable {t : Re} {w : Wd}
theorem go_wf (h : t.wf') : t.go.wf := by
  unfold go
  split
  · rename_i u e
    split
    · exact ⟨fun g => (by have g : t.on = false := g; rw [h.on] at g; cases g), h.rw, h.ro, h.gw, h.gs, h.uo, h.cm, fun g => (by cases g), h.g0⟩
    · exact ⟨fun g => (by rw [h.on] at g; cases g), h.rw, h.ro, h.gw, h.gs, h.uo, h.cm, fun _ g => (by rw [e] at g; cases g), h.g0⟩
  · rename_i m e
    split
    · exact ⟨fun g => (by have g : t.on = false := g; rw [h.on] at g; cases g), h.rw, h.ro, h.gw, h.gs, h.uo, h.cm, fun g => (by cases g), h.g0⟩
    · exact ⟨fun g => (by rw [h.on] at g; cases g), h.rw, h.ro, h.gw, h.gs, h.uo, h.cm, fun _ g => (by rw [e] at g; cases g), h.g0⟩
  · rename_i e
    split
    · rename_i e1
      split
      · rename_i e2
        split
        · rename_i e3
          split
          · rename_i e4
            refine ⟨fun g => (by have g : t.on = false := g; rw [h.on] at g; cases g), h.rw, h.ro, h.gw, h.gs, fun u g => (by cases g), fun m g => ?_, fun _ g => (by cases g), h.g0⟩
            injection g with g
            subst g
            exact ⟨Cm.new_wf _ _ _, rfl, rfl, e1, e2, e3, e4⟩
          · rename_i e4
            refine ⟨fun g => (by have g : t.on = false := g; rw [h.on] at g; cases g), h.rw, h.ro, h.gw, h.gs, fun u g => ?_, fun m g => (by cases g), fun _ g => (by cases g), h.g0⟩
            injection g with g
            subst g
            exact ⟨Uo.new_wf _ _ _, rfl, rfl, e1, e2, e3, by simpa using e4⟩
        · rename_i e3
          exact ⟨fun g => (by rw [h.on] at g; cases g), h.rw, h.ro, h.gw, h.gs, h.uo, h.cm, fun _ _ _ => ⟨e2, by simpa using e3⟩, h.g0⟩
      · exact ⟨fun g => (by have g : t.on = false := g; rw [h.on] at g; cases g), h.rw, h.ro, h.gw, h.gs, h.uo, h.cm, fun g => (by cases g), h.g0⟩
    · rename_i e1
      exact ⟨fun g => (by rw [h.on] at g; cases g), h.rw, h.ro, h.gw, h.gs, h.uo, h.cm, fun _ _ g => absurd g e1, h.g0⟩
theorem new_wf (s : Sh) (c a n f : Int) : (new s c a n f).wf := by
  unfold new
  split
  · exact go_wf ⟨rfl, rfl, Rv.new_wf .., Rv.new_of .., Gv.new_wf .., ⟨rfl, rfl⟩, fun _ g => (by cases g), fun _ g => (by cases g), fun _ => rfl⟩
  · exact ⟨fun _ => ⟨rfl, rfl, rfl⟩, trivial, trivial, Gv.new_wf .., ⟨rfl, rfl⟩, fun _ g => (by cases g), fun _ g => (by cases g), fun g => (by cases g), fun _ => rfl⟩
theorem on_of (h : t.wf) (hd : t.dn = false) : t.on = true := by
  cases e : t.on
  · rw [(h.of e).1] at hd; cases hd
  · rfl
theorem acc_wf (h : t.wf) (hd : t.dn = false) (hw : w.of t.s) : (t.acc w).1.wf' := by
  have on := on_of h hd
  unfold acc
  split
  · rename_i e1
    split
    · rename_i e2
      split
      · rename_i u e
        obtain ⟨g1, g2, g3, g4, g5, g6, g7⟩ := h.uo u e
        refine ⟨on, hd, h.rw, h.ro, h.gw, h.gs, fun x g => ?_, fun x g => (by cases g), h.g0⟩
        injection g with g
        subst g
        have hk : (u.step w).1.s = u.s ∧ (u.step w).1.c = u.c := by unfold Uo.step; split; exact ⟨rfl, rfl⟩; split; (split <;> exact ⟨rfl, rfl⟩); exact ⟨rfl, rfl⟩
        exact ⟨Uo.step_wf g1, hk.1.trans g2, hk.2.trans g3, g4, g5, g6, g7⟩
      · rename_i m e
        obtain ⟨g1, g2, g3, g4, g5, g6, g7⟩ := h.cm m e
        refine ⟨on, hd, h.rw, h.ro, h.gw, h.gs, fun x g => (by cases g), fun x g => ?_, h.g0⟩
        injection g with g
        subst g
        have hk : (m.step w).1.s = m.s ∧ (m.step w).1.c = m.c ∧ ((m.step w).1.dn = true) := by unfold Cm.step; split; (rename_i x; exact ⟨rfl, rfl, x⟩); split <;> exact ⟨rfl, rfl, rfl⟩
        exact ⟨fun g => (by rw [hk.2.2] at g; cases g), hk.1.trans g2, hk.2.1.trans g3, g4, g5, g6, g7⟩
      · exact ⟨on, hd, h.rw, h.ro, h.gw, h.gs, h.uo, h.cm, h.g0⟩
    · rename_i e2
      have hk := Gv.step_keeps (w := w) h.gw
      exact ⟨on, hd, h.rw, h.ro, Gv.step_wf h.gw hw.u, ⟨hk.1.trans h.gs.1, hk.2.1.trans h.gs.2⟩, fun u g => absurd (h.uo u g).2.2.2.2.2.1 e2, fun m g => absurd (h.cm m g).2.2.2.2.2.1 e2, fun g => (by have g : t.rv.dn = false := g; rw [e1] at g; cases g)⟩
  · rename_i e1
    have e1' : t.rv.dn = false := by simpa using e1
    exact ⟨on, hd, Rv.step_wf h.rw, Rv.step_ofs h.rw h.ro, h.gw, h.gs, fun u g => absurd (h.uo u g).2.2.2.1 e1, fun m g => absurd (h.cm m g).2.2.2.1 e1, fun _ => h.g0 e1'⟩
theorem go_k : t.go.s = t.s ∧ t.go.c = t.c ∧ t.go.on = t.on ∧ t.go.rv = t.rv ∧ t.go.gv = t.gv := by
  unfold go
  split
  · split <;> exact ⟨rfl, rfl, rfl, rfl, rfl⟩
  · split <;> exact ⟨rfl, rfl, rfl, rfl, rfl⟩
  · split
    · split
      · split
        · split <;> exact ⟨rfl, rfl, rfl, rfl, rfl⟩
        · exact ⟨rfl, rfl, rfl, rfl, rfl⟩
      · exact ⟨rfl, rfl, rfl, rfl, rfl⟩
    · exact ⟨rfl, rfl, rfl, rfl, rfl⟩
theorem acc_k : (t.acc w).1.s = t.s ∧ (t.acc w).1.c = t.c ∧ (t.acc w).1.on = t.on := by
  unfold acc
  split
  · split
    · split <;> exact ⟨rfl, rfl, rfl⟩
    · exact ⟨rfl, rfl, rfl⟩
  · exact ⟨rfl, rfl, rfl⟩
theorem step_wf (h : t.wf) (hw : t.dn = false → w.of t.s) : (t.step w).1.wf := by
  unfold step
  cases hd : t.dn
  · exact go_wf (acc_wf h hd (hw hd))
  · exact h
theorem step_k : (t.step w).1.s = t.s ∧ (t.step w).1.c = t.c ∧ (t.step w).1.on = t.on := by
  unfold step
  split
  · exact ⟨rfl, rfl, rfl⟩
  · have h1 := go_k (t := (t.acc w).1)
    have h2 := acc_k (t := t) (w := w)
    exact ⟨h1.1.trans h2.1, h1.2.1.trans h2.2.1, h1.2.2.1.trans h2.2.2⟩
theorem _root_.Go.Ma.Uo.step_of {u : Uo} {s : Sh} (h : w.of s) : (u.step w).2.of s := by
  unfold Uo.step
  split
  · exact h
  · split
    · split <;> exact Wd.of_store h U_0 _ _
    · exact Wd.of_store h (U_putSl _ _) _ _
theorem _root_.Go.Ma.Cm.step_of {u : Cm} {s : Sh} (h : w.of s) : (u.step w).2.of s := by
  unfold Cm.step
  split
  · exact h
  · split
    · exact Wd.of_store h (U_putPg _ _ _) _ _
    · exact Wd.of_store h (U_putSl _ _) _ _
theorem step_of (h : t.wf) (ho : w.of t.s) : (t.step w).2.of t.s := by
  unfold step
  cases hd : t.dn
  rotate_left
  · exact ho
  show (t.acc w).2.of t.s
  unfold acc
  split
  · split
    · split
      · exact Uo.step_of ho
      · exact Cm.step_of ho
      · exact ho
    · rw [← h.gs.1] at ho ⊢; exact Gv.step_of h.gw ho
  · exact Rv.step_of h.rw ho
/-- How many accesses it has left, at most. -/
def left (t : Re) : Int := if t.dn then 0 else match t.md with
  | .no => t.rv.left + t.gv.left + 10
  | .uo u => (if u.dn then 0 else if u.b.lg then u.b.n - u.i else 1) + 1
  | .cm m => (if m.dn then 0 else 1) + 1
theorem uo_left {u : Uo} (h : u.wf) : 0 ≤ (if u.dn then 0 else if u.b.lg then u.b.n - u.i else 1 : Int) ∧ (if u.dn then 0 else if u.b.lg then u.b.n - u.i else 1 : Int) ≤ 8 := by
  cases hd : u.dn
  · obtain ⟨h1, h2⟩ := h hd
    simp only [Bool.false_eq_true, if_false]
    cases hl : u.b.lg
    · simp
    · have := h2 hl; have := h1.l hl; simp; omega
  · simp
theorem left_dn (h : t.wf) (hl : t.left ≤ 0) : t.dn = true := by
  cases hd : t.dn
  · unfold left at hl
    rw [if_neg (by rw [hd]; decide)] at hl
    split at hl
    · have := Rv.left_nn h.rw; have := Gv.left_nn h.gw; omega
    · rename_i u e
      have := uo_left (h.uo u e).1; omega
    · split at hl <;> omega
  · rfl
theorem left_0 (h : t.dn = true) : t.left = 0 := by unfold left; rw [if_pos h]
def gl (t : Re) : Int := match t.md with
  | .no => max 9 (t.rv.left + t.gv.left + 10)
  | .uo u => if u.dn then 0 else (if u.b.lg then u.b.n - u.i else 1) + 1
  | .cm m => if m.dn then 0 else 2
/-- What follows takes no more than what is there. -/
theorem go_left (h : t.wf') : t.go.left ≤ t.gl := by
  cases e : t.md with
  | uo u =>
    have eg : t.gl = if u.dn then 0 else (if u.b.lg then u.b.n - u.i else 1) + 1 := by unfold gl; rw [e]
    rw [eg]
    have e1 : t.go = if u.dn then t.fin 1 else t := by unfold go; rw [e]
    rw [e1]
    cases e2 : u.dn
    · simp only [Bool.false_eq_true, if_false]; unfold left; rw [if_neg (by rw [h.dn]; decide), e]
      show (if u.dn then 0 else if u.b.lg then u.b.n - u.i else 1 : Int) + 1 ≤ _
      rw [e2]; simp
    · simp only [if_true]; rw [left_0 rfl]; omega
  | cm u =>
    have eg : t.gl = if u.dn then 0 else 2 := by unfold gl; rw [e]
    rw [eg]
    have e1 : t.go = if u.dn then t.fin 0 else t := by unfold go; rw [e]
    rw [e1]
    cases e2 : u.dn
    · simp only [Bool.false_eq_true, if_false]; unfold left; rw [if_neg (by rw [h.dn]; decide), e]
      show (if u.dn then 0 else 1 : Int) + 1 ≤ _
      rw [e2]; simp
    · simp only [if_true]; rw [left_0 rfl]; omega
  | no =>
    have eg : t.gl = max 9 (t.rv.left + t.gv.left + 10) := by unfold gl; rw [e]
    rw [eg]
    have e1 : t.go = if t.rv.dn then (if t.rv.fd then (if t.gv.dn then (if t.gv.gv then { t with md := .cm (Cm.new t.s t.c t.rv.bk) } else { t with md := .uo (Uo.new t.s t.c t.rv.bk) }) else t) else t.fin 3) else t := by unfold go; rw [e]
    rw [e1]
    have h1 := Rv.left_nn h.rw
    have h2 := Gv.left_nn h.gw
    have hs : t.left ≤ max 9 (t.rv.left + t.gv.left + 10) := by
      unfold left; rw [if_neg (by rw [h.dn]; decide), e]; show t.rv.left + t.gv.left + 10 ≤ _; omega
    split
    · split
      · split
        · split
          · show (if t.dn then 0 else (if (Cm.new t.s t.c t.rv.bk).dn then 0 else 1) + 1 : Int) ≤ _
            rw [if_neg (by rw [h.dn]; decide)]
            split <;> omega
          · show (if t.dn then 0 else (if (Uo.new t.s t.c t.rv.bk).dn then 0 else if (Uo.new t.s t.c t.rv.bk).b.lg then (Uo.new t.s t.c t.rv.bk).b.n - (Uo.new t.s t.c t.rv.bk).i else 1) + 1 : Int) ≤ _
            rw [if_neg (by rw [h.dn]; decide)]
            have := uo_left (Uo.new_wf t.s t.c t.rv.bk)
            omega
        · exact hs
      · rw [left_0 rfl]; omega
    · exact hs
theorem step_left (h : t.wf) (hd : t.dn = false) (hw : w.of t.s) : (t.step w).1.left < t.left := by
  have hg := go_left (acc_wf h hd hw)
  have e : (t.step w).1 = (t.acc w).1.go := by unfold step; rw [hd]; rfl
  rw [e]
  refine Int.lt_of_le_of_lt hg ?_
  have hl : t.left = (match t.md with
    | .no => t.rv.left + t.gv.left + 10
    | .uo u => (if u.dn then 0 else if u.b.lg then u.b.n - u.i else 1) + 1
    | .cm m => (if m.dn then 0 else 1) + 1) := by unfold left; rw [if_neg (by rw [hd]; decide)]
  rw [hl]
  cases e1 : t.rv.dn
  · have hm : t.md = .no := by
      cases em : t.md with
      | no => rfl
      | uo u => rw [(h.uo u em).2.2.2.1] at e1; cases e1
      | cm m => rw [(h.cm m em).2.2.2.1] at e1; cases e1
    have h1 := Rv.step_left (w := w) h.rw e1
    have h2 := Gv.left_nn h.gw
    have h3 := Rv.left_nn h.rw
    have ea : (t.acc w).1 = { t with rv := (t.rv.step w).1 } := by unfold acc; rw [if_neg (by rw [e1]; decide)]
    have eg : ({ t with rv := (t.rv.step w).1 } : Re).gl = max 9 ((t.rv.step w).1.left + t.gv.left + 10) := by unfold gl; rw [hm]
    rw [ea, eg, hm]
    show max 9 ((t.rv.step w).1.left + t.gv.left + 10) < t.rv.left + t.gv.left + 10
    have h4 := Rv.left_nn (Rv.step_wf (w := w) h.rw)
    omega
  cases e2 : t.gv.dn
  · have hm : t.md = .no := by
      cases em : t.md with
      | no => rfl
      | uo u => rw [(h.uo u em).2.2.2.2.2.1] at e2; cases e2
      | cm m => rw [(h.cm m em).2.2.2.2.2.1] at e2; cases e2
    have h1 := Gv.step_left (w := w) h.gw e2
    have h2 := Gv.left_nn h.gw
    have h3 := Rv.left_nn h.rw
    have ea : (t.acc w).1 = { t with gv := (t.gv.step w).1 } := by unfold acc; rw [if_pos e1, if_neg (by rw [e2]; decide)]
    have eg : ({ t with gv := (t.gv.step w).1 } : Re).gl = max 9 (t.rv.left + (t.gv.step w).1.left + 10) := by unfold gl; rw [hm]
    rw [ea, eg, hm]
    show max 9 (t.rv.left + (t.gv.step w).1.left + 10) < t.rv.left + t.gv.left + 10
    have h4 : (t.gv.step w).1.left < t.gv.left := h1
    have h5 := Gv.left_nn (Gv.step_wf h.gw hw.u)
    omega
  cases em : t.md with
  | no => have := (h.nx hd em e1).2; rw [e2] at this; cases this
  | uo u =>
    obtain ⟨g1, -⟩ := h.uo u em
    have ea : (t.acc w).1 = { t with md := .uo (u.step w).1 } := by unfold acc; rw [if_pos e1, if_pos e2, em]
    have eg : ({ t with md := .uo (u.step w).1 } : Re).gl = if (u.step w).1.dn then 0 else (if (u.step w).1.b.lg then (u.step w).1.b.n - (u.step w).1.i else 1) + 1 := by unfold gl; rfl
    rw [ea, eg]
    show _ < (if u.dn then 0 else if u.b.lg then u.b.n - u.i else 1 : Int) + 1
    cases hu : u.dn
    · obtain ⟨f1, f2⟩ := g1 hu
      unfold Uo.step
      simp only [hu, Bool.false_eq_true, if_false]
      cases hl : u.b.lg
      · simp
      · have := f2 hl
        simp only [if_true]
        by_cases hi : u.i = u.b.n - 1
        · simp only [hi, if_true]; omega
        · simp only [hi, if_false, hu, hl, Bool.false_eq_true, if_true]; omega
    · unfold Uo.step; simp [hu]
  | cm m =>
    have ea : (t.acc w).1 = { t with md := .cm (m.step w).1 } := by unfold acc; rw [if_pos e1, if_pos e2, em]
    have eg : ({ t with md := .cm (m.step w).1 } : Re).gl = if (m.step w).1.dn then 0 else 2 := by unfold gl; rfl
    rw [ea, eg]
    show _ < (if m.dn then 0 else 1 : Int) + 1
    cases hu : m.dn
    · unfold Cm.step
      simp only [hu, Bool.false_eq_true, if_false]
      cases hl : m.b.lg <;> simp
    · unfold Cm.step; simp [hu]
theorem step_dn (h : t.dn = true) : t.step w = (t, w) := by unfold step; rw [if_pos h]
theorem left_step {m : Int} (h : t.wf) (hw : w.of t.s) (hl : t.left ≤ max 0 m) : (t.step w).1.left ≤ max 0 (m - 1) := by
  cases hd : t.dn
  · have := step_left h hd hw; omega
  · rw [step_dn hd]
    have := left_0 hd
    show t.left ≤ _; omega
theorem new_left (s : Sh) (c a n f : Int) (hm : may s.p s.c s.m = true) : (new s c a n f).left ≤ 2 * s.m + 70 * s.p + 80 := by
  have hb := (may_iff _ _ _).1 hm
  unfold new
  split
  · have := go_left (t := raw s c a n f) ⟨rfl, rfl, Rv.new_wf .., Rv.new_of .., Gv.new_wf .., ⟨rfl, rfl⟩, fun _ g => (by cases g), fun _ g => (by cases g), fun _ => rfl⟩
    have h1 := Rv.new_left s c n f hm
    have h2 : (Gv.new s c a).left ≤ s.m + 13 := by
      unfold Gv.left
      split
      · omega
      · show s.m + 13 ≤ _; omega
    have this : (raw s c a n f).go.left ≤ max 9 ((Rv.new s c n f).left + (Gv.new s c a).left + 10) := this
    omega
  · rw [left_0 rfl]; omega
end Re
end Go.Ma
set_option linter.unusedVariables false
set_option linter.unusedSectionVars false
set_option linter.unusedSimpArgs false
namespace Go.Ma
open Go.Pl
/-- A page that is not of a block of rows. -/
def Nb (s : Sh) (ws0 : Nat → Int) (q : Int) : Prop := ¬ (okPg s q (pgAt s ws0 q) = true ∧ (pgK s q (pgAt s ws0 q) = 3 ∨ pgK s q (pgAt s ws0 q) = 4))
/-- No block is otherwise. -/
structure Kj (s : Sh) (ws0 ws : Nat → Int) : Prop where
  pg : ∀ q, 0 ≤ q → q < s.p → ¬ Nb s ws0 q → pgAt s ws q = pgAt s ws0 q
  sl : ∀ q i, 0 ≤ q → q < s.p → 0 ≤ i → i < 16 → slAt s ws q i = slAt s ws0 q i ∨ slK (slAt s ws q i) ≠ 3
namespace Kj
variable {s : Sh} {ws0 ws : Nat → Int} {c q i y : Int}
end Kj
section
variable {s : Sh} {ws0 : Nat → Int} {w : Wd}
end
namespace Sk
/-- The pages that it has are of no block. -/
def Nf (s : Sh) (ws0 : Nat → Int) (t : Sk) : Prop := t.dn = false → (∀ m, t.nw = .st m → Nb s ws0 m.p) ∧ (∀ m, t.nw = .bi m → Nb s ws0 m.p) ∧ ∀ m, t.nw = .pc m → m.fd = false
variable {s : Sh} {ws0 : Nat → Int} {w : Wd} {t : Sk}
end Sk
namespace Rn
def top (t : Rn) : Int := if t.dn then (if t.fd then t.hd + t.n else t.hd) else if t.nx ≤ 2 then t.at' else if t.nx = 3 then t.at' + 1 else if t.nx = 4 then t.i else t.hd + t.n
structure Nf (s : Sh) (ws0 : Nat → Int) (t : Rn) : Prop where
  r : ∀ q, t.hd ≤ q → q < t.top → Nb s ws0 q
  a : t.dn = false → t.nx = 2 → Nb s ws0 t.at'
variable {s : Sh} {ws0 : Nat → Int} {w : Wd} {t : Rn}
end Rn
namespace Gv
end Gv
namespace Rv
def Nf (s : Sh) (ws0 : Nat → Int) : Rv → Prop
  | .sk t => t.Nf s ws0
  | .rn t => t.Nf s ws0
  | .no => True
variable {s : Sh} {ws0 : Nat → Int} {w : Wd} {c : Int}
end Rv
namespace Uo
def Nf (s : Sh) (ws0 : Nat → Int) (b : Bk) : Prop := b.lg = true → ∀ q, b.p ≤ q → q < b.p + b.n → Nb s ws0 q
variable {s : Sh} {ws0 : Nat → Int} {w : Wd}
end Uo
namespace Re
/-- As long as it has given nothing, no block is otherwise. -/
def Kp (s : Sh) (ws0 : Nat → Int) (t : Re) (ws : Nat → Int) : Prop := t.gv.gv = true ∨ (Kj s ws0 ws ∧ t.rv.Nf s ws0 ∧ (∀ u, t.md = .uo u → Uo.Nf s ws0 u.b) ∧ ∀ m, t.md ≠ .cm m)
variable {s : Sh} {ws0 ws : Nat → Int} {w : Wd} {t : Re}
end Re
end Go.Ma
