/-
Another block in place of one, plain: the machine that reserves, gives, and commits or undoes. Conditions: none.
Over any words: what one does that reserves, and undoes, touches no block. Conditions: none.
-/
import Derived.Test.YtofcocbgamdghaaGreatMaTake
import Derived.Test.YtofcocbgamdghaaGreatMaGiveA
import Derived.Test.YtofcocbgamdghaaGreatMaBase
set_option linter.unusedVariables false
set_option linter.unusedSectionVars false
set_option linter.unusedSimpArgs false
namespace Go.Ma
open Go.Pl

/-- What follows the old block's end. -/
inductive Md where
  | no
  | uo (t : Uo)
  | cm (t : Cm)
structure Re where
  s : Sh
  c : Int
  on : Bool
  rv : Rv
  gv : Gv
  md : Md
  er : Int
  dn : Bool
namespace Re
def fin (t : Re) (e : Int) : Re := { t with er := e, dn := true }
/-- On behind an access. -/
def go (t : Re) : Re := match t.md with
  | .uo u => if u.dn then t.fin 1 else t
  | .cm m => if m.dn then t.fin 0 else t
  | .no => if t.rv.dn then (if t.rv.fd then (if t.gv.dn then (if t.gv.gv then { t with md := .cm (Cm.new t.s t.c t.rv.bk) } else { t with md := .uo (Uo.new t.s t.c t.rv.bk) }) else t) else t.fin 3) else t
def ok (s : Sh) (c a n : Int) : Bool := there s.p s.c s.m a && fine n && decide (0 ≤ status s.p s.c s.m c)
def raw (s : Sh) (c a n f : Int) : Re := ⟨s, c, true, Rv.new s c n f, Gv.new s c a, .no, 0, false⟩
def bad (s : Sh) (c : Int) : Re := ⟨s, c, false, .no, Gv.new s c 0, .no, 1, true⟩
def new (s : Sh) (c a n f : Int) : Re := if ok s c a n then (raw s c a n f).go else bad s c
/-- An access, ahead of what follows. -/
def acc (t : Re) (w : Wd) : Re × Wd :=
  if t.rv.dn then (if t.gv.dn then (match t.md with
    | .uo u => ({ t with md := .uo (u.step w).1 }, (u.step w).2)
    | .cm m => ({ t with md := .cm (m.step w).1 }, (m.step w).2)
    | .no => (t, w)) else ({ t with gv := (t.gv.step w).1 }, (t.gv.step w).2)) else ({ t with rv := (t.rv.step w).1 }, (t.rv.step w).2)
def step (t : Re) (w : Wd) : Re × Wd := if t.dn then (t, w) else ((t.acc w).1.go, (t.acc w).2)
def gave (t : Re) : Bool := t.on && t.gv.gv
def fd (t : Re) : Bool := t.dn && decide (t.er = 0) && t.rv.fd
def bk (t : Re) : Bk := if t.dn && decide (t.er = 0) then t.rv.bk else Bk.zero

/-- It fits. -/
structure wf (t : Re) : Prop where
  of : t.on = false → t.dn = true ∧ t.md = .no ∧ t.er = 1
  rw : t.rv.wf
  ro : t.rv.of t.s t.c
  gw : t.gv.wf
  gs : t.gv.s = t.s ∧ t.gv.c = t.c
  uo : ∀ u, t.md = .uo u → u.wf ∧ u.s = t.s ∧ u.c = t.c ∧ t.rv.dn = true ∧ t.rv.fd = true ∧ t.gv.dn = true ∧ t.gv.gv = false
  cm : ∀ m, t.md = .cm m → m.wf ∧ m.s = t.s ∧ m.c = t.c ∧ t.rv.dn = true ∧ t.rv.fd = true ∧ t.gv.dn = true ∧ t.gv.gv = true
  nx : t.dn = false → t.md = .no → t.rv.dn = true → t.rv.fd = true ∧ t.gv.dn = false
  g0 : t.rv.dn = false → t.gv.gv = false
/-- Behind an access: as it is ahead of what follows. -/
structure wf' (t : Re) : Prop where
  on : t.on = true
  dn : t.dn = false
  rw : t.rv.wf
  ro : t.rv.of t.s t.c
  gw : t.gv.wf
  gs : t.gv.s = t.s ∧ t.gv.c = t.c
  uo : ∀ u, t.md = .uo u → u.wf ∧ u.s = t.s ∧ u.c = t.c ∧ t.rv.dn = true ∧ t.rv.fd = true ∧ t.gv.dn = true ∧ t.gv.gv = false
  cm : ∀ m, t.md = .cm m → m.wf ∧ m.s = t.s ∧ m.c = t.c ∧ t.rv.dn = true ∧ t.rv.fd = true ∧ t.gv.dn = true ∧ t.gv.gv = true
  g0 : t.rv.dn = false → t.gv.gv = false
variable {t : Re} {w : Wd}
theorem go_wf (h : t.wf') : t.go.wf := by
  unfold go
  split
  · rename_i u e
    split
    · exact ⟨fun g => (by have g : t.on = false := g; rw [h.on] at g; cases g), h.rw, h.ro, h.gw, h.gs, h.uo, h.cm, fun g => (by cases g), h.g0⟩
    · exact ⟨fun g => (by rw [h.on] at g; cases g), h.rw, h.ro, h.gw, h.gs, h.uo, h.cm, fun _ g => (by rw [e] at g; cases g), h.g0⟩
  · rename_i m e
    split
    · exact ⟨fun g => (by have g : t.on = false := g; rw [h.on] at g; cases g), h.rw, h.ro, h.gw, h.gs, h.uo, h.cm, fun g => (by cases g), h.g0⟩
    · exact ⟨fun g => (by rw [h.on] at g; cases g), h.rw, h.ro, h.gw, h.gs, h.uo, h.cm, fun _ g => (by rw [e] at g; cases g), h.g0⟩
  · rename_i e
    split
    · rename_i e1
      split
      · rename_i e2
        split
        · rename_i e3
          split
          · rename_i e4
            refine ⟨fun g => (by have g : t.on = false := g; rw [h.on] at g; cases g), h.rw, h.ro, h.gw, h.gs, fun u g => (by cases g), fun m g => ?_, fun _ g => (by cases g), h.g0⟩
            injection g with g
            subst g
            exact ⟨Cm.new_wf _ _ _, rfl, rfl, e1, e2, e3, e4⟩
          · rename_i e4
            refine ⟨fun g => (by have g : t.on = false := g; rw [h.on] at g; cases g), h.rw, h.ro, h.gw, h.gs, fun u g => ?_, fun m g => (by cases g), fun _ g => (by cases g), h.g0⟩
            injection g with g
            subst g
            exact ⟨Uo.new_wf _ _ _, rfl, rfl, e1, e2, e3, by simpa using e4⟩
        · rename_i e3
          exact ⟨fun g => (by rw [h.on] at g; cases g), h.rw, h.ro, h.gw, h.gs, h.uo, h.cm, fun _ _ _ => ⟨e2, by simpa using e3⟩, h.g0⟩
      · exact ⟨fun g => (by have g : t.on = false := g; rw [h.on] at g; cases g), h.rw, h.ro, h.gw, h.gs, h.uo, h.cm, fun g => (by cases g), h.g0⟩
    · rename_i e1
      exact ⟨fun g => (by rw [h.on] at g; cases g), h.rw, h.ro, h.gw, h.gs, h.uo, h.cm, fun _ _ g => absurd g e1, h.g0⟩
theorem new_wf (s : Sh) (c a n f : Int) : (new s c a n f).wf := by
  unfold new
  split
  · exact go_wf ⟨rfl, rfl, Rv.new_wf .., Rv.new_of .., Gv.new_wf .., ⟨rfl, rfl⟩, fun _ g => (by cases g), fun _ g => (by cases g), fun _ => rfl⟩
  · exact ⟨fun _ => ⟨rfl, rfl, rfl⟩, trivial, trivial, Gv.new_wf .., ⟨rfl, rfl⟩, fun _ g => (by cases g), fun _ g => (by cases g), fun g => (by cases g), fun _ => rfl⟩
theorem on_of (h : t.wf) (hd : t.dn = false) : t.on = true := by
  cases e : t.on
  · rw [(h.of e).1] at hd; cases hd
  · rfl
theorem acc_wf (h : t.wf) (hd : t.dn = false) (hw : w.of t.s) : (t.acc w).1.wf' := by
  have on := on_of h hd
  unfold acc
  split
  · rename_i e1
    split
    · rename_i e2
      split
      · rename_i u e
        obtain ⟨g1, g2, g3, g4, g5, g6, g7⟩ := h.uo u e
        refine ⟨on, hd, h.rw, h.ro, h.gw, h.gs, fun x g => ?_, fun x g => (by cases g), h.g0⟩
        injection g with g
        subst g
        have hk : (u.step w).1.s = u.s ∧ (u.step w).1.c = u.c := by unfold Uo.step; split; exact ⟨rfl, rfl⟩; split; (split <;> exact ⟨rfl, rfl⟩); exact ⟨rfl, rfl⟩
        exact ⟨Uo.step_wf g1, hk.1.trans g2, hk.2.trans g3, g4, g5, g6, g7⟩
      · rename_i m e
        obtain ⟨g1, g2, g3, g4, g5, g6, g7⟩ := h.cm m e
        refine ⟨on, hd, h.rw, h.ro, h.gw, h.gs, fun x g => (by cases g), fun x g => ?_, h.g0⟩
        injection g with g
        subst g
        have hk : (m.step w).1.s = m.s ∧ (m.step w).1.c = m.c ∧ ((m.step w).1.dn = true) := by unfold Cm.step; split; (rename_i x; exact ⟨rfl, rfl, x⟩); split <;> exact ⟨rfl, rfl, rfl⟩
        exact ⟨fun g => (by rw [hk.2.2] at g; cases g), hk.1.trans g2, hk.2.1.trans g3, g4, g5, g6, g7⟩
      · exact ⟨on, hd, h.rw, h.ro, h.gw, h.gs, h.uo, h.cm, h.g0⟩
    · rename_i e2
      have hk := Gv.step_keeps (w := w) h.gw
      exact ⟨on, hd, h.rw, h.ro, Gv.step_wf h.gw hw.u, ⟨hk.1.trans h.gs.1, hk.2.1.trans h.gs.2⟩, fun u g => absurd (h.uo u g).2.2.2.2.2.1 e2, fun m g => absurd (h.cm m g).2.2.2.2.2.1 e2, fun g => (by have g : t.rv.dn = false := g; rw [e1] at g; cases g)⟩
  · rename_i e1
    have e1' : t.rv.dn = false := by simpa using e1
    exact ⟨on, hd, Rv.step_wf h.rw, Rv.step_ofs h.rw h.ro, h.gw, h.gs, fun u g => absurd (h.uo u g).2.2.2.1 e1, fun m g => absurd (h.cm m g).2.2.2.1 e1, fun _ => h.g0 e1'⟩
theorem go_k : t.go.s = t.s ∧ t.go.c = t.c ∧ t.go.on = t.on ∧ t.go.rv = t.rv ∧ t.go.gv = t.gv := by
  unfold go
  split
  · split <;> exact ⟨rfl, rfl, rfl, rfl, rfl⟩
  · split <;> exact ⟨rfl, rfl, rfl, rfl, rfl⟩
  · split
    · split
      · split
        · split <;> exact ⟨rfl, rfl, rfl, rfl, rfl⟩
        · exact ⟨rfl, rfl, rfl, rfl, rfl⟩
      · exact ⟨rfl, rfl, rfl, rfl, rfl⟩
    · exact ⟨rfl, rfl, rfl, rfl, rfl⟩
theorem acc_k : (t.acc w).1.s = t.s ∧ (t.acc w).1.c = t.c ∧ (t.acc w).1.on = t.on := by
  unfold acc
  split
  · split
    · split <;> exact ⟨rfl, rfl, rfl⟩
    · exact ⟨rfl, rfl, rfl⟩
  · exact ⟨rfl, rfl, rfl⟩
theorem step_wf (h : t.wf) (hw : t.dn = false → w.of t.s) : (t.step w).1.wf := by
  unfold step
  cases hd : t.dn
  · exact go_wf (acc_wf h hd (hw hd))
  · exact h
theorem step_k : (t.step w).1.s = t.s ∧ (t.step w).1.c = t.c ∧ (t.step w).1.on = t.on := by
  unfold step
  split
  · exact ⟨rfl, rfl, rfl⟩
  · have h1 := go_k (t := (t.acc w).1)
    have h2 := acc_k (t := t) (w := w)
    exact ⟨h1.1.trans h2.1, h1.2.1.trans h2.2.1, h1.2.2.1.trans h2.2.2⟩
theorem _root_.Go.Ma.Uo.step_of {u : Uo} {s : Sh} (h : w.of s) : (u.step w).2.of s := by
  unfold Uo.step
  split
  · exact h
  · split
    · split <;> exact Wd.of_store h U_0 _ _
    · exact Wd.of_store h (U_putSl _ _) _ _
theorem _root_.Go.Ma.Cm.step_of {u : Cm} {s : Sh} (h : w.of s) : (u.step w).2.of s := by
  unfold Cm.step
  split
  · exact h
  · split
    · exact Wd.of_store h (U_putPg _ _ _) _ _
    · exact Wd.of_store h (U_putSl _ _) _ _
theorem step_of (h : t.wf) (ho : w.of t.s) : (t.step w).2.of t.s := by
  unfold step
  cases hd : t.dn
  rotate_left
  · exact ho
  show (t.acc w).2.of t.s
  unfold acc
  split
  · split
    · split
      · exact Uo.step_of ho
      · exact Cm.step_of ho
      · exact ho
    · rw [← h.gs.1] at ho ⊢; exact Gv.step_of h.gw ho
  · exact Rv.step_of h.rw ho
/-- How many accesses it has left, at most. -/
def left (t : Re) : Int := if t.dn then 0 else match t.md with
  | .no => t.rv.left + t.gv.left + 10
  | .uo u => (if u.dn then 0 else if u.b.lg then u.b.n - u.i else 1) + 1
  | .cm m => (if m.dn then 0 else 1) + 1
theorem uo_left {u : Uo} (h : u.wf) : 0 ≤ (if u.dn then 0 else if u.b.lg then u.b.n - u.i else 1 : Int) ∧ (if u.dn then 0 else if u.b.lg then u.b.n - u.i else 1 : Int) ≤ 8 := by
  cases hd : u.dn
  · obtain ⟨h1, h2⟩ := h hd
    simp only [Bool.false_eq_true, if_false]
    cases hl : u.b.lg
    · simp
    · have := h2 hl; have := h1.l hl; simp; omega
  · simp
theorem left_nn (h : t.wf) : 0 ≤ t.left := by
  unfold left
  split
  · omega
  · split
    · have := Rv.left_nn h.rw; have := Gv.left_nn h.gw; omega
    · rename_i u e
      have := uo_left (h.uo u e).1; omega
    · rename_i m e
      split <;> omega
theorem left_dn (h : t.wf) (hl : t.left ≤ 0) : t.dn = true := by
  cases hd : t.dn
  · unfold left at hl
    rw [if_neg (by rw [hd]; decide)] at hl
    split at hl
    · have := Rv.left_nn h.rw; have := Gv.left_nn h.gw; omega
    · rename_i u e
      have := uo_left (h.uo u e).1; omega
    · split at hl <;> omega
  · rfl
theorem left_0 (h : t.dn = true) : t.left = 0 := by unfold left; rw [if_pos h]
def gl (t : Re) : Int := match t.md with
  | .no => max 9 (t.rv.left + t.gv.left + 10)
  | .uo u => if u.dn then 0 else (if u.b.lg then u.b.n - u.i else 1) + 1
  | .cm m => if m.dn then 0 else 2
/-- What follows takes no more than what is there. -/
theorem go_left (h : t.wf') : t.go.left ≤ t.gl := by
  cases e : t.md with
  | uo u =>
    have eg : t.gl = if u.dn then 0 else (if u.b.lg then u.b.n - u.i else 1) + 1 := by unfold gl; rw [e]
    rw [eg]
    have e1 : t.go = if u.dn then t.fin 1 else t := by unfold go; rw [e]
    rw [e1]
    cases e2 : u.dn
    · simp only [Bool.false_eq_true, if_false]; unfold left; rw [if_neg (by rw [h.dn]; decide), e]
      show (if u.dn then 0 else if u.b.lg then u.b.n - u.i else 1 : Int) + 1 ≤ _
      rw [e2]; simp
    · simp only [if_true]; rw [left_0 rfl]; omega
  | cm u =>
    have eg : t.gl = if u.dn then 0 else 2 := by unfold gl; rw [e]
    rw [eg]
    have e1 : t.go = if u.dn then t.fin 0 else t := by unfold go; rw [e]
    rw [e1]
    cases e2 : u.dn
    · simp only [Bool.false_eq_true, if_false]; unfold left; rw [if_neg (by rw [h.dn]; decide), e]
      show (if u.dn then 0 else 1 : Int) + 1 ≤ _
      rw [e2]; simp
    · simp only [if_true]; rw [left_0 rfl]; omega
  | no =>
    have eg : t.gl = max 9 (t.rv.left + t.gv.left + 10) := by unfold gl; rw [e]
    rw [eg]
    have e1 : t.go = if t.rv.dn then (if t.rv.fd then (if t.gv.dn then (if t.gv.gv then { t with md := .cm (Cm.new t.s t.c t.rv.bk) } else { t with md := .uo (Uo.new t.s t.c t.rv.bk) }) else t) else t.fin 3) else t := by unfold go; rw [e]
    rw [e1]
    have h1 := Rv.left_nn h.rw
    have h2 := Gv.left_nn h.gw
    have hs : t.left ≤ max 9 (t.rv.left + t.gv.left + 10) := by
      unfold left; rw [if_neg (by rw [h.dn]; decide), e]; show t.rv.left + t.gv.left + 10 ≤ _; omega
    split
    · split
      · split
        · split
          · show (if t.dn then 0 else (if (Cm.new t.s t.c t.rv.bk).dn then 0 else 1) + 1 : Int) ≤ _
            rw [if_neg (by rw [h.dn]; decide)]
            split <;> omega
          · show (if t.dn then 0 else (if (Uo.new t.s t.c t.rv.bk).dn then 0 else if (Uo.new t.s t.c t.rv.bk).b.lg then (Uo.new t.s t.c t.rv.bk).b.n - (Uo.new t.s t.c t.rv.bk).i else 1) + 1 : Int) ≤ _
            rw [if_neg (by rw [h.dn]; decide)]
            have := uo_left (Uo.new_wf t.s t.c t.rv.bk)
            omega
        · exact hs
      · rw [left_0 rfl]; omega
    · exact hs
theorem step_left (h : t.wf) (hd : t.dn = false) (hw : w.of t.s) : (t.step w).1.left < t.left := by
  have hg := go_left (acc_wf h hd hw)
  have e : (t.step w).1 = (t.acc w).1.go := by unfold step; rw [hd]; rfl
  rw [e]
  refine Int.lt_of_le_of_lt hg ?_
  have hl : t.left = (match t.md with
    | .no => t.rv.left + t.gv.left + 10
    | .uo u => (if u.dn then 0 else if u.b.lg then u.b.n - u.i else 1) + 1
    | .cm m => (if m.dn then 0 else 1) + 1) := by unfold left; rw [if_neg (by rw [hd]; decide)]
  rw [hl]
  cases e1 : t.rv.dn
  · have hm : t.md = .no := by
      cases em : t.md with
      | no => rfl
      | uo u => rw [(h.uo u em).2.2.2.1] at e1; cases e1
      | cm m => rw [(h.cm m em).2.2.2.1] at e1; cases e1
    have h1 := Rv.step_left (w := w) h.rw e1
    have h2 := Gv.left_nn h.gw
    have h3 := Rv.left_nn h.rw
    have ea : (t.acc w).1 = { t with rv := (t.rv.step w).1 } := by unfold acc; rw [if_neg (by rw [e1]; decide)]
    have eg : ({ t with rv := (t.rv.step w).1 } : Re).gl = max 9 ((t.rv.step w).1.left + t.gv.left + 10) := by unfold gl; rw [hm]
    rw [ea, eg, hm]
    show max 9 ((t.rv.step w).1.left + t.gv.left + 10) < t.rv.left + t.gv.left + 10
    have h4 := Rv.left_nn (Rv.step_wf (w := w) h.rw)
    omega
  cases e2 : t.gv.dn
  · have hm : t.md = .no := by
      cases em : t.md with
      | no => rfl
      | uo u => rw [(h.uo u em).2.2.2.2.2.1] at e2; cases e2
      | cm m => rw [(h.cm m em).2.2.2.2.2.1] at e2; cases e2
    have h1 := Gv.step_left (w := w) h.gw e2
    have h2 := Gv.left_nn h.gw
    have h3 := Rv.left_nn h.rw
    have ea : (t.acc w).1 = { t with gv := (t.gv.step w).1 } := by unfold acc; rw [if_pos e1, if_neg (by rw [e2]; decide)]
    have eg : ({ t with gv := (t.gv.step w).1 } : Re).gl = max 9 (t.rv.left + (t.gv.step w).1.left + 10) := by unfold gl; rw [hm]
    rw [ea, eg, hm]
    show max 9 (t.rv.left + (t.gv.step w).1.left + 10) < t.rv.left + t.gv.left + 10
    have h4 : (t.gv.step w).1.left < t.gv.left := h1
    have h5 := Gv.left_nn (Gv.step_wf h.gw hw.u)
    omega
  cases em : t.md with
  | no => have := (h.nx hd em e1).2; rw [e2] at this; cases this
  | uo u =>
    obtain ⟨g1, -⟩ := h.uo u em
    have ea : (t.acc w).1 = { t with md := .uo (u.step w).1 } := by unfold acc; rw [if_pos e1, if_pos e2, em]
    have eg : ({ t with md := .uo (u.step w).1 } : Re).gl = if (u.step w).1.dn then 0 else (if (u.step w).1.b.lg then (u.step w).1.b.n - (u.step w).1.i else 1) + 1 := by unfold gl; rfl
    rw [ea, eg]
    show _ < (if u.dn then 0 else if u.b.lg then u.b.n - u.i else 1 : Int) + 1
    cases hu : u.dn
    · obtain ⟨f1, f2⟩ := g1 hu
      unfold Uo.step
      simp only [hu, Bool.false_eq_true, if_false]
      cases hl : u.b.lg
      · simp
      · have := f2 hl
        simp only [if_true]
        by_cases hi : u.i = u.b.n - 1
        · simp only [hi, if_true]; omega
        · simp only [hi, if_false, hu, hl, Bool.false_eq_true, if_true]; omega
    · unfold Uo.step; simp [hu]
  | cm m =>
    have ea : (t.acc w).1 = { t with md := .cm (m.step w).1 } := by unfold acc; rw [if_pos e1, if_pos e2, em]
    have eg : ({ t with md := .cm (m.step w).1 } : Re).gl = if (m.step w).1.dn then 0 else 2 := by unfold gl; rfl
    rw [ea, eg]
    show _ < (if m.dn then 0 else 1 : Int) + 1
    cases hu : m.dn
    · unfold Cm.step
      simp only [hu, Bool.false_eq_true, if_false]
      cases hl : m.b.lg <;> simp
    · unfold Cm.step; simp [hu]
theorem step_dn (h : t.dn = true) : t.step w = (t, w) := by unfold step; rw [if_pos h]
theorem left_step {m : Int} (h : t.wf) (hw : w.of t.s) (hl : t.left ≤ max 0 m) : (t.step w).1.left ≤ max 0 (m - 1) := by
  cases hd : t.dn
  · have := step_left h hd hw; omega
  · rw [step_dn hd]
    have := left_0 hd
    show t.left ≤ _; omega
theorem new_left (s : Sh) (c a n f : Int) (hm : may s.p s.c s.m = true) : (new s c a n f).left ≤ 2 * s.m + 70 * s.p + 80 := by
  have hb := (may_iff _ _ _).1 hm
  unfold new
  split
  · have := go_left (t := raw s c a n f) ⟨rfl, rfl, Rv.new_wf .., Rv.new_of .., Gv.new_wf .., ⟨rfl, rfl⟩, fun _ g => (by cases g), fun _ g => (by cases g), fun _ => rfl⟩
    have h1 := Rv.new_left s c n f hm
    have h2 : (Gv.new s c a).left ≤ s.m + 13 := by
      unfold Gv.left
      split
      · omega
      · show s.m + 13 ≤ _; omega
    have this : (raw s c a n f).go.left ≤ max 9 ((Rv.new s c n f).left + (Gv.new s c a).left + 10) := this
    omega
  · rw [left_0 rfl]; omega
end Re
end Go.Ma
set_option linter.unusedVariables false
set_option linter.unusedSectionVars false
set_option linter.unusedSimpArgs false
namespace Go.Ma
open Go.Pl
/-- A page that is not of a block of rows. -/
def Nb (s : Sh) (ws0 : Nat → Int) (q : Int) : Prop := ¬ (okPg s q (pgAt s ws0 q) = true ∧ (pgK s q (pgAt s ws0 q) = 3 ∨ pgK s q (pgAt s ws0 q) = 4))
/-- No block is otherwise. -/
structure Kj (s : Sh) (ws0 ws : Nat → Int) : Prop where
  pg : ∀ q, 0 ≤ q → q < s.p → ¬ Nb s ws0 q → pgAt s ws q = pgAt s ws0 q
  sl : ∀ q i, 0 ≤ q → q < s.p → 0 ≤ i → i < 16 → slAt s ws q i = slAt s ws0 q i ∨ slK (slAt s ws q i) ≠ 3
theorem slK_put {k a : Int} (h : k ≠ 3) : slK (putSl k a) ≠ 3 := by
  unfold slK putSl
  split <;> split <;> omega
theorem slK_0 : slK 0 ≠ 3 := by decide
namespace Kj
variable {s : Sh} {ws0 ws : Nat → Int} {c q i y : Int}
theorem refl (s : Sh) (ws : Nat → Int) : Kj s ws ws := ⟨fun _ _ _ _ => rfl, fun _ _ _ _ _ _ => .inl rfl⟩
theorem mag (hm : may s.p s.c s.m = true) (h : Kj s ws0 ws) (c0 : 0 ≤ c) (c1 : c < s.c) (i0 : 0 ≤ i) (i1 : i < s.m) : Kj s ws0 (upW ws (mag s.p s.c s.m c i) y) :=
  ⟨fun q a b g => by rw [pg_mg hm c0 c1 i0 i1 a b]; exact h.pg q a b g, fun q j a b a' b' => by rw [sl_mg hm c0 c1 i0 i1 a b a' b']; exact h.sl q j a b a' b'⟩
theorem slot (hm : may s.p s.c s.m = true) (h : Kj s ws0 ws) (q0 : 0 ≤ q) (q1 : q < s.p) (i0 : 0 ≤ i) (i1 : i < 16) (hy : slK y ≠ 3) : Kj s ws0 (upW ws (slot s.p s.c s.m q i) y) :=
  ⟨fun q' a b g => by rw [pg_sl hm q0 q1 i0 i1 a b]; exact h.pg q' a b g, fun q' j a b a' b' => by
    rw [sl_sl hm q0 q1 i0 i1 a a' b']
    split
    · exact .inr hy
    · exact h.sl q' j a b a' b'⟩
theorem page (hm : may s.p s.c s.m = true) (h : Kj s ws0 ws) (q0 : 0 ≤ q) (q1 : q < s.p) (hq : Nb s ws0 q) : Kj s ws0 (upW ws (page s.p s.c s.m q) y) :=
  ⟨fun q' a b g => by
    rw [pg_pg hm q0 q1 a b]
    split
    · rename_i e; rw [e] at g; exact absurd hq g
    · exact h.pg q' a b g, fun q' j a b a' b' => by rw [sl_pg hm q0 q1 a a']; exact h.sl q' j a b a' b'⟩
/-- A page whose word is another kind's is none. -/
theorem nb (h : Kj s ws0 ws) (q0 : 0 ≤ q) (q1 : q < s.p) (hk : okPg s q (pgAt s ws q) = true → pgK s q (pgAt s ws q) ≠ 3 ∧ pgK s q (pgAt s ws q) ≠ 4) : Nb s ws0 q := fun g => by
  have e := h.pg q q0 q1 (fun n => n g)
  rw [e] at hk
  have := hk g.1
  rcases g.2 with g | g <;> omega
end Kj
section
variable {s : Sh} {ws0 : Nat → Int} {w : Wd}
theorem Tk.kj {t : Tk} (ht : t.wf) (hs : t.s = s) (h : Kj s ws0 w.ws) : Kj s ws0 (t.step w).2.ws := by
  cases hd : t.dn
  · obtain ⟨hm, c0, c1, i0, i1⟩ := ht.of hd
    rw [hs] at hm c1 i1
    have hat : t.at' = mag s.p s.c s.m t.c t.i := by unfold Tk.at'; rw [hs]
    unfold Tk.step
    rw [if_neg (by rw [hd]; decide)]
    split
    · rw [store_ws, hat]; exact h.mag hm c0 c1 i0 i1
    · split <;> exact h
  · unfold Tk.step; rw [if_pos hd]; exact h
theorem Sc.kj {t : Sc} (ht : t.wf) (hs : t.s = s) (h : Kj s ws0 w.ws) : Kj s ws0 (t.step w).2.ws := by
  cases hd : t.dn
  · obtain ⟨hm, c0, c1, f0, f1, m0, m1, i0, i1, -⟩ := ht.of hd
    rw [hs] at hm f1 m1
    have hb := slots_bd t.k
    have hq : 0 ≤ t.pg ∧ t.pg < s.p := by unfold Sc.pg; rw [hs]; exact mod_bd (by omega)
    have hat : t.at' = slot s.p s.c s.m t.pg t.i := by unfold Sc.at'; rw [hs]
    unfold Sc.step
    rw [if_neg (by rw [hd]; decide)]
    split
    · exact h
    · split
      · exact h
      · show Kj s ws0 (w.swap t.c t.at' (opn t.k) (way t.c)).ws
        by_cases e : w.get t.at' = opn t.k
        · rw [swap_yes e, hat]; exact h.slot hm hq.1 hq.2 i0 (by omega) (slK_put (by decide))
        · rw [swap_no e]; exact h
  · unfold Sc.step; rw [if_pos hd]; exact h
theorem Pc.kj {t : Pc} (ht : t.wf) (hs : t.s = s) (h : Kj s ws0 w.ws) (hnf : t.dn = false → t.fd = false) (hf : t.fd = true → Nb s ws0 t.pg) : Kj s ws0 (t.step w).2.ws ∧ ((t.step w).1.fd = true → Nb s ws0 (t.step w).1.pg) := by
  cases hd : t.dn
  · obtain ⟨hm, c0, c1, f0, f1, m0, m1⟩ := ht.of hd
    rw [hs] at hm f1 m1
    have hq : 0 ≤ t.pg ∧ t.pg < s.p := by unfold Pc.pg; rw [hs]; exact mod_bd (by omega)
    have hat : t.at' = page s.p s.c s.m t.pg := by unfold Pc.at'; rw [hs]
    have none : w.get t.at' = 0 → Nb s ws0 t.pg := fun e => by
      have e : pgAt s w.ws t.pg = 0 := by rw [hat] at e; exact e
      refine h.nb hq.1 hq.2 fun _ => ?_
      rw [e]; unfold pgK; split <;> omega
    have nf : t.next.fd = true → Nb s ws0 t.next.pg := fun g => by have g : t.fd = true := g; rw [hnf hd] at g; cases g
    unfold Pc.step
    rw [if_neg (by rw [hd]; decide)]
    split
    · by_cases e : w.get t.at' = 0
      · rw [if_pos e]
        refine ⟨?_, fun _ => none e⟩
        show Kj s ws0 (w.swap t.c t.at' 0 (held t.c)).ws
        rw [swap_yes e, hat]; exact h.page hm hq.1 hq.2 (none e)
      · rw [if_neg e]
        refine ⟨?_, nf⟩
        show Kj s ws0 (w.swap t.c t.at' 0 (held t.c)).ws
        rw [swap_no e]; exact h
    · split
      · exact ⟨h, hf⟩
      · exact ⟨h, nf⟩
  · unfold Pc.step; rw [if_pos hd]; exact ⟨h, hf⟩
theorem St.kj {t : St} (ht : t.wf) (hs : t.s = s) (h : Kj s ws0 w.ws) (hp : Nb s ws0 t.p) : Kj s ws0 (t.step w).2.ws := by
  cases hd : t.dn
  · obtain ⟨hm, c0, c1, p0, p1, k0, i0, i1, hb⟩ := ht.of hd
    rw [hs] at hm p1
    have hsl := slots_bd t.k
    have hat : ∀ i, t.at' i = slot s.p s.c s.m t.p i := fun i => by unfold St.at'; rw [hs]
    have hpat : t.pat = page s.p s.c s.m t.p := by unfold St.pat; rw [hs]
    unfold St.step
    rw [if_neg (by rw [hd]; decide)]
    split
    · rename_i e
      have := hb e
      rw [store_ws, hat]; exact h.slot hm p0 p1 (by omega) (by omega) (slK_put (by decide))
    · split
      · rw [store_ws, hpat]; exact h.page hm p0 p1 hp
      · show Kj s ws0 (w.swap t.c (t.at' t.i) (opn t.k) (way t.c)).ws
        by_cases e : w.get (t.at' t.i) = opn t.k
        · rw [swap_yes e, hat]; exact h.slot hm p0 p1 i0 (by omega) (slK_put (by decide))
        · rw [swap_no e]; exact h
  · unfold St.step; rw [if_pos hd]; exact h
theorem Bi.kj {t : Bi} (ht : t.wf) (hs : t.s = s) (h : Kj s ws0 w.ws) (hp : Nb s ws0 t.p) : Kj s ws0 (t.step w).2.ws := by
  cases hd : t.dn
  · obtain ⟨hm, c0, c1, p0, p1, k0, i0, i1, hb⟩ := ht.of hd
    rw [hs] at hm p1
    have hsl := slots_bd t.k
    have hat : t.at' = slot s.p s.c s.m t.p t.i := by unfold Bi.at'; rw [hs]
    have hpat : t.pat = page s.p s.c s.m t.p := by unfold Bi.pat; rw [hs]
    unfold Bi.step
    rw [if_neg (by rw [hd]; decide)]
    split
    · rename_i e
      have := hb e
      rw [store_ws, hat]; exact h.slot hm p0 p1 (by omega) (by omega) (slK_put (by decide))
    · split
      · rw [store_ws, hpat]; exact h.page hm p0 p1 hp
      · rw [store_ws, hat]
        refine h.slot hm p0 p1 i0 (by omega) ?_
        split
        · exact slK_put (by decide)
        · exact slK_0
  · unfold Bi.step; rw [if_pos hd]; exact h
end
namespace Sk
/-- The pages that it has are of no block. -/
def Nf (s : Sh) (ws0 : Nat → Int) (t : Sk) : Prop := t.dn = false → (∀ m, t.nw = .st m → Nb s ws0 m.p) ∧ (∀ m, t.nw = .bi m → Nb s ws0 m.p) ∧ ∀ m, t.nw = .pc m → m.fd = false
variable {s : Sh} {ws0 : Nat → Int} {w : Wd} {t : Sk}
theorem kj (ht : t.wf) (hs : t.s = s) (h : Kj s ws0 w.ws) (hf : t.Nf s ws0) : Kj s ws0 (t.step w).2.ws ∧ (t.step w).1.Nf s ws0 := by
  rcases step_cases t w with ⟨hd, e⟩ | ⟨hd, hc⟩
  · rw [e]; exact ⟨h, hf⟩
  obtain ⟨ok, nd⟩ := ht.nw hd
  obtain ⟨f1, f2, f3⟩ := hf hd
  have fin : ∀ (u : Sk) (p i : Int), (u.fin p i).Nf s ws0 := fun u p i g => by cases g
  have bind : ∀ (u : Sk) (p : Int), Nb s ws0 p → (u.bind p).Nf s ws0 := fun u p hp _ => ⟨fun m g => (by cases g), fun m g => (by injection g with g; subst g; exact hp), fun m g => (by cases g)⟩
  have turn : ∀ (u : Sk), u.turn.Nf s ws0 := fun u _ => ⟨fun m g => (by cases g), fun m g => (by cases g), fun m g => (by cases g)⟩
  rcases hc with ⟨m, en, e⟩ | ⟨m, en, e⟩ | ⟨m, en, e⟩ | ⟨en, e⟩ | ⟨m, en, e⟩ | ⟨m, en, e⟩ <;> rw [e] <;> (try rw [en] at ok nd)
  · obtain ⟨o1, o2, -⟩ := ok
    refine ⟨Tk.kj o1 (o2.trans hs) h, ?_⟩
    unfold set
    split
    · show (if (m.step w).1.fd then _ else _ : Sk).Nf s ws0
      split
      · exact fin _ _ _
      · exact fun _ => ⟨fun m g => (by cases g), fun m g => (by cases g), fun m g => (by cases g)⟩
    · exact fun _ => ⟨fun m g => (by cases g), fun m g => (by cases g), fun m g => (by cases g)⟩
  · obtain ⟨o1, o2, -⟩ := ok
    refine ⟨Sc.kj o1 (o2.trans hs) h, ?_⟩
    unfold set
    split
    · show (if (m.step w).1.fd then _ else _ : Sk).Nf s ws0
      split
      · exact fin _ _ _
      · exact fun _ => ⟨fun m g => (by cases g), fun m g => (by cases g), fun m g => (by injection g with g; subst g; rfl)⟩
    · exact fun _ => ⟨fun m g => (by cases g), fun m g => (by cases g), fun m g => (by cases g)⟩
  · obtain ⟨o1, o2, -, -, -, o6, -⟩ := ok
    have nd : m.dn = false := nd
    obtain ⟨k1, k2⟩ := Pc.kj o1 (o2.trans hs) h o6 fun g => (by rw [o6 nd] at g; cases g)
    refine ⟨k1, ?_⟩
    unfold set
    split
    · show (if (m.step w).1.fd then _ else _ : Sk).Nf s ws0
      split
      · rename_i e2; exact bind _ _ (k2 e2)
      · exact fun _ => ⟨fun m g => (by cases g), fun m g => (by cases g), fun m g => (by cases g)⟩
    · rename_i e2
      refine fun _ => ⟨fun m g => (by cases g), fun m g => (by cases g), fun x g => ?_⟩
      injection g with g
      subst g
      exact Pc.step_fd o6 (by have e2 : ¬ (m.step w).1.dn = true := e2; simpa using e2)
  · refine ⟨h, ?_⟩
    unfold look
    split
    · rename_i e2
      obtain ⟨c1, c2, c3, c4, c5, c6, c7, c8⟩ := ht.of hd
      refine fun _ => ⟨fun m g => ?_, fun m g => (by cases g), fun m g => (by cases g)⟩
      injection g with g
      subst g
      unfold isSup at e2
      simp only [Bool.and_eq_true, decide_eq_true_eq] at e2
      rw [hs] at e2
      have hh : 0 ≤ t.here ∧ t.here < s.p := by unfold here; rw [hs]; exact mod_bd (by rw [hs] at c6; omega)
      have hg : w.get t.pat = pgAt s w.ws t.here := by unfold pat; rw [hs]; rfl
      rw [hg] at e2
      show Nb s ws0 t.here
      exact h.nb hh.1 hh.2 fun _ => by rw [e2.2]; omega
    · exact turn t
  · obtain ⟨o1, o2, -, o4, o5⟩ := ok
    have hp := f1 m en
    refine ⟨St.kj o1 (o2.trans hs) h hp, ?_⟩
    have hsp : (m.step w).1.p = m.p := St.step_p
    unfold set
    split
    · show (if (m.step w).1.hd then _ else _ : Sk).Nf s ws0
      split
      · exact bind _ _ (by show Nb s ws0 t.here; rw [← o4]; exact hp)
      · exact turn _
    · refine fun _ => ⟨fun x g => ?_, fun m g => (by cases g), fun m g => (by cases g)⟩
      injection g with g
      subst g
      rw [hsp]; exact hp
  · obtain ⟨o1, o2, -⟩ := ok
    have hp := f2 m en
    refine ⟨Bi.kj o1 (o2.trans hs) h hp, ?_⟩
    unfold set
    split
    · exact fin _ _ _
    · refine fun _ => ⟨fun m g => (by cases g), fun x g => ?_, fun m g => (by cases g)⟩
      injection g with g
      subst g
      rw [Bi.step_p]; exact hp
end Sk
namespace Rn
def top (t : Rn) : Int := if t.dn then (if t.fd then t.hd + t.n else t.hd) else if t.nx ≤ 2 then t.at' else if t.nx = 3 then t.at' + 1 else if t.nx = 4 then t.i else t.hd + t.n
structure Nf (s : Sh) (ws0 : Nat → Int) (t : Rn) : Prop where
  r : ∀ q, t.hd ≤ q → q < t.top → Nb s ws0 q
  a : t.dn = false → t.nx = 2 → Nb s ws0 t.at'
variable {s : Sh} {ws0 : Nat → Int} {w : Wd} {t : Rn}
theorem top_dn (h : t.dn = true) : t.top = if t.fd then t.hd + t.n else t.hd := by unfold top; rw [if_pos h]
theorem top_lo (h : t.dn = false) (hx : t.nx ≤ 2) : t.top = t.at' := by unfold top; rw [if_neg (by rw [h]; decide), if_pos hx]
theorem top_3 (h : t.dn = false) (hx : t.nx = 3) : t.top = t.at' + 1 := by unfold top; rw [if_neg (by rw [h]; decide), if_neg (by omega), if_pos hx]
theorem top_4 (h : t.dn = false) (hx : t.nx = 4) : t.top = t.i := by unfold top; rw [if_neg (by rw [h]; decide), if_neg (by omega), if_neg (by omega), if_pos hx]
theorem top_5 (h : t.dn = false) (hx : t.nx = 5) : t.top = t.hd + t.n := by unfold top; rw [if_neg (by rw [h]; decide), if_neg (by omega), if_neg (by omega), if_neg (by omega)]
theorem nf_written (hd : t.dn = false) (hx : t.nx = 5) (h : ∀ q, t.hd ≤ q → q < t.hd + t.n → Nb s ws0 q) : t.written.Nf s ws0 := by
  unfold written
  split
  · refine ⟨fun q a b => ?_, fun g => (by cases g)⟩
    rw [top_dn rfl] at b
    exact h q a b
  · refine ⟨fun q a b => ?_, fun _ g => (by have g : t.nx = 2 := g; omega)⟩
    rw [top_5 (t := { t with i := t.i + 1 }) hd hx] at b
    exact h q a b
theorem nf_own (hd : t.dn = false) (h : ∀ q, t.hd ≤ q → q < t.at' + 1 → Nb s ws0 q) : t.own.Nf s ws0 := by
  unfold own
  split
  · rename_i e
    exact nf_written (t := { t with at' := t.at' + 1, nx := 5, i := t.hd }) hd rfl fun q a b => h q a (by have b : q < t.hd + t.n := b; omega)
  · refine ⟨fun q a b => ?_, fun _ g => (by cases g)⟩
    rw [top_lo (t := { t with at' := t.at' + 1, nx := 0 }) hd (by show (0 : Int) ≤ 2; decide)] at b
    exact h q a b
theorem nf_gone (hd : t.dn = false) (hf : t.fd = false) (hx : t.nx = 4) (h : ∀ q, t.hd ≤ q → q < t.i → Nb s ws0 q) : t.gone.Nf s ws0 := by
  unfold gone
  split
  · refine ⟨fun q a b => ?_, fun _ g => (by omega)⟩
    rw [top_4 hd hx] at b
    exact h q a b
  · refine ⟨fun q a b => ?_, fun _ g => (by cases g)⟩
    have b1 : ({ t with at' := t.at' + 1, hd := t.at' + 1, nx := 0, dn := decide (t.s.p - t.n < t.at' + 1) } : Rn).top = t.at' + 1 := by
      cases g : decide (t.s.p - t.n < t.at' + 1)
      · rw [top_lo rfl (by show (0 : Int) ≤ 2; decide)]
      · rw [top_dn rfl]; show (if t.fd then _ else _ : Int) = _; rw [hf]; rfl
    rw [b1] at b
    have a : t.at' + 1 ≤ q := a
    omega
theorem nf_miss (hd : t.dn = false) (hf : t.fd = false) (h : ∀ q, t.hd ≤ q → q < t.at' → Nb s ws0 q) : t.miss.Nf s ws0 :=
  nf_gone (t := { t with nx := 4, i := t.at', gx := t.at' + 1 }) hd hf rfl h
theorem kj (ht : t.wf) (hs : t.s = s) (h : Kj s ws0 w.ws) (hf : t.Nf s ws0) : Kj s ws0 (t.step w).2.ws ∧ (t.step w).1.Nf s ws0 := by
  rcases step_cases ht w with ⟨hd, e⟩ | ⟨hd, hc⟩
  · rw [e]; exact ⟨h, hf⟩
  obtain ⟨hm, hfd, ar⟩ := ht.of hd
  unfold Ar at ar
  rw [hs] at ar hm
  have hb := (may_iff _ _ _).1 hm
  obtain ⟨-, -, n1, n8, h0, h1, a0, x0, x5, ar4, ar3, ar4', ar5⟩ := ar
  have hpat : t.pat = page s.p s.c s.m t.at' := by unfold pat; rw [hs]
  have hg : w.get t.pat = pgAt s w.ws t.at' := by rw [hpat]; rfl
  have hr := hf.r
  rcases hc with ⟨hn, e⟩ | ⟨hn, e⟩ | ⟨hn, q, hq, hqw, hqd, hqs, hqc, hqp, e⟩ | ⟨hn, e⟩ | ⟨hn, e⟩ | ⟨hn, e⟩ <;> rw [e]
  · rw [top_lo hd (by omega)] at hr
    have a1 := ar4 (by omega)
    refine ⟨h, ?_⟩
    show (t.look (w.get t.pat)).Nf s ws0
    unfold look
    split
    · refine ⟨fun q a b => ?_, fun _ g => (by cases g)⟩
      rw [top_lo (t := { t with nx := 1 }) hd (by show (1 : Int) ≤ 2; decide)] at b
      exact hr q a b
    · split
      · rename_i e2
        unfold isS at e2
        simp only [Bool.and_eq_true, decide_eq_true_eq] at e2
        rw [hs, hg] at e2
        refine ⟨fun q a b => ?_, fun _ _ => (show Nb s ws0 t.at' from h.nb (by omega) (by omega) fun _ => by rw [e2.2]; omega)⟩
        rw [top_lo (t := { t with nx := 2, st := some (t.snew (w.get t.pat)) }) hd (by show (2 : Int) ≤ 2; decide)] at b
        exact hr q a b
      · exact nf_miss hd hfd hr
  · rw [top_lo hd (by omega)] at hr
    have a1 := ar4 (by omega)
    show Kj s ws0 (w.swap t.c t.pat 0 (held t.c)).ws ∧ (t.claim (w.get t.pat)).Nf s ws0
    unfold claim
    by_cases e2 : w.get t.pat = 0
    · rw [if_pos e2, swap_yes e2, hpat]
      have hz : pgAt s w.ws t.at' = 0 := by rw [← hg]; exact e2
      have hnb : Nb s ws0 t.at' := h.nb (by omega) (by omega) fun _ => by rw [hz]; unfold pgK; split <;> omega
      refine ⟨h.page hm (by omega) (by omega) hnb, nf_own hd fun q a b => ?_⟩
      by_cases e3 : q = t.at'
      · rw [e3]; exact hnb
      · exact hr q a (by omega)
    · rw [if_neg e2, swap_no e2]
      exact ⟨h, nf_miss hd hfd hr⟩
  · have hnb := hf.a hd hn
    rw [top_lo hd (by omega)] at hr
    refine ⟨St.kj hqw (hqs.trans hs) h (by rw [hqp]; exact hnb), ?_⟩
    show (t.outs (q.step w).1).Nf s ws0
    unfold outs
    split
    · refine ⟨fun q a b => ?_, fun _ g => (by cases g)⟩
      rw [top_3 (t := { t with st := some (St.step _ w).1, nx := 3, i := 0 }) hd rfl] at b
      by_cases e3 : q = t.at'
      · rw [e3]; exact hnb
      · exact hr q a (by have b : q < t.at' + 1 := b; omega)
    · split
      · exact nf_miss (t := { t with st := some (St.step _ w).1 }) hd hfd hr
      · refine ⟨fun q a b => ?_, fun _ _ => hnb⟩
        rw [top_lo (t := { t with st := some (St.step _ w).1 }) hd (by show t.nx ≤ 2; omega)] at b
        exact hr q a b
  · have a1 := ar4 (by omega)
    obtain ⟨i0, i1⟩ := ar3 hn
    rw [top_3 hd hn] at hr
    have hsat : t.sat = slot s.p s.c s.m t.at' t.i := by unfold sat; rw [hs]
    show Kj s ws0 (w.store t.c t.sat 0).ws ∧ t.clear.Nf s ws0
    rw [store_ws, hsat]
    refine ⟨h.slot hm (by omega) (by omega) i0 i1 slK_0, ?_⟩
    unfold clear
    split
    · exact nf_own (t := { t with i := t.i + 1 }) hd hr
    · refine ⟨fun q a b => ?_, fun _ g => (by have g : t.nx = 2 := g; omega)⟩
      rw [top_3 (t := { t with i := t.i + 1 }) hd hn] at b
      exact hr q a b
  · have a1 := ar4 (by omega)
    obtain ⟨i0, i1, -⟩ := ar4' hn
    rw [top_4 hd hn] at hr
    have hbat : t.bat = page s.p s.c s.m (t.i - 1) := by unfold bat; rw [hs]
    show Kj s ws0 (w.store t.c t.bat 0).ws ∧ ({ t with i := t.i - 1 } : Rn).gone.Nf s ws0
    rw [store_ws, hbat]
    exact ⟨h.page hm (by omega) (by omega) (hr _ (by omega) (by omega)), nf_gone (t := { t with i := t.i - 1 }) hd hfd hn fun q a b => hr q a (by have b : q < t.i - 1 := b; omega)⟩
  · obtain ⟨e5, i0, i1⟩ := ar5 hn
    rw [top_5 hd hn] at hr
    have hiat : t.iat = page s.p s.c s.m t.i := by unfold iat; rw [hs]
    show Kj s ws0 (w.store t.c t.iat (putPg 4 t.hd 0)).ws ∧ t.written.Nf s ws0
    rw [store_ws, hiat]
    exact ⟨h.page hm (by omega) (by omega) (hr _ (by omega) (by omega)), nf_written hd hn hr⟩
theorem nf_new (c n : Int) : (Rn.new s c n).Nf s ws0 := by
  refine ⟨fun q a b => ?_, fun _ g => (by cases g)⟩
  have a : 0 ≤ q := a
  cases hd : (Rn.new s c n).dn
  · rw [top_lo hd (by show (0 : Int) ≤ 2; decide)] at b
    have b : q < 0 := b
    omega
  · rw [top_dn hd] at b
    have b : q < 0 := b
    omega
end Rn
namespace Gv
/-- Who gives nothing touches nothing. -/
theorem none {t : Gv} {w : Wd} (ht : t.wf) (h : (t.step w).1.gv = false) : (t.step w).2.ws = w.ws := by
  rcases step_cases ht w with ⟨-, e⟩ | ⟨hd, hc⟩
  · rw [e]
  rcases hc with ⟨-, e⟩ | ⟨-, -, e⟩ | ⟨-, -, e⟩ | ⟨hn, p, hp, -, -, -, -, -, e⟩ | ⟨hn, e⟩ | ⟨hn, -, e⟩ | ⟨hn, -, e⟩ <;> rw [e] at h ⊢
  · rfl
  · have h : decide (w.get t.pat = t.wd) = false := h
    show (w.swap t.c t.pat t.wd (held t.c)).ws = _
    rw [swap_no (of_decide_eq_false h)]
  · have h2 : decide (w.get t.sat = taken t.pA) = false := by
      revert h; show (t.claimS w).gv = false → _; unfold claimS; split <;> exact fun g => g
    show (w.swap t.c t.sat (taken t.pA) (way t.c)).ws = _
    rw [swap_no (of_decide_eq_false h2)]
  · have g := ht.n23 hd (.inl hn)
    have : (t.kept (p.step w).1).gv = t.gv := by unfold kept; split; rfl; split <;> rfl
    have h : (t.kept (p.step w).1).gv = false := h
    rw [this, g] at h; cases h
  · have g := ht.n23 hd (.inr (.inl hn))
    have h : t.gv = false := h
    rw [g] at h; cases h
  · have g := ht.n23 hd (.inr (.inr hn))
    have h : t.gv = false := h
    rw [g] at h; cases h
  · have g := ht.n23 hd (.inr (.inr hn))
    have h : t.gv = false := h
    rw [g] at h; cases h
theorem gv_stay {t : Gv} {w : Wd} (ht : t.wf) (h : t.gv = true) : (t.step w).1.gv = true := by
  rcases step_cases ht w with ⟨-, e⟩ | ⟨hd, hc⟩
  · rw [e]; exact h
  have n01 : t.nx = 0 ∨ t.nx = 1 → False := fun g => by rw [(ht.n01 g).2.1] at h; cases h
  rcases hc with ⟨hn, e⟩ | ⟨hn, -, e⟩ | ⟨hn, -, e⟩ | ⟨hn, p, hp, -, -, -, -, -, e⟩ | ⟨hn, e⟩ | ⟨hn, -, e⟩ | ⟨hn, -, e⟩ <;> rw [e]
  · exact (n01 (.inl hn)).elim
  · exact (n01 (.inr hn)).elim
  · exact (n01 (.inr hn)).elim
  · have : (t.kept (p.step w).1).gv = t.gv := by unfold kept; split; rfl; split <;> rfl
    exact this.trans h
  · exact h
  · exact h
  · exact h
end Gv
namespace Rv
def Nf (s : Sh) (ws0 : Nat → Int) : Rv → Prop
  | .sk t => t.Nf s ws0
  | .rn t => t.Nf s ws0
  | .no => True
variable {s : Sh} {ws0 : Nat → Int} {w : Wd} {c : Int}
theorem kj {v : Rv} (ht : v.wf) (hs : v.of s c) (h : Kj s ws0 w.ws) (hf : v.Nf s ws0) : Kj s ws0 (v.step w).2.ws ∧ (v.step w).1.Nf s ws0 := by
  cases v with
  | sk t => exact Sk.kj ht hs.1 h hf
  | rn t => exact Rn.kj ht hs.1 h hf
  | no => exact ⟨h, trivial⟩
theorem nf_new (c n f : Int) : (Rv.new s c n f).Nf s ws0 := by
  unfold new; split
  · show (Sk.new s c (cls n) f).Nf s ws0
    unfold Sk.new
    split
    · cases hd : (Tk.new s c (cls n)).dn
      · rw [Sa.set_go _ (by exact hd)]
        exact fun _ => ⟨fun m g => (by cases g), fun m g => (by cases g), fun m g => (by cases g)⟩
      · rw [Sa.set_af _ (by exact hd)]
        exact fun _ => ⟨fun m g => (by cases g), fun m g => (by cases g), fun m g => (by cases g)⟩
    · exact fun g => by cases g
  · split
    · exact Rn.nf_new _ _
    · trivial
end Rv
namespace Uo
def Nf (s : Sh) (ws0 : Nat → Int) (b : Bk) : Prop := b.lg = true → ∀ q, b.p ≤ q → q < b.p + b.n → Nb s ws0 q
variable {s : Sh} {ws0 : Nat → Int} {w : Wd}
theorem kj {t : Uo} (ht : t.wf) (hs : t.s = s) (h : Kj s ws0 w.ws) (hf : Nf s ws0 t.b) : Kj s ws0 (t.step w).2.ws ∧ (t.step w).1.b = t.b := by
  cases hd : t.dn
  · obtain ⟨⟨hm, c0, c1, p0, p1, fl, fs⟩, fi⟩ := ht hd
    rw [hs] at hm p1 fl
    unfold step
    rw [if_neg (by rw [hd]; decide)]
    cases hl : t.b.lg
    · simp only [Bool.false_eq_true, if_false]
      obtain ⟨i0, i1⟩ := fs hl
      have := slots_bd t.b.k
      refine ⟨?_, by first | rfl | trivial⟩
      have hsat : t.sat = slot s.p s.c s.m t.b.p t.b.i := by unfold sat; rw [hs]
      rw [store_ws, hsat]; exact h.slot hm p0 p1 i0 (by omega) (slK_put (by decide))
    · simp only [if_true]
      obtain ⟨n1, n8, nq⟩ := fl hl
      obtain ⟨i0, i1⟩ := fi hl
      have hf := hf hl
      split
      · refine ⟨?_, by first | rfl | trivial⟩
        have hpat : t.pat = page s.p s.c s.m t.b.p := by unfold pat; rw [hs]
        rw [store_ws, hpat]; exact h.page hm p0 p1 (hf _ (by omega) (by omega))
      · refine ⟨?_, by first | rfl | trivial⟩
        have hiat : t.iat = page s.p s.c s.m (t.b.p + t.i + 1) := by unfold iat; rw [hs]
        rw [store_ws, hiat]; exact h.page hm (by omega) (by omega) (hf _ (by omega) (by omega))
  · unfold step; rw [if_pos hd]; exact ⟨h, rfl⟩
end Uo
namespace Re
/-- As long as it has given nothing, no block is otherwise. -/
def Kp (s : Sh) (ws0 : Nat → Int) (t : Re) (ws : Nat → Int) : Prop := t.gv.gv = true ∨ (Kj s ws0 ws ∧ t.rv.Nf s ws0 ∧ (∀ u, t.md = .uo u → Uo.Nf s ws0 u.b) ∧ ∀ m, t.md ≠ .cm m)
variable {s : Sh} {ws0 ws : Nat → Int} {w : Wd} {t : Re}
theorem go_kp (ht : t.wf') (h : Kp s ws0 t ws) : Kp s ws0 t.go ws := by
  have hk := go_k (t := t)
  rcases h with h | ⟨h1, h2, h3, h4⟩
  · exact .inl (by rw [hk.2.2.2.2]; exact h)
  unfold go
  split
  · rename_i u e
    split
    · exact .inr ⟨h1, h2, h3, h4⟩
    · exact .inr ⟨h1, h2, h3, h4⟩
  · rename_i m e
    exact absurd e (h4 m)
  · rename_i e
    split
    · rename_i e1
      split
      · rename_i e2
        split
        · split
          · rename_i e4; exact .inl e4
          · refine .inr ⟨h1, h2, fun u g => ?_, fun m g => by cases g⟩
            injection g with g
            subst g
            intro hl q a b
            have hl : t.rv.bk.lg = true := hl
            have a : t.rv.bk.p ≤ q := a
            have b : q < t.rv.bk.p + t.rv.bk.n := b
            cases hv : t.rv with
            | sk x =>
              rw [hv] at hl
              unfold Rv.bk at hl
              exfalso; revert hl; show (if x.fd then _ else _ : Bk).lg = true → False; split <;> exact fun g => by cases g
            | rn x =>
              rw [hv] at hl a b h2 e1 e2
              have e2 : x.fd = true := e2
              have e1 : x.dn = true := e1
              have eb : (Rv.rn x).bk = ⟨true, x.hd, 0, 0, x.n⟩ := by unfold Rv.bk; simp only [e2, if_true]
              rw [eb] at a b
              refine h2.r q a ?_
              rw [Rn.top_dn e1, if_pos e2]; exact b
            | no => rw [hv] at e2; cases e2
        · exact .inr ⟨h1, h2, h3, h4⟩
      · exact .inr ⟨h1, h2, h3, h4⟩
    · exact .inr ⟨h1, h2, h3, h4⟩
theorem step_kp (ht : t.wf) (hs : t.s = s) (ho : w.of s) (h : Kp s ws0 t w.ws) : Kp s ws0 (t.step w).1 (t.step w).2.ws := by
  cases hd : t.dn
  rotate_left
  · rw [step_dn hd]; exact h
  have e0 : t.step w = ((t.acc w).1.go, (t.acc w).2) := by unfold step; rw [hd]; rfl
  rw [e0]
  refine go_kp (acc_wf ht hd (by rw [hs]; exact ho)) ?_
  have hro := ht.ro
  rw [hs] at hro
  unfold acc
  rcases h with h | ⟨h1, h2, h3, h4⟩
  · refine .inl ?_
    split
    · split
      · split <;> exact h
      · exact Gv.gv_stay ht.gw h
    · exact h
  split
  · split
    · split
      · rename_i u e
        obtain ⟨g1, g2, -⟩ := ht.uo u e
        obtain ⟨k1, k2⟩ := Uo.kj (w := w) g1 (g2.trans hs) h1 (h3 u e)
        refine .inr ⟨k1, h2, fun x g => ?_, fun m g => by cases g⟩
        injection g with g
        subst g
        rw [k2]; exact h3 u e
      · rename_i m e; exact absurd e (h4 m)
      · exact .inr ⟨h1, h2, h3, h4⟩
    · cases hg : (t.gv.step w).1.gv
      · refine .inr ⟨?_, h2, h3, h4⟩
        show Kj s ws0 (t.gv.step w).2.ws
        rw [Gv.none ht.gw hg]; exact h1
      · exact .inl hg
  · obtain ⟨k1, k2⟩ := Rv.kj (w := w) ht.rw hro h1 h2
    exact .inr ⟨k1, k2, h3, h4⟩
theorem new_kp (s : Sh) (c a n f : Int) (ws : Nat → Int) : Kp s ws (new s c a n f) ws := by
  unfold new
  split
  · exact go_kp ⟨rfl, rfl, Rv.new_wf .., Rv.new_of .., Gv.new_wf .., ⟨rfl, rfl⟩, fun _ g => (by cases g), fun _ g => (by cases g), fun _ => rfl⟩ (.inr ⟨Kj.refl s ws, Rv.nf_new .., fun u g => (by cases g), fun m g => (by cases g)⟩)
  · exact .inr ⟨Kj.refl s ws, trivial, fun u g => (by cases g), fun m g => (by cases g)⟩
end Re
end Go.Ma
