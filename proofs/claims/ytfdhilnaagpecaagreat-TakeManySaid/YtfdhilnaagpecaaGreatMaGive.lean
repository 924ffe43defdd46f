/-
  Who gives a block back, plain: its steps, what stays, how long it goes on. Conditions: none.
-/
import Derived.Test.YtfdhilnaagpecaaGreatMaMI
set_option linter.unusedVariables false
set_option linter.unusedSimpArgs false
namespace Go.Ma
open Go.Pl

/-- Who gives; nx: what is next; put: the putter, when there is one; ms: a block begins there, or seemed to. -/
structure Gv where
  s : Sh
  c : Int
  a : Int
  pg : Int
  sl : Int
  wd : Int
  pK : Int
  pA : Int
  pB : Int
  nx : Int
  i : Int
  put : Option Pu
  gv : Bool
  dn : Bool
  ms : Bool
namespace Gv
def new (s : Sh) (c a : Int) : Gv := ⟨s, c, a, sp s.p s.c s.m a, 0, 0, 0, 0, 0, 0, 0, none, false, !there s.p s.c s.m a || decide (status s.p s.c s.m c < 0), false⟩
def pat (t : Gv) : Int := page t.s.p t.s.c t.s.m t.pg
def sat (t : Gv) : Int := slot t.s.p t.s.c t.s.m t.pg t.sl
def off (t : Gv) : Int := so t.s.p t.s.c t.s.m t.a
/-- What is read of the page's word. -/
def read (t : Gv) (w : Wd) : Gv := { t with wd := w.get t.pat, pK := pgK t.s t.pg (w.get t.pat), pA := pgA t.s t.pg (w.get t.pat), pB := pgB t.s t.pg (w.get t.pat), nx := 1 }
def isL (t : Gv) (w : Wd) : Bool := okPg t.s t.pg (w.get t.pat) && (decide (pgK t.s t.pg (w.get t.pat) = 3) && decide (t.off = 0))
def isS (t : Gv) (w : Wd) : Bool := okPg t.s t.pg (w.get t.pat) && (decide (pgK t.s t.pg (w.get t.pat) = 2) && decide (t.off % size (pgA t.s t.pg (w.get t.pat)) = 0))
def look (t : Gv) (w : Wd) : Gv := if t.isL w then { t.read w with ms := true } else if t.isS w then { t.read w with sl := t.off / size (pgA t.s t.pg (w.get t.pat)), ms := true } else { t.read w with dn := true }
/-- Behind a step of the putter's. -/
def kept (t : Gv) (p : Pu) : Gv := if p.put then { t with put := some p, dn := true } else if p.dn then { t with put := some p, nx := 3 } else { t with put := some p }
def pnew (t : Gv) : Pu := Pu.new t.s t.c t.pg t.sl t.pA
def claimL (t : Gv) (w : Wd) : Gv := { t with gv := decide (w.get t.pat = t.wd), nx := 4, dn := !decide (w.get t.pat = t.wd) }
def claimS (t : Gv) (w : Wd) : Gv :=
  if t.pB = t.c then { t with gv := decide (w.get t.sat = taken t.pA), put := some t.pnew, nx := if t.pnew.dn then 3 else 2, dn := !decide (w.get t.sat = taken t.pA) }
  else { t with gv := decide (w.get t.sat = taken t.pA), nx := 3, dn := !decide (w.get t.sat = taken t.pA) }
def step (t : Gv) (w : Wd) : Gv × Wd :=
  if t.dn then (t, w) else
  if t.nx = 0 then (t.look w, w.load t.c t.pat) else
  if t.nx = 1 then (if t.pK = 3 then (t.claimL w, w.swap t.c t.pat t.wd (held t.c)) else (t.claimS w, w.swap t.c t.sat (taken t.pA) (way t.c))) else
  if t.nx = 2 then (match t.put with
    | none => (t, w)
    | some p => (t.kept (p.step w).1, (p.step w).2)) else
  if t.nx = 3 then ({ t with dn := true }, w.store t.c t.sat (opn t.pA)) else
  if t.i = t.pA - 1 then ({ t with dn := true }, w.store t.c t.pat 0) else
  ({ t with i := t.i + 1 }, w.store t.c (page t.s.p t.s.c t.s.m (t.pg + t.i + 1)) 0)

/-- What a block that is given is. -/
def blk (t : Gv) : Prop := (t.pK = 3 ∧ 1 ≤ t.pA ∧ t.pA ≤ 8 ∧ t.pg + t.pA ≤ t.s.p ∧ t.pB = 0) ∨ (t.pK = 2 ∧ 0 ≤ t.sl ∧ t.sl < slots t.pA ∧ 0 ≤ t.pA ∧ t.pA ≤ 3 ∧ 0 ≤ t.pB ∧ t.pB < t.s.c)
structure wf (t : Gv) : Prop where
  of : t.dn = false → may t.s.p t.s.c t.s.m = true ∧ 0 ≤ t.c ∧ t.c < t.s.c ∧ 0 ≤ t.pg ∧ t.pg < t.s.p ∧ there t.s.p t.s.c t.s.m t.a = true ∧ t.pg = sp t.s.p t.s.c t.s.m t.a ∧ 0 ≤ t.nx ∧ t.nx ≤ 4
  bl : t.dn = false → t.nx ≠ 0 → t.ms = true ∧ t.blk ∧ U t.wd
  n2 : t.dn = false → t.nx = 2 → t.pK = 2 ∧ ∃ p, t.put = some p ∧ p.wf ∧ p.dn = false ∧ p.put = false ∧ p.s = t.s ∧ p.c = t.c
  n3 : t.dn = false → t.nx = 3 → t.pK = 2
  n4 : t.dn = false → t.nx = 4 → t.pK = 3 ∧ 0 ≤ t.i ∧ t.i < t.pA
  n01 : t.nx = 0 ∨ t.nx = 1 → t.put = none ∧ t.gv = false ∧ t.i = 0
  n23 : t.dn = false → t.nx = 2 ∨ t.nx = 3 ∨ t.nx = 4 → t.gv = true

variable {t : Gv} {w : Wd}
theorem ok_super {s : Sh} {q x : Int} (h : okPg s q x = true) (hk : pgK s q x = 2) : 0 ≤ pgA s q x ∧ pgA s q x ≤ 3 ∧ 0 ≤ pgB s q x ∧ pgB s q x < s.c := by
  have hk' : x % 16 = 2 := by unfold pgK at hk; rw [if_pos h] at hk; exact hk
  have ha : pgA s q x = pt x 16 := by unfold pgA; rw [if_pos h]
  have hb : pgB s q x = pt x 4096 := by unfold pgB; rw [if_pos h]
  unfold okPg at h
  simp only [Bool.and_eq_true, decide_eq_true_eq] at h
  obtain ⟨h1, h2, h3⟩ := h
  rw [hk'] at h3
  unfold fits at h3
  simp at h3
  rw [ha, hb]
  have b1 : 0 ≤ pt x 16 := by unfold pt; omega
  have b2 : 0 ≤ pt x 4096 := by unfold pt; omega
  omega
theorem slot_of {o k : Int} (hk : 0 ≤ k ∧ k ≤ 3) (ho : 0 ≤ o ∧ o < 64) : 0 ≤ o / size k ∧ o / size k < slots k := by
  rcases (by omega : k = 0 ∨ k = 1 ∨ k = 2 ∨ k = 3) with rfl | rfl | rfl | rfl <;> simp [size, slots] <;> omega
/-- How many steps are left at most. -/
def left (t : Gv) : Int := if t.dn then 0 else if t.nx = 0 then t.s.m + 13 else if t.nx = 1 then t.s.m + 12 else if t.nx = 2 then (match t.put with | none => 0 | some p => p.left) + 2 else if t.nx = 3 then 1 else t.pA - t.i
end Gv
end Go.Ma
