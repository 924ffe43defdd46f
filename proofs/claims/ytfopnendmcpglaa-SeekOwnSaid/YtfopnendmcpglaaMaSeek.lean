/-
  Who seeks a slot from wherever, plain: its steps, what stays, how long it goes on. Conditions: none.
-/
import Derived.Test.YtfopnendmcpglaaMaIts
import Derived.Test.YtfopnendmcpglaaMaGive
set_option linter.unusedVariables false
set_option linter.unusedSectionVars false
set_option linter.unusedSimpArgs false
namespace Go.Ma
open Go.Pl

/-- What is at it: one of the machines, or none. -/
inductive Nw where
  | tk (t : Tk)
  | sc (t : Sc)
  | pc (t : Pc)
  | no
  | st (t : St)
  | bi (t : Bi)
def Nw.dn : Nw → Bool
  | .tk t => t.dn
  | .sc t => t.dn
  | .pc t => t.dn
  | .no => false
  | .st t => t.dn
  | .bi t => t.dn
structure Sk where
  s : Sh
  c : Int
  k : Int
  f : Int
  nw : Nw
  many : Int
  pg : Int
  sl : Int
  fd : Bool
  dn : Bool
namespace Sk
def here (t : Sk) : Int := (t.f + t.many) % t.s.p
def pat (t : Sk) : Int := page t.s.p t.s.c t.s.m t.here
def fin (t : Sk) (p i : Int) : Sk := { t with pg := p, sl := i, fd := true, dn := true }
def bind (t : Sk) (p : Int) : Sk := { t with pg := p, nw := .bi (Bi.new t.s t.c p t.k) }
def turn (t : Sk) : Sk := { t with nw := .no, many := t.many + 1, dn := decide (t.many + 1 = t.s.p) }
/-- What follows a machine that is done. -/
def after (t : Sk) : Sk := match t.nw with
  | .tk m => if m.fd then t.fin m.ep m.es else { t with nw := .sc (Sc.new t.s t.c t.k t.f) }
  | .sc m => if m.fd then t.fin m.pg m.i else { t with nw := .pc (Pc.new t.s t.c t.f) }
  | .pc m => if m.fd then t.bind m.pg else { t with nw := .no }
  | .no => t
  | .st m => if m.hd then t.bind t.here else t.turn
  | .bi _ => t.fin t.pg 0
def set (t : Sk) (n : Nw) : Sk := if n.dn then ({ t with nw := n } : Sk).after else { t with nw := n }
def new (s : Sh) (c k f : Int) : Sk := if good s c k && decide (0 ≤ page s.p s.c s.m f) then set ⟨s, c, k, f, .tk (Tk.new s c k), 0, 0, 0, false, false⟩ (.tk (Tk.new s c k)) else ⟨s, c, k, f, .no, 0, 0, 0, false, true⟩
def isSup (t : Sk) (w : Wd) : Bool := okPg t.s t.here (w.get t.pat) && decide (pgK t.s t.here (w.get t.pat) = 2)
def look (t : Sk) (w : Wd) : Sk := if t.isSup w then { t with nw := .st (St.new t.s t.c t.here (pgA t.s t.here (w.get t.pat))) } else t.turn
def step (t : Sk) (w : Wd) : Sk × Wd :=
  if t.dn then (t, w) else match t.nw with
  | .tk m => (t.set (.tk (m.step w).1), (m.step w).2)
  | .sc m => (t.set (.sc (m.step w).1), (m.step w).2)
  | .pc m => (t.set (.pc (m.step w).1), (m.step w).2)
  | .no => (t.look w, w.load t.c t.pat)
  | .st m => (t.set (.st (m.step w).1), (m.step w).2)
  | .bi m => (t.set (.bi (m.step w).1), (m.step w).2)

/-- The machine that is at it fits. -/
def Ok (t : Sk) : Nw → Prop
  | .tk m => m.wf ∧ m.s = t.s ∧ m.c = t.c ∧ m.k = t.k ∧ t.many = 0 ∧ (m.dn = false → m.fd = false)
  | .sc m => m.wf ∧ m.s = t.s ∧ m.c = t.c ∧ m.k = t.k ∧ m.f = t.f ∧ t.many = 0 ∧ (m.dn = false → m.fd = false) ∧ 0 ≤ m.many ∧ m.many ≤ t.s.p
  | .pc m => m.wf ∧ m.s = t.s ∧ m.c = t.c ∧ m.f = t.f ∧ t.many = 0 ∧ (m.dn = false → m.fd = false) ∧ 0 ≤ m.many ∧ m.many ≤ t.s.p
  | .no => True
  | .st m => m.wf ∧ m.s = t.s ∧ m.c = t.c ∧ m.p = t.here ∧ (m.dn = false → m.hd = false)
  | .bi m => m.wf ∧ m.s = t.s ∧ m.c = t.c ∧ m.k = t.k ∧ m.p = t.pg ∧ 0 ≤ t.pg ∧ t.pg < t.s.p
structure wf (t : Sk) : Prop where
  of : t.dn = false → may t.s.p t.s.c t.s.m = true ∧ 0 ≤ t.c ∧ t.c < t.s.c ∧ 0 < slots t.k ∧ 0 ≤ t.f ∧ t.f < t.s.p ∧ 0 ≤ t.many ∧ t.many < t.s.p
  nw : t.dn = false → t.Ok t.nw ∧ t.nw.dn = false
  fd : t.dn = false → t.fd = false

section
variable {t : Sk} {w : Wd}
theorem step_dn (h : t.dn = true) : t.step w = (t, w) := by unfold step; rw [h]; rfl
theorem step_tk (h : t.dn = false) {m : Tk} (e : t.nw = .tk m) : t.step w = (t.set (.tk (m.step w).1), (m.step w).2) := by unfold step; rw [h, e]; rfl
theorem step_sc (h : t.dn = false) {m : Sc} (e : t.nw = .sc m) : t.step w = (t.set (.sc (m.step w).1), (m.step w).2) := by unfold step; rw [h, e]; rfl
theorem step_pc (h : t.dn = false) {m : Pc} (e : t.nw = .pc m) : t.step w = (t.set (.pc (m.step w).1), (m.step w).2) := by unfold step; rw [h, e]; rfl
theorem step_no (h : t.dn = false) (e : t.nw = .no) : t.step w = (t.look w, w.load t.c t.pat) := by unfold step; rw [h, e]; rfl
theorem step_st' (h : t.dn = false) {m : St} (e : t.nw = .st m) : t.step w = (t.set (.st (m.step w).1), (m.step w).2) := by unfold step; rw [h, e]; rfl
theorem step_bi (h : t.dn = false) {m : Bi} (e : t.nw = .bi m) : t.step w = (t.set (.bi (m.step w).1), (m.step w).2) := by unfold step; rw [h, e]; rfl
theorem step_cases (t : Sk) (w : Wd) : (t.dn = true ∧ t.step w = (t, w)) ∨ (t.dn = false ∧
    ((∃ m, t.nw = .tk m ∧ t.step w = (t.set (.tk (m.step w).1), (m.step w).2)) ∨
     (∃ m, t.nw = .sc m ∧ t.step w = (t.set (.sc (m.step w).1), (m.step w).2)) ∨
     (∃ m, t.nw = .pc m ∧ t.step w = (t.set (.pc (m.step w).1), (m.step w).2)) ∨
     (t.nw = .no ∧ t.step w = (t.look w, w.load t.c t.pat)) ∨
     (∃ m, t.nw = .st m ∧ t.step w = (t.set (.st (m.step w).1), (m.step w).2)) ∨
     (∃ m, t.nw = .bi m ∧ t.step w = (t.set (.bi (m.step w).1), (m.step w).2)))) := by
  rcases Bool.eq_false_or_eq_true t.dn with h | h
  · exact .inl ⟨h, step_dn h⟩
  · refine .inr ⟨h, ?_⟩
    cases e : t.nw with
    | tk m => exact .inl ⟨m, rfl, step_tk h e⟩
    | sc m => exact .inr (.inl ⟨m, rfl, step_sc h e⟩)
    | pc m => exact .inr (.inr (.inl ⟨m, rfl, step_pc h e⟩))
    | no => exact .inr (.inr (.inr (.inl ⟨rfl, step_no h e⟩)))
    | st m => exact .inr (.inr (.inr (.inr (.inl ⟨m, rfl, step_st' h e⟩))))
    | bi m => exact .inr (.inr (.inr (.inr (.inr ⟨m, rfl, step_bi h e⟩))))

/-! ### What stays -/
def Kp (t u : Sk) : Prop := u.s = t.s ∧ u.c = t.c ∧ u.k = t.k ∧ u.f = t.f
theorem Kp.refl (t : Sk) : Kp t t := ⟨rfl, rfl, rfl, rfl⟩
theorem after_kp (t : Sk) : Kp t t.after := by
  unfold after
  split
  · split <;> exact ⟨rfl, rfl, rfl, rfl⟩
  · split <;> exact ⟨rfl, rfl, rfl, rfl⟩
  · split <;> exact ⟨rfl, rfl, rfl, rfl⟩
  · exact Kp.refl t
  · split <;> exact ⟨rfl, rfl, rfl, rfl⟩
  · exact ⟨rfl, rfl, rfl, rfl⟩
theorem set_kp (t : Sk) (n : Nw) : Kp t (t.set n) := by
  unfold set
  split
  · exact after_kp { t with nw := n }
  · exact ⟨rfl, rfl, rfl, rfl⟩
theorem look_kp (t : Sk) (w : Wd) : Kp t (t.look w) := by
  unfold look
  split <;> exact ⟨rfl, rfl, rfl, rfl⟩
theorem step_kp : Kp t (t.step w).1 := by
  rcases step_cases t w with ⟨-, e⟩ | ⟨-, ⟨m, -, e⟩ | ⟨m, -, e⟩ | ⟨m, -, e⟩ | ⟨-, e⟩ | ⟨m, -, e⟩ | ⟨m, -, e⟩⟩ <;> rw [e]
  · exact Kp.refl t
  · exact set_kp _ _
  · exact set_kp _ _
  · exact set_kp _ _
  · exact look_kp _ _
  · exact set_kp _ _
  · exact set_kp _ _
theorem step_of {s : Sh} (h : w.of s) : (t.step w).2.of s := by
  rcases step_cases t w with ⟨-, e⟩ | ⟨-, ⟨m, -, e⟩ | ⟨m, -, e⟩ | ⟨m, -, e⟩ | ⟨-, e⟩ | ⟨m, -, e⟩ | ⟨m, -, e⟩⟩ <;> rw [e]
  · exact h
  · exact Tk.step_of h
  · exact Sc.step_of h
  · exact Pc.step_of h
  · exact Wd.of_load h _ _
  · exact St.step_of h
  · exact Bi.step_of h
theorem step_st (h0 : 0 ≤ w.st) (h1 : w.st ≤ 1000000000) : w.st ≤ (t.step w).2.st ∧ (t.step w).2.st ≤ w.st + 1 := by
  have e0 : w64 (w.st + 1) = w.st + 1 := w64_eq (by omega) (by omega)
  rcases step_cases t w with ⟨-, e⟩ | ⟨-, ⟨m, -, e⟩ | ⟨m, -, e⟩ | ⟨m, -, e⟩ | ⟨-, e⟩ | ⟨m, -, e⟩ | ⟨m, -, e⟩⟩ <;> rw [e]
  · exact ⟨Int.le_refl _, by show w.st ≤ w.st + 1; omega⟩
  · exact Tk.step_st h0 h1
  · exact Sc.step_st h0 h1
  · exact Pc.step_st h0 h1
  · show w.st ≤ w64 (w.st + 1) ∧ w64 (w.st + 1) ≤ w.st + 1; omega
  · exact St.step_st h0 h1
  · exact Bi.step_st h0 h1

/-! ### New machines are not done where all is in place -/
theorem sc_new {s : Sh} {c k f : Int} (hm : may s.p s.c s.m = true) (c0 : 0 ≤ c) (c1 : c < s.c) (hk : 0 < slots k) (f0 : 0 ≤ f) (f1 : f < s.p) : (Sc.new s c k f).dn = false := by
  have h1 : 0 ≤ status s.p s.c s.m c := by unfold status within; rw [hm]; simp; omega
  have h2 : 0 ≤ page s.p s.c s.m f := by rw [page_yes hm f0 f1]; have := (may_iff _ _ _).1 hm; omega
  simp [Sc.new, good, h1, h2, hk]
theorem pc_new {s : Sh} {c f : Int} (hm : may s.p s.c s.m = true) (c0 : 0 ≤ c) (c1 : c < s.c) (f0 : 0 ≤ f) (f1 : f < s.p) : (Pc.new s c f).dn = false := by
  have h1 : 0 ≤ status s.p s.c s.m c := by unfold status within; rw [hm]; simp; omega
  have h2 : 0 ≤ page s.p s.c s.m f := by rw [page_yes hm f0 f1]; have := (may_iff _ _ _).1 hm; omega
  simp [Pc.new]; omega
theorem st_new {s : Sh} {c k p : Int} (hm : may s.p s.c s.m = true) (c0 : 0 ≤ c) (c1 : c < s.c) (hk : 0 < slots k) (f0 : 0 ≤ p) (f1 : p < s.p) : (St.new s c p k).dn = false := by
  have h1 : 0 ≤ status s.p s.c s.m c := by unfold status within; rw [hm]; simp; omega
  have h2 : 0 ≤ page s.p s.c s.m p := by rw [page_yes hm f0 f1]; have := (may_iff _ _ _).1 hm; omega
  simp [St.new, good, h1, h2, hk]
theorem bi_new {s : Sh} {c k p : Int} (hm : may s.p s.c s.m = true) (c0 : 0 ≤ c) (c1 : c < s.c) (hk : 0 < slots k) (f0 : 0 ≤ p) (f1 : p < s.p) : (Bi.new s c p k).dn = false := by
  have h1 : 0 ≤ status s.p s.c s.m c := by unfold status within; rw [hm]; simp; omega
  have h2 : 0 ≤ page s.p s.c s.m p := by rw [page_yes hm f0 f1]; have := (may_iff _ _ _).1 hm; omega
  simp [Bi.new, good, h1, h2, hk]
end
end Sk
end Go.Ma
