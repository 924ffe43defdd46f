/-
Another block in place of one, plain: the machine that reserves, gives, and commits or undoes. Conditions: none.
Over any words: what one does that reserves, and undoes, touches no block. Conditions: none.
What steps do not do: no status is otherwise, no word is made that is of a block. Conditions: none.
One that gives the only block, one that looks for one, at the same time: what is there at each step, and at the end. Conditions: none.
Among many: what one does that looks for something, or undoes, leaves each block. Conditions: none.
-/
import Derived.Test.YtfdhilnaagpecaaGreatMaTake
import Derived.Test.YtfdhilnaagpecaaGreatMaGive
import Derived.Test.YtfdhilnaagpecaaGreatMaBase
import Derived.Test.YtfdhilnaagpecaaGreatMaOw
set_option linter.unusedVariables false
set_option linter.unusedSectionVars false
set_option linter.unusedSimpArgs false
namespace Go.Ma
open Go.Pl

/-- What follows the old block's end. -/
inductive Md where
  | no
  | uo (t : Uo)
  | cm (t : Cm)
structure Re where
  s : Sh
  c : Int
  on : Bool
  rv : Rv
  gv : Gv
  md : Md
  er : Int
  dn : Bool
namespace Re
def fin (t : Re) (e : Int) : Re := { t with er := e, dn := true }
/-- On behind an access. -/
def go (t : Re) : Re := match t.md with
  | .uo u => if u.dn then t.fin 1 else t
  | .cm m => if m.dn then t.fin 0 else t
  | .no => if t.rv.dn then (if t.rv.fd then (if t.gv.dn then (if t.gv.gv then { t with md := .cm (Cm.new t.s t.c t.rv.bk) } else { t with md := .uo (Uo.new t.s t.c t.rv.bk) }) else t) else t.fin 3) else t
def ok (s : Sh) (c a n : Int) : Bool := there s.p s.c s.m a && fine n && decide (0 ≤ status s.p s.c s.m c)
def raw (s : Sh) (c a n f : Int) : Re := ⟨s, c, true, Rv.new s c n f, Gv.new s c a, .no, 0, false⟩
def bad (s : Sh) (c : Int) : Re := ⟨s, c, false, .no, Gv.new s c 0, .no, 1, true⟩
def new (s : Sh) (c a n f : Int) : Re := if ok s c a n then (raw s c a n f).go else bad s c
/-- An access, ahead of what follows. -/
def acc (t : Re) (w : Wd) : Re × Wd :=
  if t.rv.dn then (if t.gv.dn then (match t.md with
    | .uo u => ({ t with md := .uo (u.step w).1 }, (u.step w).2)
    | .cm m => ({ t with md := .cm (m.step w).1 }, (m.step w).2)
    | .no => (t, w)) else ({ t with gv := (t.gv.step w).1 }, (t.gv.step w).2)) else ({ t with rv := (t.rv.step w).1 }, (t.rv.step w).2)
def step (t : Re) (w : Wd) : Re × Wd := if t.dn then (t, w) else ((t.acc w).1.go, (t.acc w).2)
def gave (t : Re) : Bool := t.on && t.gv.gv
def fd (t : Re) : Bool := t.dn && decide (t.er = 0) && t.rv.fd
def bk (t : Re) : Bk := if t.dn && decide (t.er = 0) then t.rv.bk else Bk.zero

/-- It fits. -/
structure wf (t : Re) : Prop where
  of : t.on = false → t.dn = true ∧ t.md = .no ∧ t.er = 1
  rw : t.rv.wf
  ro : t.rv.of t.s t.c
  gw : t.gv.wf
  gs : t.gv.s = t.s ∧ t.gv.c = t.c
  uo : ∀ u, t.md = .uo u → u.wf ∧ u.s = t.s ∧ u.c = t.c ∧ t.rv.dn = true ∧ t.rv.fd = true ∧ t.gv.dn = true ∧ t.gv.gv = false
  cm : ∀ m, t.md = .cm m → m.wf ∧ m.s = t.s ∧ m.c = t.c ∧ t.rv.dn = true ∧ t.rv.fd = true ∧ t.gv.dn = true ∧ t.gv.gv = true
  nx : t.dn = false → t.md = .no → t.rv.dn = true → t.rv.fd = true ∧ t.gv.dn = false
  g0 : t.rv.dn = false → t.gv.gv = false
/-- Behind an access: as it is ahead of what follows. -/
structure wf' (t : Re) : Prop where
  on : t.on = true
  dn : t.dn = false
  rw : t.rv.wf
  ro : t.rv.of t.s t.c
  gw : t.gv.wf
  gs : t.gv.s = t.s ∧ t.gv.c = t.c
  uo : ∀ u, t.md = .uo u → u.wf ∧ u.s = t.s ∧ u.c = t.c ∧ t.rv.dn = true ∧ t.rv.fd = true ∧ t.gv.dn = true ∧ t.gv.gv = false
  cm : ∀ m, t.md = .cm m → m.wf ∧ m.s = t.s ∧ m.c = t.c ∧ t.rv.dn = true ∧ t.rv.fd = true ∧ t.gv.dn = true ∧ t.gv.gv = true
  g0 : t.rv.dn = false → t.gv.gv = false
variable {t : Re} {w : Wd}
theorem _root_.Go.Ma.Cm.step_of {u : Cm} {s : Sh} (h : w.of s) : (u.step w).2.of s := by
  unfold Cm.step
  split
  · exact h
  · split
    · exact Wd.of_store h (U_putPg _ _ _) _ _
    · exact Wd.of_store h (U_putSl _ _) _ _
/-- How many accesses it has left, at most. -/
def left (t : Re) : Int := if t.dn then 0 else match t.md with
  | .no => t.rv.left + t.gv.left + 10
  | .uo u => (if u.dn then 0 else if u.b.lg then u.b.n - u.i else 1) + 1
  | .cm m => (if m.dn then 0 else 1) + 1
def gl (t : Re) : Int := match t.md with
  | .no => max 9 (t.rv.left + t.gv.left + 10)
  | .uo u => if u.dn then 0 else (if u.b.lg then u.b.n - u.i else 1) + 1
  | .cm m => if m.dn then 0 else 2
end Re
end Go.Ma
namespace Go.Ma
open Go.Pl
/-- A page that is not of a block of rows. -/
def Nb (s : Sh) (ws0 : Nat → Int) (q : Int) : Prop := ¬ (okPg s q (pgAt s ws0 q) = true ∧ (pgK s q (pgAt s ws0 q) = 3 ∨ pgK s q (pgAt s ws0 q) = 4))
/-- No block is otherwise. -/
structure Kj (s : Sh) (ws0 ws : Nat → Int) : Prop where
  pg : ∀ q, 0 ≤ q → q < s.p → ¬ Nb s ws0 q → pgAt s ws q = pgAt s ws0 q
  sl : ∀ q i, 0 ≤ q → q < s.p → 0 ≤ i → i < 16 → slAt s ws q i = slAt s ws0 q i ∨ slK (slAt s ws q i) ≠ 3
namespace Kj
variable {s : Sh} {ws0 ws : Nat → Int} {c q i y : Int}
end Kj
section
variable {s : Sh} {ws0 : Nat → Int} {w : Wd}
end
namespace Sk
/-- The pages that it has are of no block. -/
def Nf (s : Sh) (ws0 : Nat → Int) (t : Sk) : Prop := t.dn = false → (∀ m, t.nw = .st m → Nb s ws0 m.p) ∧ (∀ m, t.nw = .bi m → Nb s ws0 m.p) ∧ ∀ m, t.nw = .pc m → m.fd = false
variable {s : Sh} {ws0 : Nat → Int} {w : Wd} {t : Sk}
end Sk
namespace Rn
def top (t : Rn) : Int := if t.dn then (if t.fd then t.hd + t.n else t.hd) else if t.nx ≤ 2 then t.at' else if t.nx = 3 then t.at' + 1 else if t.nx = 4 then t.i else t.hd + t.n
structure Nf (s : Sh) (ws0 : Nat → Int) (t : Rn) : Prop where
  r : ∀ q, t.hd ≤ q → q < t.top → Nb s ws0 q
  a : t.dn = false → t.nx = 2 → Nb s ws0 t.at'
variable {s : Sh} {ws0 : Nat → Int} {w : Wd} {t : Rn}
end Rn
namespace Gv
end Gv
namespace Rv
def Nf (s : Sh) (ws0 : Nat → Int) : Rv → Prop
  | .sk t => t.Nf s ws0
  | .rn t => t.Nf s ws0
  | .no => True
variable {s : Sh} {ws0 : Nat → Int} {w : Wd} {c : Int}
end Rv
namespace Uo
def Nf (s : Sh) (ws0 : Nat → Int) (b : Bk) : Prop := b.lg = true → ∀ q, b.p ≤ q → q < b.p + b.n → Nb s ws0 q
variable {s : Sh} {ws0 : Nat → Int} {w : Wd}
end Uo
namespace Re
/-- As long as it has given nothing, no block is otherwise. -/
def Kp (s : Sh) (ws0 : Nat → Int) (t : Re) (ws : Nat → Int) : Prop := t.gv.gv = true ∨ (Kj s ws0 ws ∧ t.rv.Nf s ws0 ∧ (∀ u, t.md = .uo u → Uo.Nf s ws0 u.b) ∧ ∀ m, t.md ≠ .cm m)
variable {s : Sh} {ws0 ws : Nat → Int} {w : Wd} {t : Re}
end Re
end Go.Ma
namespace Go.Ma
open Go.Pl
/-- No status is otherwise, no word is made that is of a block. -/
def Wn (s : Sh) (ws ws' : Nat → Int) : Prop := ∀ j : Nat, ws' j = ws j ∨ (s.c ≤ (j : Int) ∧ ws' j % 16 ≠ 3)
theorem Wn.refl (s : Sh) (ws : Nat → Int) : Wn s ws ws := fun _ => .inl rfl
theorem Wn.up {s : Sh} {ws : Nat → Int} {a y : Int} (h0 : 0 ≤ s.c) (ha : s.c ≤ a) (hy : y % 16 ≠ 3) : Wn s ws (upW ws a y) := fun j => by
  unfold upW
  split
  · rename_i e; exact .inr ⟨by omega, hy⟩
  · exact .inl rfl
theorem n3_pg {k a b : Int} (h : k ≠ 3) : putPg k a b % 16 ≠ 3 := by unfold putPg; split <;> omega
theorem n3_sl {k a : Int} (h : k ≠ 3) : putSl k a % 16 ≠ 3 := by unfold putSl; split <;> omega
section
variable {s : Sh} {w : Wd}
theorem pg_ge (hm : may s.p s.c s.m = true) {q : Int} (q0 : 0 ≤ q) (q1 : q < s.p) : 0 ≤ s.c ∧ s.c ≤ page s.p s.c s.m q := by
  have := (may_iff _ _ _).1 hm
  rw [page_yes hm q0 q1]; omega
theorem sl_ge (hm : may s.p s.c s.m = true) {q i : Int} (q0 : 0 ≤ q) (q1 : q < s.p) (i0 : 0 ≤ i) (i1 : i < 16) : 0 ≤ s.c ∧ s.c ≤ slot s.p s.c s.m q i := by
  have := (may_iff _ _ _).1 hm
  rw [slot_yes hm q0 q1 i0 i1]; omega
theorem mg_ge (hm : may s.p s.c s.m = true) {c i : Int} (c0 : 0 ≤ c) (c1 : c < s.c) (i0 : 0 ≤ i) (i1 : i < s.m) : 0 ≤ s.c ∧ s.c ≤ mag s.p s.c s.m c i := by
  have := (may_iff _ _ _).1 hm
  have h2 : 0 ≤ c * s.m := Int.mul_nonneg c0 (by omega)
  rw [mag_yes hm c0 c1 i0 i1]; omega
theorem Tk.wn {t : Tk} (ht : t.wf) (hs : t.s = s) : Wn s w.ws (t.step w).2.ws := by
  cases hd : t.dn
  · obtain ⟨hm, c0, c1, i0, i1⟩ := ht.of hd
    rw [hs] at hm c1 i1
    unfold Tk.step
    rw [if_neg (by rw [hd]; decide)]
    split
    · rw [store_ws]; unfold Tk.at'; rw [hs]
      obtain ⟨g0, g1⟩ := mg_ge hm c0 c1 i0 i1
      exact Wn.up g0 g1 (by decide)
    · split <;> exact Wn.refl _ _
  · unfold Tk.step; rw [if_pos hd]; exact Wn.refl _ _
theorem Sc.wn {t : Sc} (ht : t.wf) (hs : t.s = s) : Wn s w.ws (t.step w).2.ws := by
  cases hd : t.dn
  · obtain ⟨hm, c0, c1, f0, f1, m0, m1, i0, i1, -⟩ := ht.of hd
    rw [hs] at hm f1 m1
    have hb := slots_bd t.k
    have hq : 0 ≤ t.pg ∧ t.pg < s.p := by unfold Sc.pg; rw [hs]; exact mod_bd (by omega)
    unfold Sc.step
    rw [if_neg (by rw [hd]; decide)]
    split
    · exact Wn.refl _ _
    · split
      · exact Wn.refl _ _
      · show Wn s w.ws (w.swap t.c t.at' (opn t.k) (way t.c)).ws
        by_cases e : w.get t.at' = opn t.k
        · rw [swap_yes e]; unfold Sc.at'; rw [hs]
          obtain ⟨g0, g1⟩ := sl_ge hm hq.1 hq.2 i0 (by omega : t.i < 16)
          exact Wn.up g0 g1 (n3_sl (by decide))
        · rw [swap_no e]; exact Wn.refl _ _
  · unfold Sc.step; rw [if_pos hd]; exact Wn.refl _ _
theorem Pc.wn {t : Pc} (ht : t.wf) (hs : t.s = s) : Wn s w.ws (t.step w).2.ws := by
  cases hd : t.dn
  · obtain ⟨hm, c0, c1, f0, f1, m0, m1⟩ := ht.of hd
    rw [hs] at hm f1 m1
    have hq : 0 ≤ t.pg ∧ t.pg < s.p := by unfold Pc.pg; rw [hs]; exact mod_bd (by omega)
    unfold Pc.step
    rw [if_neg (by rw [hd]; decide)]
    split
    · show Wn s w.ws (w.swap t.c t.at' 0 (held t.c)).ws
      by_cases e : w.get t.at' = 0
      · rw [swap_yes e]; unfold Pc.at'; rw [hs]
        obtain ⟨g0, g1⟩ := pg_ge hm hq.1 hq.2
        exact Wn.up g0 g1 (n3_pg (by decide))
      · rw [swap_no e]; exact Wn.refl _ _
    · exact Wn.refl _ _
  · unfold Pc.step; rw [if_pos hd]; exact Wn.refl _ _
theorem St.wn {t : St} (ht : t.wf) (hs : t.s = s) : Wn s w.ws (t.step w).2.ws := by
  cases hd : t.dn
  · obtain ⟨hm, c0, c1, p0, p1, k0, i0, i1, hb⟩ := ht.of hd
    rw [hs] at hm p1
    have hsl := slots_bd t.k
    unfold St.step
    rw [if_neg (by rw [hd]; decide)]
    split
    · rename_i e
      have := hb e
      rw [store_ws]; unfold St.at'; rw [hs]
      obtain ⟨g0, g1⟩ := sl_ge hm p0 p1 (by omega : 0 ≤ t.i - 1) (by omega : t.i - 1 < 16)
      exact Wn.up g0 g1 (n3_sl (by decide))
    · split
      · rw [store_ws]; unfold St.pat; rw [hs]
        obtain ⟨g0, g1⟩ := pg_ge hm p0 p1
        exact Wn.up g0 g1 (n3_pg (by decide))
      · rename_i e0
        show Wn s w.ws (w.swap t.c (t.at' t.i) (opn t.k) (way t.c)).ws
        by_cases e : w.get (t.at' t.i) = opn t.k
        · rw [swap_yes e]; unfold St.at'; rw [hs]
          obtain ⟨g0, g1⟩ := sl_ge hm p0 p1 i0 (by omega : t.i < 16)
          exact Wn.up g0 g1 (n3_sl (by decide))
        · rw [swap_no e]; exact Wn.refl _ _
  · unfold St.step; rw [if_pos hd]; exact Wn.refl _ _
theorem Bi.wn {t : Bi} (ht : t.wf) (hs : t.s = s) : Wn s w.ws (t.step w).2.ws := by
  cases hd : t.dn
  · obtain ⟨hm, c0, c1, p0, p1, k0, i0, i1, hb⟩ := ht.of hd
    rw [hs] at hm p1
    have hsl := slots_bd t.k
    unfold Bi.step
    rw [if_neg (by rw [hd]; decide)]
    split
    · rename_i e
      have := hb e
      rw [store_ws]; unfold Bi.at'; rw [hs]
      obtain ⟨g0, g1⟩ := sl_ge hm p0 p1 i0 (by omega : t.i < 16)
      exact Wn.up g0 g1 (n3_sl (by decide))
    · split
      · rw [store_ws]; unfold Bi.pat; rw [hs]
        obtain ⟨g0, g1⟩ := pg_ge hm p0 p1
        exact Wn.up g0 g1 (n3_pg (by decide))
      · rename_i e0
        rw [store_ws]; unfold Bi.at'; rw [hs]
        obtain ⟨g0, g1⟩ := sl_ge hm p0 p1 i0 (by omega : t.i < 16)
        refine Wn.up g0 g1 ?_
        split
        · exact n3_sl (by decide)
        · decide
  · unfold Bi.step; rw [if_pos hd]; exact Wn.refl _ _
theorem Sk.wn {t : Sk} (ht : t.wf) (hs : t.s = s) : Wn s w.ws (t.step w).2.ws := by
  rcases step_cases t w with ⟨hd, e⟩ | ⟨hd, hc⟩
  · rw [e]; exact Wn.refl _ _
  obtain ⟨ok, nd⟩ := ht.nw hd
  rcases hc with ⟨m, en, e⟩ | ⟨m, en, e⟩ | ⟨m, en, e⟩ | ⟨en, e⟩ | ⟨m, en, e⟩ | ⟨m, en, e⟩ <;> rw [e] <;> (try rw [en] at ok)
  · exact Tk.wn ok.1 (ok.2.1.trans hs)
  · exact Sc.wn ok.1 (ok.2.1.trans hs)
  · exact Pc.wn ok.1 (ok.2.1.trans hs)
  · exact Wn.refl _ _
  · exact St.wn ok.1 (ok.2.1.trans hs)
  · exact Bi.wn ok.1 (ok.2.1.trans hs)
theorem Rn.wn {t : Rn} (ht : t.wf) (hs : t.s = s) : Wn s w.ws (t.step w).2.ws := by
  rcases step_cases ht w with ⟨hd, e⟩ | ⟨hd, hc⟩
  · rw [e]; exact Wn.refl _ _
  obtain ⟨hm, hfd, ar⟩ := ht.of hd
  unfold Ar at ar
  rw [hs] at ar hm
  obtain ⟨-, -, n1, n8, h0, h1, a0, x0, x5, ar4, ar3, ar4', ar5⟩ := ar
  rcases hc with ⟨hn, e⟩ | ⟨hn, e⟩ | ⟨hn, q, hq, hqw, hqd, hqs, hqc, hqp, e⟩ | ⟨hn, e⟩ | ⟨hn, e⟩ | ⟨hn, e⟩ <;> rw [e]
  · exact Wn.refl _ _
  · have a1 := ar4 (by omega)
    show Wn s w.ws (w.swap t.c t.pat 0 (held t.c)).ws
    by_cases e2 : w.get t.pat = 0
    · rw [swap_yes e2]; unfold pat; rw [hs]
      obtain ⟨g0, g1⟩ := pg_ge hm (by omega : 0 ≤ t.at') (by omega)
      exact Wn.up g0 g1 (n3_pg (by decide))
    · rw [swap_no e2]; exact Wn.refl _ _
  · exact St.wn hqw (hqs.trans hs)
  · have a1 := ar4 (by omega)
    obtain ⟨i0, i1⟩ := ar3 hn
    show Wn s w.ws (w.store t.c t.sat 0).ws
    rw [store_ws]; unfold sat; rw [hs]
    obtain ⟨g0, g1⟩ := sl_ge hm (by omega : 0 ≤ t.at') (by omega) i0 i1
    exact Wn.up g0 g1 (by decide)
  · have a1 := ar4 (by omega)
    obtain ⟨i0, i1, -⟩ := ar4' hn
    show Wn s w.ws (w.store t.c t.bat 0).ws
    rw [store_ws]; unfold bat; rw [hs]
    obtain ⟨g0, g1⟩ := pg_ge hm (by omega : 0 ≤ t.i - 1) (by omega)
    exact Wn.up g0 g1 (by decide)
  · obtain ⟨e5, i0, i1⟩ := ar5 hn
    show Wn s w.ws (w.store t.c t.iat (putPg 4 t.hd 0)).ws
    rw [store_ws]; unfold iat; rw [hs]
    obtain ⟨g0, g1⟩ := pg_ge hm (by omega : 0 ≤ t.i) (by omega)
    exact Wn.up g0 g1 (n3_pg (by decide))
theorem Rv.wn {c : Int} {t : Rv} (ht : t.wf) (hs : t.of s c) : Wn s w.ws (t.step w).2.ws := by
  cases t with
  | sk t => exact Sk.wn ht hs.1
  | rn t => exact Rn.wn ht hs.1
  | no => exact Wn.refl _ _
end
end Go.Ma
namespace Go.Ma
open Go.Pl
namespace Rv
def ho : Rv → Ow.Ho
  | .sk t => t.ho
  | .rn t => t.ho
  | .no => Ow.nil
def In (s : Sh) (c : Int) (t : Rv) (ws : Nat → Int) : Prop := match t with
  | .sk t => Sk.In s c t ws
  | .rn t => Rn.In s c t ws
  | .no => Ow.Own s ws c Ow.nil
section
variable {s : Sh} {c : Int} {t : Rv} {w : Wd} {ws ws' : Nat → Int}
theorem In.step (h : In s c t w.ws) (hB : Ow.Bs s w.ws) : Ow.Nx s c w.ws (t.step w).2.ws (t.step w).1.ho ∧ In s c (t.step w).1 (t.step w).2.ws := by
  cases t with
  | sk t => exact Sk.In.step h hB
  | rn t => exact Rn.In.step h hB
  | no => exact ⟨Ow.Nx.id hB h, h⟩
theorem In.rel (h : In s c t ws) (r : Ow.Rel s c ws ws') : In s c t ws' := by
  cases t with
  | sk t => exact Sk.In.rel h r
  | rn t => exact Rn.In.rel h r
  | no => exact Ow.Own.rel h r
theorem In.new (hm : may s.p s.c s.m = true) (c0 : 0 ≤ c) (c1 : c < s.c) (n f : Int) (ow : Ow.Own s ws c Ow.nil) : In s c (Rv.new s c n f) ws := by
  unfold Rv.new
  split
  · exact Sk.In.new hm c0 c1 _ _ ow
  · split
    · exact Rn.In.new hm c0 c1 _ ow
    · exact ow
end
end Rv
namespace Gt
def sh (m : Int) : Sh := ⟨m, 2, 0⟩
/-- A heap that is one block of m pages. -/
def one (m : Int) (j : Nat) : Int := if (j : Int) = 2 then 3 + 16 * m else if 2 < (j : Int) ∧ (j : Int) < 2 + m then 4 else 0
structure Inv (m : Int) (k : Gv) (t : Rv) (w : Wd) : Prop where
  of : w.of (sh m)
  bs : Ow.Bs (sh m) w.ws
  ik : Gv.In (sh m) 0 k w.ws
  it : Rv.In (sh m) 1 t w.ws
  st : ∀ j : Nat, (j : Int) < 2 → w.ws j = 0
  n3 : ∀ j : Nat, w.ws j % 16 = 3 → j = 2
  ng : k.gv = false → Kj (sh m) (one m) w.ws ∧ t.Nf (sh m) (one m) ∧ k.dn = false ∧ (k.nx = 0 ∨ (k.nx = 1 ∧ k.pK = 3 ∧ k.wd = 3 + 16 * m))
  g3 : k.gv = true → w.ws 2 % 16 ≠ 3
  ka : k.pg = 0 ∧ k.off = 0
section
variable {m : Int} {k : Gv} {t : Rv} {w : Wd}
end
end Gt
end Go.Ma
namespace Go.Ma
open Go.Pl
open Ow
/-- No word that is of a block is otherwise. -/
def Ks (ws ws' : Nat → Int) : Prop := ∀ j : Nat, ws j % 16 = 3 → ws' j = ws j
theorem Ks.refl (ws : Nat → Int) : Ks ws ws := fun _ _ => rfl
theorem Ks.up {ws : Nat → Int} {a y : Int} (h : ws a.toNat % 16 ≠ 3) : Ks ws (upW ws a y) := fun j hj => by
  unfold upW
  split
  · rename_i e; rw [e] at hj; exact absurd hj h
  · rfl
section
variable {s : Sh} {w : Wd} {c : Int}
theorem held_sl {q i : Int} (hc : s.c ≤ 12) {ws : Nat → Int} (h : Pg s ws q) (hq : pgAt s ws q = 1 + 16 * c) (c0 : 0 ≤ c) (i0 : 0 ≤ i) (i1 : i < 16) : slAt s ws q i % 16 ≠ 3 := by
  cases h with
  | e h z => omega
  | h c' c0' c1' h z => have := z i i0 i1; omega
  | s k h z => have := h.mod; omega
  | l n n1 n8 nq h z b => omega
  | b h h0 h1 h2 e z ww => omega
theorem sl_up (hm : may s.p s.c s.m = true) {q i y : Int} {ws : Nat → Int} (q0 : 0 ≤ q) (q1 : q < s.p) (i0 : 0 ≤ i) (i1 : i < 16) (h : slAt s ws q i % 16 ≠ 3) : Ks ws (upW ws (slot s.p s.c s.m q i) y) := by
  refine Ks.up ?_
  rw [slot_yes hm q0 q1 i0 i1]; exact h
theorem pg_up {q y : Int} {ws : Nat → Int} (h : pgAt s ws q % 16 ≠ 3) : Ks ws (upW ws (page s.p s.c s.m q) y) := Ks.up h
theorem St.ks {t : St} {A : Int → Prop} {B : Int → Int → Prop} (hs' : t.s = s) (hc' : t.c = c) (wf : t.wf) (hd : t.dn = false) (hh : t.hd = false) (ho : Own s w.ws c ⟨fun q => A q ∨ t.hp q, B, t.hs⟩) (hk : 0 < t.i → Sup s t.k (pgAt s w.ws t.p)) : Ks w.ws (t.step w).2.ws := by
  obtain ⟨hm, c0, c1, p0, p1, k0, i0, i1, hbk⟩ := wf.of hd
  rw [hs'] at hm p1
  have hsl := slots_bd t.k
  obtain ⟨kk0, kk3⟩ := slots_k k0
  unfold St.step
  rw [if_neg (by rw [hd]; decide)]
  split
  · rename_i e
    have := hbk e
    have g := (ho.sl t.p (t.i - 1) p0 p1 (by omega) (by omega)).2 (.inl ⟨hh, rfl, by omega, by omega⟩)
    rw [store_ws]; unfold St.at'; rw [hs']
    exact sl_up hm p0 p1 (by omega) (by omega) (by rw [g.2]; omega)
  · split
    · have := (hk (by omega)).mod
      rw [store_ws]; unfold St.pat; rw [hs']
      exact pg_up (by omega)
    · show Ks w.ws (w.swap t.c (t.at' t.i) (opn t.k) (way t.c)).ws
      by_cases e : w.get (t.at' t.i) = opn t.k
      · rw [swap_yes e]
        refine Ks.up ?_
        have e : w.ws (t.at' t.i).toNat = opn t.k := e
        rw [e, opn_v kk0 (by omega)]; omega
      · rw [swap_no e]; exact Ks.refl _
theorem Bi.ks {t : Bi} (hs' : t.s = s) (hc' : t.c = c) (wf : t.wf) (hd : t.dn = false) (hB : Bs s w.ws) (ho : Own s w.ws c t.ho) : Ks w.ws (t.step w).2.ws := by
  obtain ⟨hm, c0, c1, p0, p1, k0, i0, i1, hbd⟩ := wf.of hd
  rw [hs'] at hm p1
  have hb := (may_iff _ _ _).1 hm
  rw [hc'] at c0
  have hsl := slots_bd t.k
  unfold Bi.step
  rw [if_neg (by rw [hd]; decide)]
  split
  · rename_i e
    have := hbd e
    have g := (ho.sl t.p t.i p0 p1 (by omega) (by omega)).2 (.inl ⟨e, rfl, by omega, Int.le_refl _⟩)
    rw [store_ws]; unfold Bi.at'; rw [hs']
    exact sl_up hm p0 p1 (by omega) (by omega) (by rw [g.2]; omega)
  · rename_i e
    have hh := (ho.pg t.p p0 p1).2 ⟨by simpa using e, rfl⟩
    split
    · rw [store_ws]; unfold Bi.pat; rw [hs']
      exact pg_up (by rw [hh]; omega)
    · rw [store_ws]; unfold Bi.at'; rw [hs']
      exact sl_up hm p0 p1 i0 (by omega) (held_sl (by omega) (hB.pg _ p0 p1) hh c0 i0 (by omega))
theorem Sk.In.ks {t : Sk} (h : Sk.In s c t w.ws) (hB : Bs s w.ws) : Ks w.ws (t.step w).2.ws := by
  have hm := h.m
  have hb := (may_iff _ _ _).1 hm
  have c0 := h.c0
  have hts := h.es
  have htc := h.ec
  have ow := h.ow
  have ft := h.ft
  rcases step_cases t w with ⟨hd, e⟩ | ⟨hd, hc⟩
  · rw [e]; exact Ks.refl _
  obtain ⟨ok, nd⟩ := h.wf.nw hd
  rcases hc with ⟨m, en, e⟩ | ⟨m, en, e⟩ | ⟨m, en, e⟩ | ⟨en, e⟩ | ⟨m, en, e⟩ | ⟨m, en, e⟩ <;> rw [e] <;> (try rw [en] at ok nd)
  · have nd : m.dn = false := nd
    obtain ⟨o1, o2, o3, o4, -, -⟩ := ok
    obtain ⟨-, -, d1, i0, i1⟩ := o1.of nd
    rw [o2, hts] at i1
    show Ks w.ws (m.step w).2.ws
    unfold Tk.step
    rw [if_neg (by rw [nd]; decide)]
    split
    · rw [store_ws]
      refine Ks.up ?_
      have hat : w.ws m.at'.toNat = mgAt s w.ws c m.i := by
        unfold Tk.at' mgAt; rw [o2, hts, o3, htc, mag_yes hm c0 h.c1 i0 i1]
      rw [hat]
      by_cases hz : mgAt s w.ws c m.i = 0
      · rw [hz]; decide
      · obtain ⟨p, i, k, -, -, -, -, e, -⟩ := hB.mg c m.i c0 h.c1 i0 i1 hz
        omega
    · split <;> exact Ks.refl _
  · have nd : m.dn = false := nd
    obtain ⟨o1, o2, o3, o4, -⟩ := ok
    obtain ⟨-, -, -, -, -, -, -, j0, j1, -⟩ := o1.of nd
    obtain ⟨kk0, kk3⟩ := slots_k (k := m.k) (by omega)
    show Ks w.ws (m.step w).2.ws
    unfold Sc.step
    rw [if_neg (by rw [nd]; decide)]
    split
    · exact Ks.refl _
    · split
      · exact Ks.refl _
      · show Ks w.ws (w.swap m.c m.at' (opn m.k) (way m.c)).ws
        by_cases e : w.get m.at' = opn m.k
        · rw [swap_yes e]
          refine Ks.up ?_
          have e : w.ws m.at'.toNat = opn m.k := e
          rw [e, opn_v kk0 (by omega)]; omega
        · rw [swap_no e]; exact Ks.refl _
  · have nd : m.dn = false := nd
    show Ks w.ws (m.step w).2.ws
    unfold Pc.step
    rw [if_neg (by rw [nd]; decide)]
    split
    · show Ks w.ws (w.swap m.c m.at' 0 (held m.c)).ws
      by_cases e : w.get m.at' = 0
      · rw [swap_yes e]
        refine Ks.up ?_
        have e : w.ws m.at'.toNat = 0 := e
        rw [e]; decide
      · rw [swap_no e]; exact Ks.refl _
    · exact Ks.refl _
  · exact Ks.refl _
  · have nd : m.dn = false := nd
    obtain ⟨o1, o2, o3, o4, o5⟩ := ok
    rw [ho_st hd en] at ow
    rw [Ft_of hd en] at ft
    exact St.ks (A := fun _ => False) (B := fun _ _ => False) (o2.trans hts) (o3.trans htc) o1 nd ft.1 (ow.congr (fun q => ⟨fun g => g.resolve_left id, .inr⟩) (fun _ _ => Iff.rfl) fun _ _ => Iff.rfl) ft.2
  · have nd : m.dn = false := nd
    obtain ⟨o1, o2, o3, -⟩ := ok
    rw [ho_bi hd en] at ow
    exact Bi.ks (o2.trans hts) (o3.trans htc) o1 nd hB ow
theorem Rn.In.ks {t : Rn} (h : Rn.In s c t w.ws) (hB : Bs s w.ws) : Ks w.ws (t.step w).2.ws := by
  have hm := h.m
  have hb := (may_iff _ _ _).1 hm
  have c0 := h.c0
  have hts := h.es
  have htc := h.ec
  have ow := h.ow
  rcases step_cases h.wf w with ⟨hd, e⟩ | ⟨hd, hc⟩
  · rw [e]; exact Ks.refl _
  obtain ⟨-, hfd, ar⟩ := h.wf.of hd
  unfold Ar at ar
  rw [hts] at ar
  obtain ⟨-, -, n1, n8, h0, h1, a0, x0, x5, ar4, ar3, ar4', ar5⟩ := ar
  rcases hc with ⟨hn, e⟩ | ⟨hn, e⟩ | ⟨hn, q, hq, hqw, hqd, hqs, hqc, hqp, e⟩ | ⟨hn, e⟩ | ⟨hn, e⟩ | ⟨hn, e⟩ <;> rw [e]
  · exact Ks.refl _
  · show Ks w.ws (w.swap t.c t.pat 0 (held t.c)).ws
    by_cases e2 : w.get t.pat = 0
    · rw [swap_yes e2]
      refine Ks.up ?_
      have e2 : w.ws t.pat.toNat = 0 := e2
      rw [e2]; decide
    · rw [swap_no e2]; exact Ks.refl _
  · rw [ho_2 hd hn hq] at ow
    have hqh : q.hd = false := by
      obtain ⟨q', e', -, -, -, -, -, g⟩ := h.wf.q hd hn
      rw [hq] at e'; injection e' with e'; rw [e']; exact g
    exact St.ks (A := fun q => t.hd ≤ q ∧ q < t.at') (B := fun _ _ => False) (hqs.trans hts) (hqc.trans htc) hqw hqd hqh (ow.congr (fun x => ⟨fun g => (by rcases g with g | ⟨g, -⟩; exact g; rw [hqh] at g; cases g), .inl⟩) (fun _ _ => Iff.rfl) fun _ _ => Iff.rfl) (h.ft.st hd hn q hq)
  · have a1 := ar4 (by omega)
    obtain ⟨i0, i1⟩ := ar3 hn
    rw [ho_3 hd hn] at ow
    have hh := (ow.pg t.at' (by omega) (by omega)).2 ⟨a0, by omega⟩
    show Ks w.ws (w.store t.c t.sat 0).ws
    rw [store_ws]; unfold sat; rw [hts]
    exact sl_up hm (by omega) (by omega) i0 i1 (held_sl (by omega) (hB.pg _ (by omega) (by omega)) hh c0 i0 i1)
  · have a1 := ar4 (by omega)
    obtain ⟨i0, i1, -⟩ := ar4' hn
    rw [ho_4 hd hn] at ow
    have hh := (ow.pg (t.i - 1) (by omega) (by omega)).2 ⟨by omega, by omega⟩
    show Ks w.ws (w.store t.c t.bat 0).ws
    rw [store_ws]; unfold bat; rw [hts]
    exact pg_up (by rw [hh]; omega)
  · obtain ⟨e5, i0, i1⟩ := ar5 hn
    rw [ho_5 hd hn] at ow
    have hh := (ow.pg t.i (by omega) (by omega)).2 (.inr ⟨Int.le_refl _, i1⟩)
    show Ks w.ws (w.store t.c t.iat (putPg 4 t.hd 0)).ws
    rw [store_ws]; unfold iat; rw [hts]
    exact pg_up (by rw [hh]; omega)
end
end Go.Ma
