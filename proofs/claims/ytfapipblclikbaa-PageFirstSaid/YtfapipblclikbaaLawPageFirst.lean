/-
  PageFirst, walked: alone a claimer comes to the first empty page. Conditions: none.
-/
import Derived.Test.YtfapipblclikbaaPageK
import Derived.Test.YtfapipblclikbaaRow
import Derived.Test.YtfapipblclikbaaMaAlone
import Derived.Test.YtfapipblclikbaaFrame
set_option linter.unusedVariables false
set_option linter.unusedSimpArgs false
set_option maxRecDepth 8000
namespace Go.Proofs.Ytfapipblclikbaa
open Go Go.Ev Go.Pl Go.Ma

theorem rowW_get {n : Nat} {ws : Nat → Int} {q : Int} (h1 : q.toNat < n) : (rowW n ws).get q = ws q.toNat := by
  show (if _ then _ else _) = _; rw [if_pos h1]
section
variable {W : World} {H h : Hp} {l : List Hp} {n cap : Nat} {a : Option Addr} {ws : Nat → Int}

def pf1 (sh : Sh) (f : Int) (w0 : Wd) (n cap : Nat) (a : Option Addr) (x y b k : Nat) (L : List Hp) (F' : Fr) (H' : Hp) : Prop :=
  ∃ (i want : Int), -1 ≤ i ∧ i < sh.p ∧ -1 ≤ want ∧ want ≤ 100 ∧ gt F' 10 = .int .i64 i ∧ gt F' 9 = .int .i64 want ∧ (gt F' 1 = .slice a n cap ∧ gt F' 3 = .pointer (some ⟨x, 0, none⟩) ∧ gt F' 5 = .pointer (some ⟨y, 0, none⟩) ∧ gt F' 7 = .pointer (some ⟨b, 0, none⟩) ∧ gt F' 8 = .pointer (some ⟨k, 0, none⟩)) ∧
    Pc.First sh f w0 (i + 1) want ∧ Sep L H'
def pf2 (sh : Sh) (c f : Int) (w0 : Wd) (want : Int) (n cap : Nat) (a : Option Addr) (x y b s k : Nat) (L : List Hp) (F' : Fr) (H' : Hp) : Prop :=
  ∃ (i : Int) (t : Pc) (w : Wd), 0 ≤ i ∧ i ≤ 2 * sh.p + 2 ∧ gt F' 12 = .int .i64 i ∧ gt F' 9 = .int .i64 want ∧ (gt F' 1 = .slice a n cap ∧ gt F' 3 = .pointer (some ⟨x, 0, none⟩) ∧ gt F' 5 = .pointer (some ⟨y, 0, none⟩) ∧ gt F' 7 = .pointer (some ⟨b, 0, none⟩) ∧ gt F' 8 = .pointer (some ⟨k, 0, none⟩)) ∧
    Pc.Al sh c f w0 t w ∧ w.of sh ∧ t.left ≤ max 0 (2 * sh.p - i) ∧ Sep (pcB k t :: wB b s w :: wR s w :: L) H'
def pf3 (want : Int) (ok : Bool) (n cap cap2 : Nat) (a a2 : Option Addr) (x y : Nat) (L : List Hp) (F' : Fr) (H' : Hp) : Prop :=
  ∃ (j : Nat), j ≤ n ∧ gt F' 16 = .int .i64 (j : Int) ∧ gt F' 9 = .int .i64 want ∧ gt F' 14 = .bool ok ∧ (gt F' 1 = .slice a n cap ∧ gt F' 3 = .pointer (some ⟨x, 0, none⟩) ∧ gt F' 5 = .pointer (some ⟨y, 0, none⟩) ∧ gt F' 15 = .slice a2 n cap2) ∧ Sep L H'

theorem c_pagefirst (sh : Sh) (c f : Int) (hr : RowU h a n ws) (hU : ∀ i, i < n → U (ws i)) (hS : Sep (h :: l) H) :
    CallP Try.prog W 11 #[.agg #[.int .i64 sh.p, .int .i64 sh.c, .int .i64 sh.m], .slice a n cap, .agg #[.int .i64 c, .int .i64 f]] H fun v H' => v = .bool true ∧ Sep (h :: l) H' := by
  refine CallP.of mixed Try.func11 tr11 (by show 3 ≤ _; decide) fun W _ => ?_
  simp only [↓D0, ↓D1, ↓D2, ↓D3, ↓D4, ↓D5, ↓D6, ↓D7, ↓D8, ↓D9, U0, U1, U2, U3, U4, U5, U6, U7, U8, U9, U10, ↓reduceIte, Nat.reduceAdd, Nat.reduceMul, Nat.reduceSub, Nat.reduceEqDiff, Nat.reduceBEq, Nat.reduceLeDiff, Nat.reduceLT, Int.reduceAdd, Int.reduceMul, Int.reduceSub, Int.reduceLT, Int.reduceLE, Int.reduceToNat, Int.reduceEq, Int.reduceNe, Int.reduceBEq, Int.reduceBNe, ne_eq, eq_self]
  refine newB_intro fun x hx f1 f2 => ?_
  simp only [↓D0, ↓D1, ↓D2, ↓D3, ↓D4, ↓D5, ↓D6, ↓D7, ↓D8, ↓D9, U0, U1, U2, U3, U4, U5, U6, U7, U8, U9, U10, ↓reduceIte, Nat.reduceAdd, Nat.reduceMul, Nat.reduceSub, Nat.reduceEqDiff, Nat.reduceBEq, Nat.reduceLeDiff, Nat.reduceLT, Int.reduceAdd, Int.reduceMul, Int.reduceSub, Int.reduceLT, Int.reduceLE, Int.reduceToNat, Int.reduceEq, Int.reduceNe, Int.reduceBEq, Int.reduceBNe, ne_eq, eq_self]
  refine newB_intro fun y hy f3 f4 => ?_
  have hS := (hS.new f1 (.cells #[.int .i64 sh.p, .int .i64 sh.c, .int .i64 sh.m] 57 (0, 0))).new f3 (.cells #[.int .i64 c, .int .i64 f] 73 (0, 0))
  simp only [↓D0, ↓D1, ↓D2, ↓D3, ↓D4, ↓D5, ↓D6, ↓D7, ↓D8, ↓D9, U0, U1, U2, U3, U4, U5, U6, U7, U8, U9, U10, ↓reduceIte, Nat.reduceAdd, Nat.reduceMul, Nat.reduceSub, Nat.reduceEqDiff, Nat.reduceBEq, Nat.reduceLeDiff, Nat.reduceLT, Int.reduceAdd, Int.reduceMul, Int.reduceSub, Int.reduceLT, Int.reduceLE, Int.reduceToNat, Int.reduceEq, Int.reduceNe, Int.reduceBEq, Int.reduceBNe, ne_eq, eq_self]
  refine callT_of (c_awake10 hS) ?_
  rintro v H' ⟨rfl, hS⟩
  have hx1 := hS.lk 1 rfl
  have hy1 := hS.look
  have r1 := fun o n => rdn_of hx1 o n
  simp only [hx1, hy1, r1, ↓D0, ↓D1, ↓D2, ↓D3, ↓D4, ↓D5, ↓D6, ↓D7, ↓D8, ↓D9, U0, U1, U2, U3, U4, U5, U6, U7, U8, U9, U10, ↓reduceIte, Nat.reduceAdd, Nat.reduceMul, Nat.reduceSub, Nat.reduceEqDiff, Nat.reduceBEq, Nat.reduceLeDiff, Nat.reduceLT, Int.reduceAdd, Int.reduceMul, Int.reduceSub, Int.reduceLT, Int.reduceLE, Int.reduceToNat, Int.reduceEq, Int.reduceNe, Int.reduceBEq, Int.reduceBNe, ne_eq, eq_self]
  refine callT_of (c_fair (sh := sh) hS) ?_
  rintro v H' ⟨rfl, hS⟩
  have hx1 := hS.lk 1 rfl
  have hy1 := hS.look
  have r1 := fun o n => rdn_of hx1 o n
  have r2 := fun o => rd_of hy1 o
  have i0 : (0 : Int) < ((2 : Nat) : Int) := by decide
  have i1 : (1 : Int) < ((2 : Nat) : Int) := by decide
  cases hfair : (may sh.p sh.c sh.m && ((n : Int) == words sh.p sh.c sh.m))
  · simp only [hfair, hx1, hy1, r1, r2, i0, i1, ↓D0, ↓D1, ↓D2, ↓D3, ↓D4, ↓D5, ↓D6, ↓D7, ↓D8, ↓D9, U0, U1, U2, U3, U4, U5, U6, U7, U8, U9, U10, ↓reduceIte, Nat.reduceAdd, Nat.reduceMul, Nat.reduceSub, Nat.reduceEqDiff, Nat.reduceBEq, Nat.reduceLeDiff, Nat.reduceLT, Int.reduceAdd, Int.reduceMul, Int.reduceSub, Int.reduceLT, Int.reduceLE, Int.reduceToNat, Int.reduceEq, Int.reduceNe, Int.reduceBEq, Int.reduceBNe, ne_eq, eq_self]
    exact hS.tail.tail
  have hfair2 := hfair
  simp only [Bool.and_eq_true, beq_iff_eq] at hfair2
  obtain ⟨hm, hn⟩ := hfair2
  have hwl := words_le hm
  have hn2 : n ≤ 2000 := by omega
  obtain ⟨a1, a2, a3, a4, a5, a6⟩ := (may_iff _ _ _).1 hm
  by_cases hst : 0 ≤ c ∧ c < sh.c
  case neg =>
    have g1 : decide (status sh.p sh.c sh.m c < 0) = true := decide_eq_true ((status_lt0 _ _ _ _).2 fun h => hst h.2)
    simp only [hfair, hx1, hy1, r1, r2, i0, i1, u_status, g1, ↓D0, ↓D1, ↓D2, ↓D3, ↓D4, ↓D5, ↓D6, ↓D7, ↓D8, ↓D9, U0, U1, U2, U3, U4, U5, U6, U7, U8, U9, U10, ↓reduceIte, Nat.reduceAdd, Nat.reduceMul, Nat.reduceSub, Nat.reduceEqDiff, Nat.reduceBEq, Nat.reduceLeDiff, Nat.reduceLT, Int.reduceAdd, Int.reduceMul, Int.reduceSub, Int.reduceLT, Int.reduceLE, Int.reduceToNat, Int.reduceEq, Int.reduceNe, Int.reduceBEq, Int.reduceBNe, ne_eq, eq_self]
    exact hS.tail.tail
  have g1 : decide (status sh.p sh.c sh.m c < 0) = false := decide_eq_false fun h => (status_lt0 _ _ _ _).1 h ⟨hm, hst⟩
  by_cases hpg : 0 ≤ f ∧ f < sh.p
  case neg =>
    have g2 : decide (page sh.p sh.c sh.m f < 0) = true := decide_eq_true ((page_lt0 _ _ _ _).2 fun h => hpg h.2)
    simp only [hfair, hx1, hy1, r1, r2, i0, i1, u_status, u_page, g1, g2, ↓D0, ↓D1, ↓D2, ↓D3, ↓D4, ↓D5, ↓D6, ↓D7, ↓D8, ↓D9, U0, U1, U2, U3, U4, U5, U6, U7, U8, U9, U10, ↓reduceIte, Nat.reduceAdd, Nat.reduceMul, Nat.reduceSub, Nat.reduceEqDiff, Nat.reduceBEq, Nat.reduceLeDiff, Nat.reduceLT, Int.reduceAdd, Int.reduceMul, Int.reduceSub, Int.reduceLT, Int.reduceLE, Int.reduceToNat, Int.reduceEq, Int.reduceNe, Int.reduceBEq, Int.reduceBNe, ne_eq, eq_self]
    exact hS.tail.tail
  have g2 : decide (page sh.p sh.c sh.m f < 0) = false := decide_eq_false fun h => (page_lt0 _ _ _ _).1 h ⟨hm, hpg⟩
  simp only [hfair, hx1, hy1, r1, r2, i0, i1, u_status, u_page, g1, g2, ↓D0, ↓D1, ↓D2, ↓D3, ↓D4, ↓D5, ↓D6, ↓D7, ↓D8, ↓D9, U0, U1, U2, U3, U4, U5, U6, U7, U8, U9, U10, ↓reduceIte, Nat.reduceAdd, Nat.reduceMul, Nat.reduceSub, Nat.reduceEqDiff, Nat.reduceBEq, Nat.reduceLeDiff, Nat.reduceLT, Int.reduceAdd, Int.reduceMul, Int.reduceSub, Int.reduceLT, Int.reduceLE, Int.reduceToNat, Int.reduceEq, Int.reduceNe, Int.reduceBEq, Int.reduceBNe, ne_eq, eq_self]
  refine callT_of (c_fill hn2 hr hS.p2) ?_
  rintro v H' ⟨b, s, rfl, hS⟩
  have hx1 := hS.lk 4 rfl
  have hy1 := hS.lk 3 rfl
  have r1 := fun o n => rdn_of hx1 o n
  have r2 := fun o => rd_of hy1 o
  simp only [hx1, hy1, r1, r2, i0, i1, ↓D0, ↓D1, ↓D2, ↓D3, ↓D4, ↓D5, ↓D6, ↓D7, ↓D8, ↓D9, U0, U1, U2, U3, U4, U5, U6, U7, U8, U9, U10, ↓reduceIte, Nat.reduceAdd, Nat.reduceMul, Nat.reduceSub, Nat.reduceEqDiff, Nat.reduceBEq, Nat.reduceLeDiff, Nat.reduceLT, Int.reduceAdd, Int.reduceMul, Int.reduceSub, Int.reduceLT, Int.reduceLE, Int.reduceToNat, Int.reduceEq, Int.reduceNe, Int.reduceBEq, Int.reduceBNe, ne_eq, eq_self]
  refine callT_of (c_pcnew (sh := sh) hS) ?_
  rintro v H' ⟨k, rfl, hS⟩
  have hx1 := hS.lk 5 rfl
  have r0 := fun o => rd_of hx1 o
  have wp : w64 (sh.p - 1) = sh.p - 1 := w64_eq (by omega) (by omega)
  simp only [hx1, r0, wrap_w64, wp, ↓D0, ↓D1, ↓D2, ↓D3, ↓D4, ↓D5, ↓D6, ↓D7, ↓D8, ↓D9, U0, U1, U2, U3, U4, U5, U6, U7, U8, U9, U10, ↓reduceIte, Nat.reduceAdd, Nat.reduceMul, Nat.reduceSub, Nat.reduceEqDiff, Nat.reduceBEq, Nat.reduceLeDiff, Nat.reduceLT, Int.reduceAdd, Int.reduceMul, Int.reduceSub, Int.reduceLT, Int.reduceLE, Int.reduceToNat, Int.reduceEq, Int.reduceNe, Int.reduceBEq, Int.reduceBNe, ne_eq, eq_self]
  have hof := rowW_of (ws := ws) hn hU
  have hmd := fun z => mod_bd (a := z) (p := sh.p) (by omega)
  refine loop_intro (pf1 sh f (rowW n ws) n cap a x y b k (pcB k (Pc.new sh c f) :: wB b s (rowW n ws) :: wR s (rowW n ws) :: h :: sg y (.cells #[.int .i64 c, .int .i64 f] 73 (0, 0)) :: sg x (.cells #[.int .i64 sh.p, .int .i64 sh.c, .int .i64 sh.m] 57 (0, 0)) :: l)) (fun F' _ => (iv (gt F' 10) + 1).toNat)
    ⟨sh.p - 1, -1, by omega, by omega, by omega, by omega, rfl, rfl, ⟨rfl, rfl, rfl, rfl, rfl⟩, by rw [show sh.p - 1 + 1 = sh.p by omega]; exact Pc.First.top, hS⟩ ?_
  rintro F' H' ⟨i, want, h0, h1, w0, w1, e10, e9, ⟨e1, e3, e5, e7, e8⟩, hF, hS⟩
  have hx1 := hS.lk 5 rfl
  have hy1 := hS.lk 4 rfl
  have r0 := fun o => rd_of hx1 o
  have r1 := fun o n => rdn_of hx1 o n
  have r2 := fun o => rd_of hy1 o
  by_cases hi : 0 ≤ i
  · have d1 : decide (0 ≤ i) = true := decide_eq_true hi
    have wf1 : w64 (f + i) = f + i := w64_eq (by omega) (by omega)
    have wi : w64 (i - 1) = i - 1 := w64_eq (by omega) (by omega)
    have p0 : (sh.p = 0) = False := eq_false (by omega)
    have et : (f + i).tmod sh.p = (f + i) % sh.p := Int.tmod_eq_emod_of_nonneg (by omega)
    have wq : w64 ((f + i) % sh.p) = (f + i) % sh.p := w64_eq (by have := hmd (f + i); omega) (by have := hmd (f + i); omega)
    have pin := page_in hof hm (hmd (f + i)).1 (hmd (f + i)).2
    have hnn : (rowW n ws).n = n := rfl
    rw [hnn] at pin
    obtain ⟨q, hq⟩ : ∃ q, page sh.p sh.c sh.m ((f + i) % sh.p) = q := ⟨_, rfl⟩
    rw [hq] at pin
    obtain ⟨xb, xo, rfl, hrd⟩ := (hr.sub (hS.sb h (by simp))).at' (i := q.toNat) (by omega)
    have q0 := pin.1
    have q1 := pin.2
    have hgq : (rowW n ws).get q = ws q.toNat := rowW_get (by omega)
    cases hz : (ws q.toNat == 0)
    · have hz' : (rowW n ws).get (page sh.p sh.c sh.m ((f + i) % sh.p)) ≠ 0 := by rw [hq, hgq]; exact beq_eq_false_iff_ne.1 hz
      simp only [e10, e9, e1, e3, e5, e7, e8, d1, hx1, hy1, r0, r1, r2, i0, i1, wrap_w64, wf1, wi, p0, et, wq, u_page, hq, q0, q1, hrd, hz, ↓D0, ↓D1, ↓D2, ↓D3, ↓D4, ↓D5, ↓D6, ↓D7, ↓D8, ↓D9, U0, U1, U2, U3, U4, U5, U6, U7, U8, U9, U10, ↓reduceIte, Nat.reduceAdd, Nat.reduceMul, Nat.reduceSub, Nat.reduceEqDiff, Nat.reduceBEq, Nat.reduceLeDiff, Nat.reduceLT, Int.reduceAdd, Int.reduceMul, Int.reduceSub, Int.reduceLT, Int.reduceLE, Int.reduceToNat, Int.reduceEq, Int.reduceNe, Int.reduceBEq, Int.reduceBNe, ne_eq, eq_self]
      refine ⟨⟨i - 1, want, by omega, by omega, w0, w1, rfl, by simp [gt, e9], ⟨by simp [gt, e1], by simp [gt, e3], by simp [gt, e5], by simp [gt, e7], by simp [gt, e8]⟩, ?_, hS⟩, by simp [gt, iv, e10]; omega⟩
      rw [show i - 1 + 1 = i by omega]; exact hF.no hz'
    · have hz' : (rowW n ws).get (page sh.p sh.c sh.m ((f + i) % sh.p)) = 0 := by rw [hq, hgq]; exact beq_iff_eq.1 hz
      simp only [e10, e9, e1, e3, e5, e7, e8, d1, hx1, hy1, r0, r1, r2, i0, i1, wrap_w64, wf1, wi, p0, et, wq, u_page, hq, q0, q1, hrd, hz, ↓D0, ↓D1, ↓D2, ↓D3, ↓D4, ↓D5, ↓D6, ↓D7, ↓D8, ↓D9, U0, U1, U2, U3, U4, U5, U6, U7, U8, U9, U10, ↓reduceIte, Nat.reduceAdd, Nat.reduceMul, Nat.reduceSub, Nat.reduceEqDiff, Nat.reduceBEq, Nat.reduceLeDiff, Nat.reduceLT, Int.reduceAdd, Int.reduceMul, Int.reduceSub, Int.reduceLT, Int.reduceLE, Int.reduceToNat, Int.reduceEq, Int.reduceNe, Int.reduceBEq, Int.reduceBNe, ne_eq, eq_self]
      have := hmd (f + i)
      refine ⟨⟨i - 1, (f + i) % sh.p, by omega, by omega, by omega, by omega, rfl, by simp [gt], ⟨by simp [gt, e1], by simp [gt, e3], by simp [gt, e5], by simp [gt, e7], by simp [gt, e8]⟩, ?_, hS⟩, by simp [gt, iv, e10]; omega⟩
      rw [show i - 1 + 1 = i by omega]; exact Pc.First.yes h1 hz'
  have hi1 : i = -1 := by omega
  have d1 : decide (0 ≤ i) = false := decide_eq_false hi
  subst hi1
  have hF : Pc.First sh f (rowW n ws) 0 want := hF
  simp only [e10, e9, e1, e3, e5, e7, e8, d1, ↓D0, ↓D1, ↓D2, ↓D3, ↓D4, ↓D5, ↓D6, ↓D7, ↓D8, ↓D9, U0, U1, U2, U3, U4, U5, U6, U7, U8, U9, U10, ↓reduceIte, Nat.reduceAdd, Nat.reduceMul, Nat.reduceSub, Nat.reduceEqDiff, Nat.reduceBEq, Nat.reduceLeDiff, Nat.reduceLT, Int.reduceAdd, Int.reduceMul, Int.reduceSub, Int.reduceLT, Int.reduceLE, Int.reduceToNat, Int.reduceEq, Int.reduceNe, Int.reduceBEq, Int.reduceBNe, ne_eq, eq_self]
  have hnd := Pc.new_dn hm hst.1 hst.2 hpg.1 hpg.2
  refine loop_intro (pf2 sh c f (rowW n ws) want n cap a x y b s k (h :: sg y (.cells #[.int .i64 c, .int .i64 f] 73 (0, 0)) :: sg x (.cells #[.int .i64 sh.p, .int .i64 sh.c, .int .i64 sh.m] 57 (0, 0)) :: l)) (fun F' _ => (2 * sh.p + 2 - iv (gt F' 12)).toNat)
    ⟨0, Pc.new sh c f, rowW n ws, by omega, by omega, rfl, by simp [gt, e9], ⟨by simp [gt, e1], by simp [gt, e3], by simp [gt, e5], by simp [gt, e7], by simp [gt, e8]⟩, Pc.Al.start (Pc.new_wf sh c f) hnd rfl rfl, hof, by have := Pc.left_le (Pc.new_wf sh c f) (by show 0 ≤ sh.p; omega); have e : (Pc.new sh c f).s.p = sh.p := rfl; rw [e] at this; omega, hS⟩ ?_
  rintro F' H' ⟨i, t, w, h0, h1, e12, e9, ⟨e1, e3, e5, e7, e8⟩, hA, hofw, hlf, hS⟩
  have hx1 := hS.lk 5 rfl
  have r0 := fun o => rd_of hx1 o
  have wm1 : w64 (2 * sh.p) = 2 * sh.p := w64_eq (by omega) (by omega)
  have wm2 : w64 (2 * sh.p + 2) = 2 * sh.p + 2 := w64_eq (by omega) (by omega)
  by_cases hlt : i < 2 * sh.p + 2
  · have d1 : decide (i < 2 * sh.p + 2) = true := decide_eq_true hlt
    have wi : w64 (i + 1) = i + 1 := w64_eq (by omega) (by omega)
    simp only [e12, e9, e1, e3, e5, e7, e8, d1, hx1, r0, wrap_w64, wm1, wm2, ↓D0, ↓D1, ↓D2, ↓D3, ↓D4, ↓D5, ↓D6, ↓D7, ↓D8, ↓D9, U0, U1, U2, U3, U4, U5, U6, U7, U8, U9, U10, ↓reduceIte, Nat.reduceAdd, Nat.reduceMul, Nat.reduceSub, Nat.reduceEqDiff, Nat.reduceBEq, Nat.reduceLeDiff, Nat.reduceLT, Int.reduceAdd, Int.reduceMul, Int.reduceSub, Int.reduceLT, Int.reduceLE, Int.reduceToNat, Int.reduceEq, Int.reduceNe, Int.reduceBEq, Int.reduceBNe, ne_eq, eq_self]
    refine callT_of (c_pcstep hA.wf (fun _ => by rw [hA.hs]; exact hofw) hS) ?_
    rintro v H' ⟨rfl, hS⟩
    simp only [e12, e9, e1, e3, e5, e7, e8, wrap_w64, wi, ↓D0, ↓D1, ↓D2, ↓D3, ↓D4, ↓D5, ↓D6, ↓D7, ↓D8, ↓D9, U0, U1, U2, U3, U4, U5, U6, U7, U8, U9, U10, ↓reduceIte, Nat.reduceAdd, Nat.reduceMul, Nat.reduceSub, Nat.reduceEqDiff, Nat.reduceBEq, Nat.reduceLeDiff, Nat.reduceLT, Int.reduceAdd, Int.reduceMul, Int.reduceSub, Int.reduceLT, Int.reduceLE, Int.reduceToNat, Int.reduceEq, Int.reduceNe, Int.reduceBEq, Int.reduceBNe, ne_eq, eq_self]
    refine ⟨⟨i + 1, (t.step w).1, (t.step w).2, by omega, by omega, rfl, by simp [gt, e9], ⟨by simp [gt, e1], by simp [gt, e3], by simp [gt, e5], by simp [gt, e7], by simp [gt, e8]⟩, hA.step, Pc.step_of hofw, ?_, hS⟩, by simp [gt, iv, e12]; omega⟩
    cases hd : t.dn
    · have := Pc.step_left (w := w) hA.wf hd; omega
    · rw [Pc.step_dn hd]; have : t.left = 0 := by unfold Pc.left; rw [hd]; rfl
      show t.left ≤ _; omega
  have d1 : decide (i < 2 * sh.p + 2) = false := decide_eq_false hlt
  have hd : t.dn = true := Pc.left_dn hA.wf (by have := Pc.left_nn hA.wf; omega)
  obtain ⟨hfd, hpgw⟩ := hA.first hd (by omega) hF
  simp only [e12, e9, e1, e3, e5, e7, e8, d1, hx1, r0, wrap_w64, wm1, wm2, ↓D0, ↓D1, ↓D2, ↓D3, ↓D4, ↓D5, ↓D6, ↓D7, ↓D8, ↓D9, U0, U1, U2, U3, U4, U5, U6, U7, U8, U9, U10, ↓reduceIte, Nat.reduceAdd, Nat.reduceMul, Nat.reduceSub, Nat.reduceEqDiff, Nat.reduceBEq, Nat.reduceLeDiff, Nat.reduceLT, Int.reduceAdd, Int.reduceMul, Int.reduceSub, Int.reduceLT, Int.reduceLE, Int.reduceToNat, Int.reduceEq, Int.reduceNe, Int.reduceBEq, Int.reduceBNe, ne_eq, eq_self]
  refine callT_of (c_pcfound (fun _ => ⟨by rw [hA.hs]; omega, by rw [hA.hf]; have := hA.many; omega, by rw [hA.hf]; have := hA.many; omega⟩) hS) ?_
  rintro v H' ⟨rfl, hS⟩
  simp only [e12, e9, e1, e3, e5, e7, e8, ↓D0, ↓D1, ↓D2, ↓D3, ↓D4, ↓D5, ↓D6, ↓D7, ↓D8, ↓D9, U0, U1, U2, U3, U4, U5, U6, U7, U8, U9, U10, ↓reduceIte, Nat.reduceAdd, Nat.reduceMul, Nat.reduceSub, Nat.reduceEqDiff, Nat.reduceBEq, Nat.reduceLeDiff, Nat.reduceLT, Int.reduceAdd, Int.reduceMul, Int.reduceSub, Int.reduceLT, Int.reduceLE, Int.reduceToNat, Int.reduceEq, Int.reduceNe, Int.reduceBEq, Int.reduceBNe, ne_eq, eq_self]
  refine callT_of (c_pcdone hS) ?_
  rintro v H' ⟨rfl, hS⟩
  have hrest := hA.rest
  have hnw : w.n = n := hA.hn
  have hat : t.fd = true → t.at' = page sh.p sh.c sh.m want := fun h => by unfold Pc.at'; rw [hpgw h, hA.hs]
  have key : ∀ (j : Nat), j < n → (w.ws j != ws j) = false ∨ ((w.ws j != ws j) = true ∧ t.fd = true ∧ ((j : Int) == page sh.p sh.c sh.m want) = true ∧ (w.ws j == putPg 1 c 0) = true) := fun j hj => by
    cases hb : (w.ws j != ws j)
    · exact .inl rfl
    · right
      have hb' : w.ws j ≠ ws j := by simpa using hb
      have e0 : (rowW n ws).ws j = ws j := by show (if _ then _ else _) = _; rw [if_pos hj]
      rcases hrest j with h1 | ⟨h1, h2, h3⟩
      · rw [e0] at h1; exact absurd h1 hb'
      · refine ⟨rfl, h1, ?_, beq_iff_eq.2 h3⟩
        rw [hat h1] at h2
        have hpgin : 0 ≤ page sh.p sh.c sh.m want := by
          have hpw := hpgw h1
          have : t.pg = (t.f + t.many) % t.s.p := rfl
          rw [hA.hs] at this
          have hb2 := hmd (t.f + t.many)
          rw [page_yes hm (by omega) (by omega)]; omega
        exact beq_iff_eq.2 (by omega)
  cases hok : t.fd
  · have hw1 : decide (0 ≤ want) = false := by rw [← hfd, hok]
    simp only [e12, e9, e1, e3, e5, e7, e8, hd, hok, hw1, ↓D0, ↓D1, ↓D2, ↓D3, ↓D4, ↓D5, ↓D6, ↓D7, ↓D8, ↓D9, U0, U1, U2, U3, U4, U5, U6, U7, U8, U9, U10, ↓reduceIte, Nat.reduceAdd, Nat.reduceMul, Nat.reduceSub, Nat.reduceEqDiff, Nat.reduceBEq, Nat.reduceLeDiff, Nat.reduceLT, Int.reduceAdd, Int.reduceMul, Int.reduceSub, Int.reduceLT, Int.reduceLE, Int.reduceToNat, Int.reduceEq, Int.reduceNe, Int.reduceBEq, Int.reduceBNe, ne_eq, eq_self]
    refine callT_of (c_all (by omega) hS.tail) ?_
    rintro v H' ⟨a2, cap2, h2, rfl, hr2, hS⟩
    rw [hnw] at hr2
    simp only [e12, e9, e1, e3, e5, e7, e8, hnw, ↓D0, ↓D1, ↓D2, ↓D3, ↓D4, ↓D5, ↓D6, ↓D7, ↓D8, ↓D9, U0, U1, U2, U3, U4, U5, U6, U7, U8, U9, U10, ↓reduceIte, Nat.reduceAdd, Nat.reduceMul, Nat.reduceSub, Nat.reduceEqDiff, Nat.reduceBEq, Nat.reduceLeDiff, Nat.reduceLT, Int.reduceAdd, Int.reduceMul, Int.reduceSub, Int.reduceLT, Int.reduceLE, Int.reduceToNat, Int.reduceEq, Int.reduceNe, Int.reduceBEq, Int.reduceBNe, ne_eq, eq_self]
    refine loop_intro (pf3 want false n cap cap2 a a2 x y (h2 :: wB b s w :: wR s w :: h :: sg y (.cells #[.int .i64 c, .int .i64 f] 73 (0, 0)) :: sg x (.cells #[.int .i64 sh.p, .int .i64 sh.c, .int .i64 sh.m] 57 (0, 0)) :: l)) (fun F' _ => (n - iv (gt F' 16)).toNat)
      ⟨0, by omega, rfl, by simp [gt, e9], by simp [gt], ⟨by simp [gt, e1], by simp [gt, e3], by simp [gt, e5], by simp [gt]⟩, hS⟩ ?_
    rintro F' H' ⟨j, hj, e16, e9, e14, ⟨e1, e3, e5, e15⟩, hS⟩
    by_cases hlt : j < n
    · have d1 : decide ((j : Int) < (n : Int)) = true := decide_eq_true (by omega)
      have d2 : (0 : Int) ≤ (j : Int) := by omega
      have d3 : (j : Int) < (n : Int) := by omega
      have wj : w64 ((j : Int) + 1) = ((j + 1 : Nat) : Int) := by rw [w64_eq (by omega) (by omega)]; omega
      obtain ⟨xb, xo, rfl, hrd⟩ := (hr.sub (hS.sb h (by simp))).at' hlt
      obtain ⟨yb, yo, rfl, hrd2⟩ := (hr2.sub (hS.sb h2 (by simp))).at' hlt
      rcases key j hlt with hk | ⟨hk, hk2, -⟩
      · simp only [e16, e9, e14, e1, e3, e5, e15, d1, d2, d3, hrd, hrd2, hk, wrap_w64, wj, Int.toNat_natCast, ↓D0, ↓D1, ↓D2, ↓D3, ↓D4, ↓D5, ↓D6, ↓D7, ↓D8, ↓D9, U0, U1, U2, U3, U4, U5, U6, U7, U8, U9, U10, ↓reduceIte, Nat.reduceAdd, Nat.reduceMul, Nat.reduceSub, Nat.reduceEqDiff, Nat.reduceBEq, Nat.reduceLeDiff, Nat.reduceLT, Int.reduceAdd, Int.reduceMul, Int.reduceSub, Int.reduceLT, Int.reduceLE, Int.reduceToNat, Int.reduceEq, Int.reduceNe, Int.reduceBEq, Int.reduceBNe, ne_eq, eq_self]
        exact ⟨⟨j + 1, by omega, rfl, by simp [gt, e9], by simp [gt, e14], ⟨by simp [gt, e1], by simp [gt, e3], by simp [gt, e5], by simp [gt, e15]⟩, hS⟩, by simp [gt, iv, e16]; omega⟩
      · rw [hok] at hk2; cases hk2
    · have hin : j = n := by omega
      have hSe := hS
      subst hin
      have d1 : decide ((j : Int) < (j : Int)) = false := decide_eq_false (by omega)
      simp only [e16, e9, e14, e1, e3, e5, e15, d1, ↓D0, ↓D1, ↓D2, ↓D3, ↓D4, ↓D5, ↓D6, ↓D7, ↓D8, ↓D9, U0, U1, U2, U3, U4, U5, U6, U7, U8, U9, U10, ↓reduceIte, Nat.reduceAdd, Nat.reduceMul, Nat.reduceSub, Nat.reduceEqDiff, Nat.reduceBEq, Nat.reduceLeDiff, Nat.reduceLT, Int.reduceAdd, Int.reduceMul, Int.reduceSub, Int.reduceLT, Int.reduceLE, Int.reduceToNat, Int.reduceEq, Int.reduceNe, Int.reduceBEq, Int.reduceBNe, ne_eq, eq_self]
      exact hSe.tail.tail.tail.p2.tail.p1.tail
  · have hw1 : decide (0 ≤ want) = true := by rw [← hfd, hok]
    have hpw : (t.pg != want) = false := by rw [hpgw hok]; simp
    simp only [e12, e9, e1, e3, e5, e7, e8, hd, hok, hw1, hpw, ↓D0, ↓D1, ↓D2, ↓D3, ↓D4, ↓D5, ↓D6, ↓D7, ↓D8, ↓D9, U0, U1, U2, U3, U4, U5, U6, U7, U8, U9, U10, ↓reduceIte, Nat.reduceAdd, Nat.reduceMul, Nat.reduceSub, Nat.reduceEqDiff, Nat.reduceBEq, Nat.reduceLeDiff, Nat.reduceLT, Int.reduceAdd, Int.reduceMul, Int.reduceSub, Int.reduceLT, Int.reduceLE, Int.reduceToNat, Int.reduceEq, Int.reduceNe, Int.reduceBEq, Int.reduceBNe, ne_eq, eq_self]
    refine callT_of (c_all (by omega) hS.tail) ?_
    rintro v H' ⟨a2, cap2, h2, rfl, hr2, hS⟩
    rw [hnw] at hr2
    simp only [e12, e9, e1, e3, e5, e7, e8, hnw, ↓D0, ↓D1, ↓D2, ↓D3, ↓D4, ↓D5, ↓D6, ↓D7, ↓D8, ↓D9, U0, U1, U2, U3, U4, U5, U6, U7, U8, U9, U10, ↓reduceIte, Nat.reduceAdd, Nat.reduceMul, Nat.reduceSub, Nat.reduceEqDiff, Nat.reduceBEq, Nat.reduceLeDiff, Nat.reduceLT, Int.reduceAdd, Int.reduceMul, Int.reduceSub, Int.reduceLT, Int.reduceLE, Int.reduceToNat, Int.reduceEq, Int.reduceNe, Int.reduceBEq, Int.reduceBNe, ne_eq, eq_self]
    refine loop_intro (pf3 want true n cap cap2 a a2 x y (h2 :: wB b s w :: wR s w :: h :: sg y (.cells #[.int .i64 c, .int .i64 f] 73 (0, 0)) :: sg x (.cells #[.int .i64 sh.p, .int .i64 sh.c, .int .i64 sh.m] 57 (0, 0)) :: l)) (fun F' _ => (n - iv (gt F' 16)).toNat)
      ⟨0, by omega, rfl, by simp [gt, e9], by simp [gt], ⟨by simp [gt, e1], by simp [gt, e3], by simp [gt, e5], by simp [gt]⟩, hS⟩ ?_
    rintro F' H' ⟨j, hj, e16, e9, e14, ⟨e1, e3, e5, e15⟩, hS⟩
    by_cases hlt : j < n
    · have d1 : decide ((j : Int) < (n : Int)) = true := decide_eq_true (by omega)
      have d2 : (0 : Int) ≤ (j : Int) := by omega
      have d3 : (j : Int) < (n : Int) := by omega
      have wj : w64 ((j : Int) + 1) = ((j + 1 : Nat) : Int) := by rw [w64_eq (by omega) (by omega)]; omega
      obtain ⟨xb, xo, rfl, hrd⟩ := (hr.sub (hS.sb h (by simp))).at' hlt
      obtain ⟨yb, yo, rfl, hrd2⟩ := (hr2.sub (hS.sb h2 (by simp))).at' hlt
      have hx1 := hS.lk 5 rfl
      have hy1 := hS.lk 4 rfl
      have r1 := fun o n => rdn_of hx1 o n
      have r2 := fun o => rd_of hy1 o
      rcases key j hlt with hk | ⟨hk, -, hk2, hk3⟩
      · simp only [e16, e9, e14, e1, e3, e5, e15, d1, d2, d3, hrd, hrd2, hk, wrap_w64, wj, Int.toNat_natCast, ↓D0, ↓D1, ↓D2, ↓D3, ↓D4, ↓D5, ↓D6, ↓D7, ↓D8, ↓D9, U0, U1, U2, U3, U4, U5, U6, U7, U8, U9, U10, ↓reduceIte, Nat.reduceAdd, Nat.reduceMul, Nat.reduceSub, Nat.reduceEqDiff, Nat.reduceBEq, Nat.reduceLeDiff, Nat.reduceLT, Int.reduceAdd, Int.reduceMul, Int.reduceSub, Int.reduceLT, Int.reduceLE, Int.reduceToNat, Int.reduceEq, Int.reduceNe, Int.reduceBEq, Int.reduceBNe, ne_eq, eq_self]
        exact ⟨⟨j + 1, by omega, rfl, by simp [gt, e9], by simp [gt, e14], ⟨by simp [gt, e1], by simp [gt, e3], by simp [gt, e5], by simp [gt, e15]⟩, hS⟩, by simp [gt, iv, e16]; omega⟩
      · simp only [e16, e9, e14, e1, e3, e5, e15, d1, d2, d3, hrd, hrd2, hk, hk2, hk3, hx1, hy1, r1, r2, i0, i1, u_page, u_putpg, wrap_w64, wj, Int.toNat_natCast, ↓D0, ↓D1, ↓D2, ↓D3, ↓D4, ↓D5, ↓D6, ↓D7, ↓D8, ↓D9, U0, U1, U2, U3, U4, U5, U6, U7, U8, U9, U10, ↓reduceIte, Nat.reduceAdd, Nat.reduceMul, Nat.reduceSub, Nat.reduceEqDiff, Nat.reduceBEq, Nat.reduceLeDiff, Nat.reduceLT, Int.reduceAdd, Int.reduceMul, Int.reduceSub, Int.reduceLT, Int.reduceLE, Int.reduceToNat, Int.reduceEq, Int.reduceNe, Int.reduceBEq, Int.reduceBNe, ne_eq, eq_self]
        exact ⟨⟨j + 1, by omega, rfl, by simp [gt, e9], by simp [gt, e14], ⟨by simp [gt, e1], by simp [gt, e3], by simp [gt, e5], by simp [gt, e15]⟩, hS⟩, by simp [gt, iv, e16]; omega⟩
    · have hin : j = n := by omega
      have hSe := hS
      subst hin
      have d1 : decide ((j : Int) < (j : Int)) = false := decide_eq_false (by omega)
      simp only [e16, e9, e14, e1, e3, e5, e15, d1, ↓D0, ↓D1, ↓D2, ↓D3, ↓D4, ↓D5, ↓D6, ↓D7, ↓D8, ↓D9, U0, U1, U2, U3, U4, U5, U6, U7, U8, U9, U10, ↓reduceIte, Nat.reduceAdd, Nat.reduceMul, Nat.reduceSub, Nat.reduceEqDiff, Nat.reduceBEq, Nat.reduceLeDiff, Nat.reduceLT, Int.reduceAdd, Int.reduceMul, Int.reduceSub, Int.reduceLT, Int.reduceLE, Int.reduceToNat, Int.reduceEq, Int.reduceNe, Int.reduceBEq, Int.reduceBNe, ne_eq, eq_self]
      exact hSe.tail.tail.tail.p2.tail.p1.tail
end

theorem l_pagefirst {W : World} {a : Option Addr} {n cap : Nat} {ws : Nat → Int} (p q m : Int) (hp : -9223372036854775808 ≤ p ∧ p ≤ 9223372036854775807) (hq : -9223372036854775808 ≤ q ∧ q ≤ 9223372036854775807) (hm : -9223372036854775808 ≤ m ∧ m ≤ 9223372036854775807)
    (hn : n ≤ 9223372036854775807) (hr : RowU (memOf W) a n ws) (hU : ∀ i, i < n → IntKind.u64.has (ws i)) (c f : Int) (hc : -9223372036854775808 ≤ c ∧ c ≤ 9223372036854775807) (hf : -9223372036854775808 ≤ f ∧ f ≤ 9223372036854775807) :
    CallP Try.prog W 11 #[.agg #[.int .i64 p, .int .i64 q, .int .i64 m], .slice a n cap, .agg #[.int .i64 c, .int .i64 f]] (memOf W) fun v H' => v = .bool true ∧ Sub (memOf W) H' :=
  (c_pagefirst ⟨p, q, m⟩ c f hr (fun i hi => u64_bd (hU i hi)) (Sep.one _)).mono fun v H' ⟨h1, h2⟩ => ⟨h1, h2.head⟩

end Go.Proofs.Ytfapipblclikbaa
