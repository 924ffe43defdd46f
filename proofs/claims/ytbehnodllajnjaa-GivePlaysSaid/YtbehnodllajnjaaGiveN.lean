/-
  Who gives a block back: the document's machine goes as the program's plain one. Conditions: none.
-/
import Derived.Test.YtbehnodllajnjaaGiveM
set_option linter.unusedVariables false
set_option linter.unusedSimpArgs false
set_option maxRecDepth 8000
namespace Go.Proofs.Ytbehnodllajnjaa
open Go Go.Ev Go.Pl Go.Ma

def frC (t : Gv) (gv dn : Bool) (line : Int) (lg : Bool) (pg sl cl n : Int) (own : Bool) (was : Int) (pu pp : Value) : Array Value :=
  #[.int .i64 t.s.p, .int .i64 t.s.c, .int .i64 t.s.m, .int .i64 t.c, .int .i64 t.a, .bool gv, .bool dn, .int .i64 line, .bool lg, .int .i64 pg, .int .i64 sl, .int .i64 cl, .int .i64 n, .bool own, .int .u64 was, pu, pp]
def pno : Value := .pointer none
def pat' (k : Nat) : Value := .pointer (some ⟨k, 0, none⟩)
def frB (k : Nat) (c : Array Value) : Hp := sg k (.cells c 88 (0, 0))
def emp : Hp := fun _ => none
/-- What the document's machine holds: c its cells, X its undoer, Y its putter. -/
def FR (t : Gv) (c : Array Value) (X Y : Hp) : Prop :=
  t.dn = true ∨
  (t.nx = 0 ∧ c = frC t false false 0 false 0 0 0 0 false 0 pno pno ∧ X = emp ∧ Y = emp) ∨
  (t.nx = 1 ∧ t.pK = 3 ∧ c = frC t false false 1 true t.pg 0 0 t.pA false t.wd pno pno ∧ X = emp ∧ Y = emp) ∨
  (t.nx = 1 ∧ t.pK = 2 ∧ c = frC t false false 1 false t.pg t.sl t.pA 0 (t.pB == t.c) t.wd pno pno ∧ X = emp ∧ Y = emp) ∨
  (t.nx = 4 ∧ ∃ ku, c = frC t true false 2 true t.pg 0 0 t.pA false t.wd (pat' ku) pno ∧ X = unB ku (unL t.s t.c t.i t.pg t.pA false) ∧ Y = emp) ∨
  (t.nx = 3 ∧ ∃ ku, X = unB ku (unS t.s t.c t.pg t.sl t.pA false) ∧
    ((c = frC t true false 2 false t.pg t.sl t.pA 0 false t.wd (pat' ku) pno ∧ Y = emp) ∨ (∃ kp p, c = frC t true false 2 false t.pg t.sl t.pA 0 true t.wd (pat' ku) (pat' kp) ∧ Y = ruB kp p ∧ p.dn = true))) ∨
  (t.nx = 2 ∧ ∃ ku kp p, t.put = some p ∧ X = unB ku (unS t.s t.c t.pg t.sl t.pA false) ∧ c = frC t true false 2 false t.pg t.sl t.pA 0 true t.wd (pat' ku) (pat' kp) ∧ Y = ruB kp p)
/-- Behind a look. -/
def frR (t : Gv) (w : Wd) : Array Value :=
  if t.isL w then frC t false false 1 true t.pg 0 0 (pgA t.s t.pg (w.get t.pat)) false (w.get t.pat) pno pno else
  if t.isS w then frC t false false 1 false t.pg (t.off / size (pgA t.s t.pg (w.get t.pat))) (pgA t.s t.pg (w.get t.pat)) 0 (pgB t.s t.pg (w.get t.pat) == t.c) (w.get t.pat) pno pno else
  frC t false true 1 false 0 0 0 0 false (w.get t.pat) pno pno
section
variable {W : World} {H : Hp} {k b s : Nat} {t : Gv} {w : Wd} {l : List Hp} {a : Option Addr} {cap : Nat} {g X Y : Hp} {c : Array Value}

theorem m_frnew {sh : Sh} {c a : Int} (hS : Sep l H) :
    CallP Try.prog W 48 #[.agg #[.int .i64 sh.p, .int .i64 sh.c, .int .i64 sh.m], .int .i64 c, .int .i64 a] H fun v H' => ∃ k, v = .pointer (some ⟨k, 0, none⟩) ∧ Sep (frB k (frC (Gv.new sh c a) false (Gv.new sh c a).dn 0 false 0 0 0 0 false 0 pno pno) :: l) H' := by
  refine CallP.of mixed Try.func48 tr48 (by show 3 ≤ _; decide) fun W _ => ?_
  simp only [↓D0, ↓D1, ↓D2, ↓D3, ↓D4, ↓D5, ↓D6, ↓D7, ↓D8, ↓D9, U0, U1, U2, U3, U4, U5, U6, U7, U8, U9, U10, ↓reduceIte, Nat.reduceAdd, Nat.reduceMul, Nat.reduceSub, Nat.reduceEqDiff, Nat.reduceBEq, Nat.reduceLeDiff, Nat.reduceLT, Int.reduceAdd, Int.reduceMul, Int.reduceSub, Int.reduceLT, Int.reduceLE, Int.reduceToNat, Int.reduceEq, Int.reduceNe, Int.reduceBEq, Int.reduceBNe, ne_eq, eq_self]
  refine newB_intro fun x hx f1 f2 => ?_
  have hS := hS.new f1 (.cells #[.int .i64 sh.p, .int .i64 sh.c, .int .i64 sh.m] 25 (0, 0))
  have hx1 := hS.look
  have r1 := fun o => rd_of hx1 o
  have r2 := fun o n => rdn_of hx1 o n
  simp only [hx1, r1, r2, u_split, ↓D0, ↓D1, ↓D2, ↓D3, ↓D4, ↓D5, ↓D6, ↓D7, ↓D8, ↓D9, U0, U1, U2, U3, U4, U5, U6, U7, U8, U9, U10, ↓reduceIte, Nat.reduceAdd, Nat.reduceMul, Nat.reduceSub, Nat.reduceEqDiff, Nat.reduceBEq, Nat.reduceLeDiff, Nat.reduceLT, Int.reduceAdd, Int.reduceMul, Int.reduceSub, Int.reduceLT, Int.reduceLE, Int.reduceToNat, Int.reduceEq, Int.reduceNe, Int.reduceBEq, Int.reduceBNe, ne_eq, eq_self]
  refine draw_intro [(x, #[.int .i64 sh.p, .int .i64 sh.c, .int .i64 sh.m], [])] (by simp only [hx1, ↓D0, ↓D1, ↓D2, ↓D3, ↓D4, ↓D5, ↓D6, ↓D7, ↓D8, ↓D9, U0, U1, U2, U3, U4, U5, U6, U7, U8, U9, U10, ↓reduceIte, Nat.reduceAdd, Nat.reduceMul, Nat.reduceSub, Nat.reduceEqDiff, Nat.reduceBEq, Nat.reduceLeDiff, Nat.reduceLT, Int.reduceAdd, Int.reduceMul, Int.reduceSub, Int.reduceLT, Int.reduceLE, Int.reduceToNat, Int.reduceEq, Int.reduceNe, Int.reduceBEq, Int.reduceBNe, ne_eq, eq_self]) ?_
  have n1 : decide (0 ≤ status sh.p sh.c sh.m c) = !decide (status sh.p sh.c sh.m c < 0) := by rw [← decide_not]; exact decide_eq_decide.2 (by omega)
  cases h1 : there sh.p sh.c sh.m a <;> cases h2 : decide (status sh.p sh.c sh.m c < 0)
  all_goals
    rw [h2] at n1
    simp only [hx1, r1, r2, u_good, h1, n1, ↓D0, ↓D1, ↓D2, ↓D3, ↓D4, ↓D5, ↓D6, ↓D7, ↓D8, ↓D9, U0, U1, U2, U3, U4, U5, U6, U7, U8, U9, U10, ↓reduceIte, Nat.reduceAdd, Nat.reduceMul, Nat.reduceSub, Nat.reduceEqDiff, Nat.reduceBEq, Nat.reduceLeDiff, Nat.reduceLT, Int.reduceAdd, Int.reduceMul, Int.reduceSub, Int.reduceLT, Int.reduceLE, Int.reduceToNat, Int.reduceEq, Int.reduceNe, Int.reduceBEq, Int.reduceBNe, ne_eq, eq_self]
    refine newB_intro fun y hy f3 f4 => ?_
    have nxy : (x = y) = False := f3 x (by rw [hx1]; rfl)
    have nyx : (y = x) = False := f4 x (by rw [hx1]; rfl)
    simp only [hx1, r1, r2, nxy, nyx, ↓D0, ↓D1, ↓D2, ↓D3, ↓D4, ↓D5, ↓D6, ↓D7, ↓D8, ↓D9, U0, U1, U2, U3, U4, U5, U6, U7, U8, U9, U10, ↓reduceIte, Nat.reduceAdd, Nat.reduceMul, Nat.reduceSub, Nat.reduceEqDiff, Nat.reduceBEq, Nat.reduceLeDiff, Nat.reduceLT, Int.reduceAdd, Int.reduceMul, Int.reduceSub, Int.reduceLT, Int.reduceLE, Int.reduceToNat, Int.reduceEq, Int.reduceNe, Int.reduceBEq, Int.reduceBNe, ne_eq, eq_self]
    refine ⟨y, rfl, ?_⟩
    have := (hS.new f3 (.cells (frC (Gv.new sh c a) false (Gv.new sh c a).dn 0 false 0 0 0 0 false 0 pno pno) 88 (0, 0))).p1.tail
    unfold Gv.new frC pno at this
    unfold Gv.new frB frC pno
    simp only [h1, h2] at this ⊢
    exact this
def frD (k b s : Nat) (t : Gv) (w : Wd) (M : Hp) (l : List Hp) (F' : Fr) (H' : Hp) : Prop :=
  gt F' 0 = .pointer (some ⟨k, 0, none⟩) ∧ gt F' 4 = .int .i64 t.pg ∧ gt F' 5 = .int .i64 t.off ∧ gt F' 8 = .bool (okPg t.s t.pg (w.get t.pat)) ∧ ∃ y, gt F' 7 = .pointer (some ⟨y, 0, none⟩) ∧
    Sep (frB k (frC t false false 0 false 0 0 0 0 false (w.get t.pat) pno pno) :: sg y (.cells #[.int .i64 (pgK t.s t.pg (w.get t.pat)), .int .i64 (pgA t.s t.pg (w.get t.pat)), .int .i64 (pgB t.s t.pg (w.get t.pat))] 32 (0, 0)) :: M :: wR s (w.load t.c t.pat) :: l) H'
theorem m_frread (hm : may t.s.p t.s.c t.s.m = true) (hth : there t.s.p t.s.c t.s.m t.a = true) (hsp : t.pg = sp t.s.p t.s.c t.s.m t.a) (hp0 : 0 ≤ t.pg) (hp1 : t.pg < t.s.p) (hw : w.of t.s) (hL : LogOk a cap w g) (hl : w.st + 1 ≤ 1000000000)
    (hS : Sep (frB k (frC t false false 0 false 0 0 0 0 false 0 pno pno) :: mB b s a cap w :: wR s w :: g :: l) H) :
    CallP Try.prog W 114 #[.pointer (some ⟨k, 0, none⟩), .pointer (some ⟨b, 0, none⟩)] H fun v H' => v = .tuple #[] ∧
      ∃ a2 cap2 g2, LogOk a2 cap2 (w.load t.c t.pat) g2 ∧ Sep (frB k (frR t w) :: mB b s a2 cap2 (w.load t.c t.pat) :: wR s (w.load t.c t.pat) :: g2 :: l) H' := by
  refine CallP.of mixed Try.func114 tr114 (by show 2 ≤ _; decide) fun W _ => ?_
  have hk := hS.look
  have r1 := fun o => rd_of hk o
  have r2 := fun o n => rdn_of hk o n
  obtain ⟨q0, q1⟩ := page_in hw hm hp0 hp1
  have hu : U (w.get (page t.s.p t.s.c t.s.m t.pg)) := hw.u _
  simp only [hk, r1, r2, u_split, ← hsp, frC, ↓D0, ↓D1, ↓D2, ↓D3, ↓D4, ↓D5, ↓D6, ↓D7, ↓D8, ↓D9, U0, U1, U2, U3, U4, U5, U6, U7, U8, U9, U10, ↓reduceIte, Nat.reduceAdd, Nat.reduceMul, Nat.reduceSub, Nat.reduceEqDiff, Nat.reduceBEq, Nat.reduceLeDiff, Nat.reduceLT, Int.reduceAdd, Int.reduceMul, Int.reduceSub, Int.reduceLT, Int.reduceLE, Int.reduceToNat, Int.reduceEq, Int.reduceNe, Int.reduceBEq, Int.reduceBNe, ne_eq, eq_self]
  refine draw_intro [(k, frC t false false 0 false 0 0 0 0 false 0 pno pno, [])] (by simp only [hk, frC, ↓D0, ↓D1, ↓D2, ↓D3, ↓D4, ↓D5, ↓D6, ↓D7, ↓D8, ↓D9, U0, U1, U2, U3, U4, U5, U6, U7, U8, U9, U10, ↓reduceIte, Nat.reduceAdd, Nat.reduceMul, Nat.reduceSub, Nat.reduceEqDiff, Nat.reduceBEq, Nat.reduceLeDiff, Nat.reduceLT, Int.reduceAdd, Int.reduceMul, Int.reduceSub, Int.reduceLT, Int.reduceLE, Int.reduceToNat, Int.reduceEq, Int.reduceNe, Int.reduceBEq, Int.reduceBNe, ne_eq, eq_self]) ?_
  simp only [hk, r1, r2, u_page, frC, ↓D0, ↓D1, ↓D2, ↓D3, ↓D4, ↓D5, ↓D6, ↓D7, ↓D8, ↓D9, U0, U1, U2, U3, U4, U5, U6, U7, U8, U9, U10, ↓reduceIte, Nat.reduceAdd, Nat.reduceMul, Nat.reduceSub, Nat.reduceEqDiff, Nat.reduceBEq, Nat.reduceLeDiff, Nat.reduceLT, Int.reduceAdd, Int.reduceMul, Int.reduceSub, Int.reduceLT, Int.reduceLE, Int.reduceToNat, Int.reduceEq, Int.reduceNe, Int.reduceBEq, Int.reduceBNe, ne_eq, eq_self]
  refine callT_of (m_load _ _ q0 q1 hL hl hS.r3) ?_
  rintro v H' ⟨rfl, a2, cap2, g2, hL, hS⟩
  have hS := hS.p3
  have hk := hS.look
  have r1 := fun o => rd_of hk o
  have r2 := fun o n => rdn_of hk o n
  simp only [hk, r1, r2, frC, Ev.upd_upd, ↓D0, ↓D1, ↓D2, ↓D3, ↓D4, ↓D5, ↓D6, ↓D7, ↓D8, ↓D9, U0, U1, U2, U3, U4, U5, U6, U7, U8, U9, U10, ↓reduceIte, Nat.reduceAdd, Nat.reduceMul, Nat.reduceSub, Nat.reduceEqDiff, Nat.reduceBEq, Nat.reduceLeDiff, Nat.reduceLT, Int.reduceAdd, Int.reduceMul, Int.reduceSub, Int.reduceLT, Int.reduceLE, Int.reduceToNat, Int.reduceEq, Int.reduceNe, Int.reduceBEq, Int.reduceBNe, ne_eq, eq_self]
  have hS := hS.set (.cells (frC t false false 0 false 0 0 0 0 false (w.get (page t.s.p t.s.c t.s.m t.pg)) pno pno) 88 (0, 0))
  have hk := hS.look
  have r1 := fun o => rd_of hk o
  have r2 := fun o n => rdn_of hk o n
  refine draw_cut [(k, frC t false false 0 false 0 0 0 0 false (w.get (page t.s.p t.s.c t.s.m t.pg)) pno pno, [])] (frD k b s t w (mB b s a2 cap2 (w.load t.c t.pat)) (g2 :: l)) (by simp only [hk, frC, ↓D0, ↓D1, ↓D2, ↓D3, ↓D4, ↓D5, ↓D6, ↓D7, ↓D8, ↓D9, U0, U1, U2, U3, U4, U5, U6, U7, U8, U9, U10, ↓reduceIte, Nat.reduceAdd, Nat.reduceMul, Nat.reduceSub, Nat.reduceEqDiff, Nat.reduceBEq, Nat.reduceLeDiff, Nat.reduceLT, Int.reduceAdd, Int.reduceMul, Int.reduceSub, Int.reduceLT, Int.reduceLE, Int.reduceToNat, Int.reduceEq, Int.reduceNe, Int.reduceBEq, Int.reduceBNe, ne_eq, eq_self]) ?_ ?_
  · simp only [hk, r1, r2, u_readpg t.s _ hu, frC, ↓e_dalt2, ↓D0, ↓D1, ↓D2, ↓D3, ↓D4, ↓D5, ↓D6, ↓D7, ↓D8, ↓D9, U0, U1, U2, U3, U4, U5, U6, U7, U8, U9, U10, ↓reduceIte, Nat.reduceAdd, Nat.reduceMul, Nat.reduceSub, Nat.reduceEqDiff, Nat.reduceBEq, Nat.reduceLeDiff, Nat.reduceLT, Int.reduceAdd, Int.reduceMul, Int.reduceSub, Int.reduceLT, Int.reduceLE, Int.reduceToNat, Int.reduceEq, Int.reduceNe, Int.reduceBEq, Int.reduceBNe, ne_eq, eq_self]
    refine ⟨?_, ?_⟩
    all_goals
      refine newB_intro fun y hy f3 f4 => ?_
      have nky : (k = y) = False := f3 k (by simp [upd])
      have nyk : (y = k) = False := f4 k (by simp [upd])
      have hS := (hS.new f3 (.cells #[.int .i64 (pgK t.s t.pg (w.get (page t.s.p t.s.c t.s.m t.pg))), .int .i64 (pgA t.s t.pg (w.get (page t.s.p t.s.c t.s.m t.pg))), .int .i64 (pgB t.s t.pg (w.get (page t.s.p t.s.c t.s.m t.pg)))] 32 (0, 0))).p1
      simp only [hk, r1, r2, nky, nyk, u_readpg t.s _ hu, Ev.upd_upd, frC, ↓D0, ↓D1, ↓D2, ↓D3, ↓D4, ↓D5, ↓D6, ↓D7, ↓D8, ↓D9, U0, U1, U2, U3, U4, U5, U6, U7, U8, U9, U10, ↓reduceIte, Nat.reduceAdd, Nat.reduceMul, Nat.reduceSub, Nat.reduceEqDiff, Nat.reduceBEq, Nat.reduceLeDiff, Nat.reduceLT, Int.reduceAdd, Int.reduceMul, Int.reduceSub, Int.reduceLT, Int.reduceLE, Int.reduceToNat, Int.reduceEq, Int.reduceNe, Int.reduceBEq, Int.reduceBNe, ne_eq, eq_self]
      exact ⟨rfl, rfl, rfl, rfl, y, rfl, hS⟩
  · rintro F' H' ⟨e0, e4, e5, e8, y, e7, hS⟩
    have hk := hS.look
    have r1 := fun o => rd_of hk o
    have r2 := fun o n => rdn_of hk o n
    have hy1 := hS.lk 1 rfl
    have ry := fun o => rd_of hy1 o
    have ryn := fun o n => rdn_of hy1 o n
    have nky := hS.neq 0 1 (by decide) rfl rfl
    have nyk := hS.qen 0 1 (by decide) rfl rfl
    have hob := Gv.off_bd hth
    cases ho : okPg t.s t.pg (w.get t.pat)
    · have e : frR t w = frC t false true 1 false 0 0 0 0 false (w.get t.pat) pno pno := by unfold frR Gv.isL Gv.isS; rw [ho]; rfl
      rw [ho] at e8
      simp only [hk, r1, r2, hy1, ry, ryn, e0, e4, e5, e7, e8, nky, nyk, Ev.upd_upd, frC, ↓D0, ↓D1, ↓D2, ↓D3, ↓D4, ↓D5, ↓D6, ↓D7, ↓D8, ↓D9, U0, U1, U2, U3, U4, U5, U6, U7, U8, U9, U10, ↓reduceIte, Nat.reduceAdd, Nat.reduceMul, Nat.reduceSub, Nat.reduceEqDiff, Nat.reduceBEq, Nat.reduceLeDiff, Nat.reduceLT, Int.reduceAdd, Int.reduceMul, Int.reduceSub, Int.reduceLT, Int.reduceLE, Int.reduceToNat, Int.reduceEq, Int.reduceNe, Int.reduceBEq, Int.reduceBNe, ne_eq, eq_self]
      rw [e]
      exact ⟨a2, cap2, g2, hL, (hS.set (.cells (frC t false true 1 false 0 0 0 0 false (w.get t.pat) pno pno) 88 (0, 0))).p1.tail⟩
    rw [ho] at e8
    by_cases k3 : pgK t.s t.pg (w.get t.pat) = 3
    · have g3 : (pgK t.s t.pg (w.get t.pat) == 3) = true := beq_iff_eq.2 k3
      have g2' : (pgK t.s t.pg (w.get t.pat) == 2) = false := beq_eq_false_iff_ne.2 (by omega)
      by_cases o0 : t.off = 0
      · have e : frR t w = frC t false false 1 true t.pg 0 0 (pgA t.s t.pg (w.get t.pat)) false (w.get t.pat) pno pno := by
          unfold frR; rw [if_pos (by unfold Gv.isL; rw [ho, decide_eq_true k3, decide_eq_true o0]; rfl)]
        have g0 : (t.off == 0) = true := beq_iff_eq.2 o0
        simp only [hk, r1, r2, hy1, ry, ryn, e0, e4, e5, e7, e8, nky, nyk, Ev.upd_upd, frC, g3, g0, ↓D0, ↓D1, ↓D2, ↓D3, ↓D4, ↓D5, ↓D6, ↓D7, ↓D8, ↓D9, U0, U1, U2, U3, U4, U5, U6, U7, U8, U9, U10, ↓reduceIte, Nat.reduceAdd, Nat.reduceMul, Nat.reduceSub, Nat.reduceEqDiff, Nat.reduceBEq, Nat.reduceLeDiff, Nat.reduceLT, Int.reduceAdd, Int.reduceMul, Int.reduceSub, Int.reduceLT, Int.reduceLE, Int.reduceToNat, Int.reduceEq, Int.reduceNe, Int.reduceBEq, Int.reduceBNe, ne_eq, eq_self]
        rw [e]
        exact ⟨a2, cap2, g2, hL, (hS.set (.cells (frC t false false 1 true t.pg 0 0 (pgA t.s t.pg (w.get t.pat)) false (w.get t.pat) pno pno) 88 (0, 0))).p1.tail⟩
      · have e : frR t w = frC t false true 1 false 0 0 0 0 false (w.get t.pat) pno pno := by
          unfold frR
          rw [if_neg (by unfold Gv.isL; rw [decide_eq_false o0]; simp), if_neg (by unfold Gv.isS; rw [decide_eq_false (by omega : ¬ pgK t.s t.pg (w.get t.pat) = 2)]; simp)]
        have g0 : (t.off == 0) = false := beq_eq_false_iff_ne.2 o0
        simp only [hk, r1, r2, hy1, ry, ryn, e0, e4, e5, e7, e8, nky, nyk, Ev.upd_upd, frC, g3, g2', g0, ↓D0, ↓D1, ↓D2, ↓D3, ↓D4, ↓D5, ↓D6, ↓D7, ↓D8, ↓D9, U0, U1, U2, U3, U4, U5, U6, U7, U8, U9, U10, ↓reduceIte, Nat.reduceAdd, Nat.reduceMul, Nat.reduceSub, Nat.reduceEqDiff, Nat.reduceBEq, Nat.reduceLeDiff, Nat.reduceLT, Int.reduceAdd, Int.reduceMul, Int.reduceSub, Int.reduceLT, Int.reduceLE, Int.reduceToNat, Int.reduceEq, Int.reduceNe, Int.reduceBEq, Int.reduceBNe, ne_eq, eq_self]
        rw [e]
        exact ⟨a2, cap2, g2, hL, (hS.set (.cells (frC t false true 1 false 0 0 0 0 false (w.get t.pat) pno pno) 88 (0, 0))).p1.tail⟩
    have g3 : (pgK t.s t.pg (w.get t.pat) == 3) = false := beq_eq_false_iff_ne.2 k3
    have nL : t.isL w = false := by unfold Gv.isL; rw [decide_eq_false k3]; simp
    by_cases k2 : pgK t.s t.pg (w.get t.pat) = 2
    · have g2' : (pgK t.s t.pg (w.get t.pat) == 2) = true := beq_iff_eq.2 k2
      have hA := Gv.ok_super ho k2
      have hz : 4 ≤ size (pgA t.s t.pg (w.get t.pat)) ∧ size (pgA t.s t.pg (w.get t.pat)) ≤ 32 := by
        rcases (by omega : pgA t.s t.pg (w.get t.pat) = 0 ∨ pgA t.s t.pg (w.get t.pat) = 1 ∨ pgA t.s t.pg (w.get t.pat) = 2 ∨ pgA t.s t.pg (w.get t.pat) = 3) with h | h | h | h <;> rw [h] <;> decide
      have z0 : (size (pgA t.s t.pg (w.get t.pat)) = 0) = False := eq_false (by omega)
      have tm : t.off.tmod (size (pgA t.s t.pg (w.get t.pat))) = t.off % size (pgA t.s t.pg (w.get t.pat)) := Int.tmod_eq_emod_of_nonneg hob.1
      have td : t.off.tdiv (size (pgA t.s t.pg (w.get t.pat))) = t.off / size (pgA t.s t.pg (w.get t.pat)) := Int.tdiv_eq_ediv_of_nonneg hob.1
      have b1 := Int.emod_nonneg t.off (by omega : size (pgA t.s t.pg (w.get t.pat)) ≠ 0)
      have b2 := Int.emod_lt_of_pos t.off (by omega : 0 < size (pgA t.s t.pg (w.get t.pat)))
      have b3 : 0 ≤ t.off / size (pgA t.s t.pg (w.get t.pat)) := Int.ediv_nonneg hob.1 (by omega)
      have b4 : t.off / size (pgA t.s t.pg (w.get t.pat)) ≤ t.off := Int.ediv_le_self _ hob.1
      have wm : w64 (t.off % size (pgA t.s t.pg (w.get t.pat))) = t.off % size (pgA t.s t.pg (w.get t.pat)) := w64_eq (by omega) (by omega)
      have wd : w64 (t.off / size (pgA t.s t.pg (w.get t.pat))) = t.off / size (pgA t.s t.pg (w.get t.pat)) := w64_eq (by omega) (by omega)
      by_cases o0 : t.off % size (pgA t.s t.pg (w.get t.pat)) = 0
      · have e : frR t w = frC t false false 1 false t.pg (t.off / size (pgA t.s t.pg (w.get t.pat))) (pgA t.s t.pg (w.get t.pat)) 0 (pgB t.s t.pg (w.get t.pat) == t.c) (w.get t.pat) pno pno := by
          unfold frR
          rw [nL, if_neg (by decide), if_pos (by unfold Gv.isS; rw [ho, decide_eq_true k2, decide_eq_true o0]; rfl)]
        have g0 : (t.off % size (pgA t.s t.pg (w.get t.pat)) == 0) = true := beq_iff_eq.2 o0
        simp only [hk, r1, r2, hy1, ry, ryn, e0, e4, e5, e7, e8, nky, nyk, Ev.upd_upd, frC, g3, g2', u_size, z0, wrap_w64, tm, wm, g0, ↓D0, ↓D1, ↓D2, ↓D3, ↓D4, ↓D5, ↓D6, ↓D7, ↓D8, ↓D9, U0, U1, U2, U3, U4, U5, U6, U7, U8, U9, U10, ↓reduceIte, Nat.reduceAdd, Nat.reduceMul, Nat.reduceSub, Nat.reduceEqDiff, Nat.reduceBEq, Nat.reduceLeDiff, Nat.reduceLT, Int.reduceAdd, Int.reduceMul, Int.reduceSub, Int.reduceLT, Int.reduceLE, Int.reduceToNat, Int.reduceEq, Int.reduceNe, Int.reduceBEq, Int.reduceBNe, ne_eq, eq_self]
        have hS1 := hS.set (.cells (frC t false false 1 false 0 0 0 0 false (w.get t.pat) pno pno) 88 (0, 0))
        have hk1 := hS1.look
        have hy2 := hS1.lk 1 rfl
        refine draw_intro [(k, frC t false false 1 false 0 0 0 0 false (w.get t.pat) pno pno, []), (y, #[.int .i64 (pgK t.s t.pg (w.get t.pat)), .int .i64 (pgA t.s t.pg (w.get t.pat)), .int .i64 (pgB t.s t.pg (w.get t.pat))], [])] (by simp only [hk1, hy2, hy1, nky, nyk, frC, ↓D0, ↓D1, ↓D2, ↓D3, ↓D4, ↓D5, ↓D6, ↓D7, ↓D8, ↓D9, U0, U1, U2, U3, U4, U5, U6, U7, U8, U9, U10, ↓reduceIte, Nat.reduceAdd, Nat.reduceMul, Nat.reduceSub, Nat.reduceEqDiff, Nat.reduceBEq, Nat.reduceLeDiff, Nat.reduceLT, Int.reduceAdd, Int.reduceMul, Int.reduceSub, Int.reduceLT, Int.reduceLE, Int.reduceToNat, Int.reduceEq, Int.reduceNe, Int.reduceBEq, Int.reduceBNe, ne_eq, eq_self]) ?_
        have r1 := fun o => rd_of hk1 o
        simp only [hk1, r1, r2, hy1, hy2, ry, ryn, e0, e4, e5, e7, e8, nky, nyk, Ev.upd_upd, frC, u_size, z0, wrap_w64, td, wd, ↓D0, ↓D1, ↓D2, ↓D3, ↓D4, ↓D5, ↓D6, ↓D7, ↓D8, ↓D9, U0, U1, U2, U3, U4, U5, U6, U7, U8, U9, U10, ↓reduceIte, Nat.reduceAdd, Nat.reduceMul, Nat.reduceSub, Nat.reduceEqDiff, Nat.reduceBEq, Nat.reduceLeDiff, Nat.reduceLT, Int.reduceAdd, Int.reduceMul, Int.reduceSub, Int.reduceLT, Int.reduceLE, Int.reduceToNat, Int.reduceEq, Int.reduceNe, Int.reduceBEq, Int.reduceBNe, ne_eq, eq_self]
        have hS2 := hS.set (.cells (frC t false false 1 false t.pg (t.off / size (pgA t.s t.pg (w.get t.pat))) (pgA t.s t.pg (w.get t.pat)) 0 false (w.get t.pat) pno pno) 88 (0, 0))
        have hk2 := hS2.look
        have hy3 := hS2.lk 1 rfl
        refine draw_intro [(k, frC t false false 1 false t.pg (t.off / size (pgA t.s t.pg (w.get t.pat))) (pgA t.s t.pg (w.get t.pat)) 0 false (w.get t.pat) pno pno, []), (y, #[.int .i64 (pgK t.s t.pg (w.get t.pat)), .int .i64 (pgA t.s t.pg (w.get t.pat)), .int .i64 (pgB t.s t.pg (w.get t.pat))], [])] ?_ ?_
        · simp only [hk2, hy3, hy1, nky, nyk, frC, ↓D0, ↓D1, ↓D2, ↓D3, ↓D4, ↓D5, ↓D6, ↓D7, ↓D8, ↓D9, U0, U1, U2, U3, U4, U5, U6, U7, U8, U9, U10, ↓reduceIte, Nat.reduceAdd, Nat.reduceMul, Nat.reduceSub, Nat.reduceEqDiff, Nat.reduceBEq, Nat.reduceLeDiff, Nat.reduceLT, Int.reduceAdd, Int.reduceMul, Int.reduceSub, Int.reduceLT, Int.reduceLE, Int.reduceToNat, Int.reduceEq, Int.reduceNe, Int.reduceBEq, Int.reduceBNe, ne_eq, eq_self]
        have r1 := fun o => rd_of hk2 o
        simp only [hk2, r1, r2, hy1, hy3, ry, ryn, e0, e4, e5, e7, e8, nky, nyk, Ev.upd_upd, frC, ↓D0, ↓D1, ↓D2, ↓D3, ↓D4, ↓D5, ↓D6, ↓D7, ↓D8, ↓D9, U0, U1, U2, U3, U4, U5, U6, U7, U8, U9, U10, ↓reduceIte, Nat.reduceAdd, Nat.reduceMul, Nat.reduceSub, Nat.reduceEqDiff, Nat.reduceBEq, Nat.reduceLeDiff, Nat.reduceLT, Int.reduceAdd, Int.reduceMul, Int.reduceSub, Int.reduceLT, Int.reduceLE, Int.reduceToNat, Int.reduceEq, Int.reduceNe, Int.reduceBEq, Int.reduceBNe, ne_eq, eq_self]
        rw [e]
        exact ⟨a2, cap2, g2, hL, (hS.set (.cells (frC t false false 1 false t.pg (t.off / size (pgA t.s t.pg (w.get t.pat))) (pgA t.s t.pg (w.get t.pat)) 0 (pgB t.s t.pg (w.get t.pat) == t.c) (w.get t.pat) pno pno) 88 (0, 0))).p1.tail⟩
      · have e : frR t w = frC t false true 1 false 0 0 0 0 false (w.get t.pat) pno pno := by
          unfold frR
          rw [nL, if_neg (by decide), if_neg (by unfold Gv.isS; rw [decide_eq_false o0]; simp)]
        have g0 : (t.off % size (pgA t.s t.pg (w.get t.pat)) == 0) = false := beq_eq_false_iff_ne.2 o0
        simp only [hk, r1, r2, hy1, ry, ryn, e0, e4, e5, e7, e8, nky, nyk, Ev.upd_upd, frC, g3, g2', u_size, z0, wrap_w64, tm, wm, g0, ↓D0, ↓D1, ↓D2, ↓D3, ↓D4, ↓D5, ↓D6, ↓D7, ↓D8, ↓D9, U0, U1, U2, U3, U4, U5, U6, U7, U8, U9, U10, ↓reduceIte, Nat.reduceAdd, Nat.reduceMul, Nat.reduceSub, Nat.reduceEqDiff, Nat.reduceBEq, Nat.reduceLeDiff, Nat.reduceLT, Int.reduceAdd, Int.reduceMul, Int.reduceSub, Int.reduceLT, Int.reduceLE, Int.reduceToNat, Int.reduceEq, Int.reduceNe, Int.reduceBEq, Int.reduceBNe, ne_eq, eq_self]
        rw [e]
        exact ⟨a2, cap2, g2, hL, (hS.set (.cells (frC t false true 1 false 0 0 0 0 false (w.get t.pat) pno pno) 88 (0, 0))).p1.tail⟩
    · have g2' : (pgK t.s t.pg (w.get t.pat) == 2) = false := beq_eq_false_iff_ne.2 k2
      have e : frR t w = frC t false true 1 false 0 0 0 0 false (w.get t.pat) pno pno := by
        unfold frR
        rw [nL, if_neg (by decide), if_neg (by unfold Gv.isS; rw [decide_eq_false k2]; simp)]
      simp only [hk, r1, r2, hy1, ry, ryn, e0, e4, e5, e7, e8, nky, nyk, Ev.upd_upd, frC, g3, g2', ↓D0, ↓D1, ↓D2, ↓D3, ↓D4, ↓D5, ↓D6, ↓D7, ↓D8, ↓D9, U0, U1, U2, U3, U4, U5, U6, U7, U8, U9, U10, ↓reduceIte, Nat.reduceAdd, Nat.reduceMul, Nat.reduceSub, Nat.reduceEqDiff, Nat.reduceBEq, Nat.reduceLeDiff, Nat.reduceLT, Int.reduceAdd, Int.reduceMul, Int.reduceSub, Int.reduceLT, Int.reduceLE, Int.reduceToNat, Int.reduceEq, Int.reduceNe, Int.reduceBEq, Int.reduceBNe, ne_eq, eq_self]
      rw [e]
      exact ⟨a2, cap2, g2, hL, (hS.set (.cells (frC t false true 1 false 0 0 0 0 false (w.get t.pat) pno pno) 88 (0, 0))).p1.tail⟩
end
end Go.Proofs.Ytbehnodllajnjaa
