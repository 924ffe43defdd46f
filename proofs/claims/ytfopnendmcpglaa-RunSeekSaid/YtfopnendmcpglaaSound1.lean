/-
  The document's readers of a heap's pages and slots. Conditions: none.
-/
import Derived.Test.YtfopnendmcpglaaCodeAllotmentref20
import Derived.Test.YtfopnendmcpglaaRefPack
import Derived.Test.YtfopnendmcpglaaLawK
import Derived.Test.YtfopnendmcpglaaCode
set_option linter.unusedVariables false
set_option linter.unusedSimpArgs false
set_option maxRecDepth 8000
namespace Go.Proofs.Ytfopnendmcpglaa
open Go Go.Ev Go.Pl Go.Ma

theorem q_readsl {w : Int} (hw : U w) : PureC Try.prog 43 #[.int .u64 w] (.agg #[.int .i64 (slK w), .int .i64 (slA w)]) := by
  refine PureC.of mixed Try.func43 (by kernel_rfl) tr43 (by show 1 ≤ _; decide) fun W H => ?_
  have a0 : bits .and .u64 w 15 = w % 16 := and15 hw
  have a1 : bits .and .u64 (w / 16) 255 = pt w 16 := and255 (U_div hw 16 (by decide))
  have b0 : w64 (w % 16) = w % 16 := w64_nib
  have b1 : w64 (pt w 16) = pt w 16 := w64_byte
  simp only [↓D0, ↓D1, ↓D2, ↓D3, ↓D4, ↓D5, ↓D6, ↓D7, ↓D8, ↓D9, ↓D10, U0, U1, U2, U3, U4, U5, U6, U7, U8, U9, U10, ↓reduceIte, Nat.reduceAdd, Nat.reduceMul, Nat.reduceSub, Nat.reduceEqDiff, Nat.reduceBEq, Nat.reduceLeDiff, Nat.reduceLT, Int.reduceAdd, Int.reduceMul, Int.reduceSub, Int.reduceLT, Int.reduceLE, Int.reduceToNat, Int.reduceEq, Int.reduceNe, Int.reduceBEq, Int.reduceBNe, ne_eq, eq_self]
  refine newB_intro fun x hx f1 f2 => ?_
  simp only [shr4, a0, a1, wrap_w64, b0, b1, ↓D0, ↓D1, ↓D2, ↓D3, ↓D4, ↓D5, ↓D6, ↓D7, ↓D8, ↓D9, ↓D10, U0, U1, U2, U3, U4, U5, U6, U7, U8, U9, U10, ↓reduceIte, Nat.reduceAdd, Nat.reduceMul, Nat.reduceSub, Nat.reduceEqDiff, Nat.reduceBEq, Nat.reduceLeDiff, Nat.reduceLT, Int.reduceAdd, Int.reduceMul, Int.reduceSub, Int.reduceLT, Int.reduceLE, Int.reduceToNat, Int.reduceEq, Int.reduceNe, Int.reduceBEq, Int.reduceBNe, ne_eq, eq_self]
  refine newB_intro fun y hy f3 f4 => ?_
  have nxy : (x = y) = False := f3 x (by rw [upd_same]; rfl)
  have nyx : (y = x) = False := f4 x (by rw [upd_same]; rfl)
  by_cases e1 : putSl (w % 16) (pt w 16) = w
  · have g1 : (putSl (w % 16) (pt w 16) != w) = false := by simp [e1]
    have hok : okSl w = true := decide_eq_true e1
    simp only [u_putsl, g1, nxy, nyx, ↓D0, ↓D1, ↓D2, ↓D3, ↓D4, ↓D5, ↓D6, ↓D7, ↓D8, ↓D9, ↓D10, U0, U1, U2, U3, U4, U5, U6, U7, U8, U9, U10, ↓reduceIte, Nat.reduceAdd, Nat.reduceMul, Nat.reduceSub, Nat.reduceEqDiff, Nat.reduceBEq, Nat.reduceLeDiff, Nat.reduceLT, Int.reduceAdd, Int.reduceMul, Int.reduceSub, Int.reduceLT, Int.reduceLE, Int.reduceToNat, Int.reduceEq, Int.reduceNe, Int.reduceBEq, Int.reduceBNe, ne_eq, eq_self]
    simp only [slK, slA, hok, if_true]
    exact ⟨trivial, ((((Sep.one H).new f1 _).new f3 _).p1.set _).tail.tail.head⟩
  · have g1 : (putSl (w % 16) (pt w 16) != w) = true := by simp [e1]
    have hok : okSl w = false := decide_eq_false e1
    simp only [u_putsl, g1, nxy, nyx, ↓D0, ↓D1, ↓D2, ↓D3, ↓D4, ↓D5, ↓D6, ↓D7, ↓D8, ↓D9, ↓D10, U0, U1, U2, U3, U4, U5, U6, U7, U8, U9, U10, ↓reduceIte, Nat.reduceAdd, Nat.reduceMul, Nat.reduceSub, Nat.reduceEqDiff, Nat.reduceBEq, Nat.reduceLeDiff, Nat.reduceLT, Int.reduceAdd, Int.reduceMul, Int.reduceSub, Int.reduceLT, Int.reduceLE, Int.reduceToNat, Int.reduceEq, Int.reduceNe, Int.reduceBEq, Int.reduceBNe, ne_eq, eq_self]
    simp only [slK, slA, hok, Bool.false_eq_true, if_false]
    exact ⟨trivial, ((((Sep.one H).new f1 _).new f3 _).p1.set _).tail.tail.head⟩
theorem u_readsl {w : Int} (hw : U w) : pv Try.prog 43 #[.int .u64 w] = some (.agg #[.int .i64 (slK w), .int .i64 (slA w)]) := pv_of (q_readsl hw)

section
variable {W : World} {H h : Hp} {l : List Hp} {n cap : Nat} {a : Option Addr} {ws : Nat → Int} {sh : Sh}
/-- The word of a page. -/
def spX (sh : Sh) (ws : Nat → Int) (q : Int) : Int := ws (page sh.p sh.c sh.m q).toNat
theorem cells_of {H : Hp} {b o : Nat} {v : Value} (h : rd H b o = some v) : ∃ c T f, H b = some (.cells c T f) ∧ c[o]? = some v := by
  unfold rd at h
  split at h
  · rename_i c T f e; exact ⟨c, T, f, e, h⟩
  · cases h
theorem c_spage (q : Int) (hm : may sh.p sh.c sh.m = true) (hn : (n : Int) = words sh.p sh.c sh.m) (hr : RowU h a n ws) (hU : ∀ i, i < n → U (ws i)) (hS : Sep (h :: l) H) :
    CallP Try.prog W 62 #[.agg #[.int .i64 sh.p, .int .i64 sh.c, .int .i64 sh.m], .slice a n cap, .int .i64 q] H fun v H' => v = .tuple #[.agg #[.int .i64 (pgK sh q (spX sh ws q)), .int .i64 (pgA sh q (spX sh ws q)), .int .i64 (pgB sh q (spX sh ws q))], .bool (okPg sh q (spX sh ws q))] ∧ Sep (h :: l) H' := by
  refine CallP.of mixed Try.func62 tr62 (by show 3 ≤ _; decide) fun W _ => ?_
  simp only [↓D0, ↓D1, ↓D2, ↓D3, ↓D4, ↓D5, ↓D6, ↓D7, ↓D8, ↓D9, ↓D10, U0, U1, U2, U3, U4, U5, U6, U7, U8, U9, U10, ↓reduceIte, Nat.reduceAdd, Nat.reduceMul, Nat.reduceSub, Nat.reduceEqDiff, Nat.reduceBEq, Nat.reduceLeDiff, Nat.reduceLT, Int.reduceAdd, Int.reduceMul, Int.reduceSub, Int.reduceLT, Int.reduceLE, Int.reduceToNat, Int.reduceEq, Int.reduceNe, Int.reduceBEq, Int.reduceBNe, ne_eq, eq_self]
  refine newB_intro fun x hx f1 f2 => ?_
  simp only [↓D0, ↓D1, ↓D2, ↓D3, ↓D4, ↓D5, ↓D6, ↓D7, ↓D8, ↓D9, ↓D10, U0, U1, U2, U3, U4, U5, U6, U7, U8, U9, U10, ↓reduceIte, Nat.reduceAdd, Nat.reduceMul, Nat.reduceSub, Nat.reduceEqDiff, Nat.reduceBEq, Nat.reduceLeDiff, Nat.reduceLT, Int.reduceAdd, Int.reduceMul, Int.reduceSub, Int.reduceLT, Int.reduceLE, Int.reduceToNat, Int.reduceEq, Int.reduceNe, Int.reduceBEq, Int.reduceBNe, ne_eq, eq_self]
  refine newB_intro fun y hy f3 f4 => ?_
  have hS0 := hS
  have hS := (hS.new f1 (.cells #[.int .i64 sh.p, .int .i64 sh.c, .int .i64 sh.m] 23 (0, 0))).new f3 (.cells #[.int .i64 0, .int .i64 0, .int .i64 0] 59 (0, 0))
  have hx1 := hS.lk 1 rfl
  have hy1 := hS.look
  have r1 := fun o n => rdn_of hx1 o n
  have nyx := hS.neq 0 1 (by decide) rfl rfl
  have nxy := hS.qen 0 1 (by decide) rfl rfl
  by_cases hq : 0 ≤ q ∧ q < sh.p
  · have hpg : page sh.p sh.c sh.m q = sh.c + q := page_yes hm hq.1 hq.2
    have hb := (may_iff _ _ _).1 hm
    have hml := mul_bd sh.c sh.m (by omega) hb.2.2.2.1 hb.2.2.2.2.1 hb.2.2.2.2.2
    have hnv : sh.c + sh.p ≤ (n : Int) := by rw [hn]; unfold words; rw [if_pos hm]; omega
    have g0 : decide (sh.c + q < 0) = false := decide_eq_false (by omega)
    have p0 : (0 : Int) ≤ sh.c + q := by omega
    have p1 : sh.c + q < (n : Int) := by omega
    obtain ⟨xb, xo, rfl, hrd0⟩ := (hr.sub (hS0.sb h (by simp))).at' (i := (sh.c + q).toNat) (by omega)
    have hu : U (ws (sh.c + q).toNat) := hU _ (by omega)
    obtain ⟨c, T, f, hc0, hco⟩ := cells_of hrd0
    have m1 : (xb = x) = False := f1 xb (by rw [hc0]; rfl)
    have m2 : (xb = y) = False := f3 xb (by rw [is_upd, hc0]; simp)
    have hc : upd (upd H x (.cells #[.int .i64 sh.p, .int .i64 sh.c, .int .i64 sh.m] 23 (0, 0))) y (.cells #[.int .i64 0, .int .i64 0, .int .i64 0] 59 (0, 0)) xb = some (.cells c T f) := by
      rw [upd_at, if_neg (fun e => by rw [e] at m2; simp at m2), upd_at, if_neg (fun e => by rw [e] at m1; simp at m1)]; exact hc0
    have hspx : spX sh ws q = ws (sh.c + q).toNat := by unfold spX; rw [hpg]
    simp only [hx1, hy1, r1, u_page, hpg, g0, ↓D0, ↓D1, ↓D2, ↓D3, ↓D4, ↓D5, ↓D6, ↓D7, ↓D8, ↓D9, ↓D10, U0, U1, U2, U3, U4, U5, U6, U7, U8, U9, U10, ↓reduceIte, Nat.reduceAdd, Nat.reduceMul, Nat.reduceSub, Nat.reduceEqDiff, Nat.reduceBEq, Nat.reduceLeDiff, Nat.reduceLT, Int.reduceAdd, Int.reduceMul, Int.reduceSub, Int.reduceLT, Int.reduceLE, Int.reduceToNat, Int.reduceEq, Int.reduceNe, Int.reduceBEq, Int.reduceBNe, ne_eq, eq_self]
    refine draw_intro [(x, #[.int .i64 sh.p, .int .i64 sh.c, .int .i64 sh.m], []), (xb, c, [])] (by simp only [hx1, hc, ↓D0, ↓D1, ↓D2, ↓D3, ↓D4, ↓D5, ↓D6, ↓D7, ↓D8, ↓D9, ↓D10, U0, U1, U2, U3, U4, U5, U6, U7, U8, U9, U10, ↓reduceIte, Nat.reduceAdd, Nat.reduceMul, Nat.reduceSub, Nat.reduceEqDiff, Nat.reduceBEq, Nat.reduceLeDiff, Nat.reduceLT, Int.reduceAdd, Int.reduceMul, Int.reduceSub, Int.reduceLT, Int.reduceLE, Int.reduceToNat, Int.reduceEq, Int.reduceNe, Int.reduceBEq, Int.reduceBNe, ne_eq, eq_self]) ?_
    have r2 := fun o => rd_of hc o
    simp only [hx1, hy1, r1, p0, p1, hc, r2, hco, m1, m2, u_readpg sh q hu, hspx, nyx, nxy, ↓D0, ↓D1, ↓D2, ↓D3, ↓D4, ↓D5, ↓D6, ↓D7, ↓D8, ↓D9, ↓D10, U0, U1, U2, U3, U4, U5, U6, U7, U8, U9, U10, ↓reduceIte, Nat.reduceAdd, Nat.reduceMul, Nat.reduceSub, Nat.reduceEqDiff, Nat.reduceBEq, Nat.reduceLeDiff, Nat.reduceLT, Int.reduceAdd, Int.reduceMul, Int.reduceSub, Int.reduceLT, Int.reduceLE, Int.reduceToNat, Int.reduceEq, Int.reduceNe, Int.reduceBEq, Int.reduceBNe, ne_eq, eq_self]
    have h3 := (hS.set (.cells #[.int .i64 (pgK sh q (ws (sh.c + q).toNat)), .int .i64 (pgA sh q (ws (sh.c + q).toNat)), .int .i64 (pgB sh q (ws (sh.c + q).toNat))] 59 (0, 0))).tail.tail
    rw [Ev.upd_upd] at h3
    exact h3
  · have hpl : page sh.p sh.c sh.m q < 0 := (page_lt0 _ _ _ _).2 fun h => hq h.2
    have g0 : decide (page sh.p sh.c sh.m q < 0) = true := decide_eq_true hpl
    have hok : okPg sh q (spX sh ws q) = false := by unfold okPg; rw [decide_eq_false (by omega : ¬ 0 ≤ page sh.p sh.c sh.m q)]; simp
    have k1 : pgK sh q (spX sh ws q) = 0 := by unfold pgK; rw [hok]; rfl
    have k2 : pgA sh q (spX sh ws q) = 0 := by unfold pgA; rw [hok]; rfl
    have k3 : pgB sh q (spX sh ws q) = 0 := by unfold pgB; rw [hok]; rfl
    simp only [hx1, hy1, r1, u_page, g0, hok, k1, k2, k3, nyx, nxy, ↓D0, ↓D1, ↓D2, ↓D3, ↓D4, ↓D5, ↓D6, ↓D7, ↓D8, ↓D9, ↓D10, U0, U1, U2, U3, U4, U5, U6, U7, U8, U9, U10, ↓reduceIte, Nat.reduceAdd, Nat.reduceMul, Nat.reduceSub, Nat.reduceEqDiff, Nat.reduceBEq, Nat.reduceLeDiff, Nat.reduceLT, Int.reduceAdd, Int.reduceMul, Int.reduceSub, Int.reduceLT, Int.reduceLE, Int.reduceToNat, Int.reduceEq, Int.reduceNe, Int.reduceBEq, Int.reduceBNe, ne_eq, eq_self]
    exact hS.tail.tail
theorem words_ge (hm : may sh.p sh.c sh.m = true) (hn : (n : Int) = words sh.p sh.c sh.m) : sh.c + sh.p * 17 + sh.c * sh.m = (n : Int) ∧ 0 ≤ sh.c * sh.m ∧ sh.c * sh.m ≤ 96 := by
  have hb := (may_iff _ _ _).1 hm
  have hml := mul_bd sh.c sh.m (by omega) hb.2.2.2.1 hb.2.2.2.2.1 hb.2.2.2.2.2
  rw [hn]; unfold words; rw [if_pos hm]; omega
theorem c_sslot (q i : Int) (hm : may sh.p sh.c sh.m = true) (hn : (n : Int) = words sh.p sh.c sh.m) (hr : RowU h a n ws) (hU : ∀ i, i < n → U (ws i)) (hq : 0 ≤ q ∧ q < sh.p) (hi : 0 ≤ i ∧ i < 16) (hS : Sep (h :: l) H) :
    CallP Try.prog W 81 #[.agg #[.int .i64 sh.p, .int .i64 sh.c, .int .i64 sh.m], .slice a n cap, .int .i64 q, .int .i64 i] H fun v H' => v = .agg #[.int .i64 (slK (ws (sh.c + sh.p + q * 16 + i).toNat)), .int .i64 (slA (ws (sh.c + sh.p + q * 16 + i).toNat))] ∧ Sep (h :: l) H' := by
  refine CallP.of mixed Try.func81 tr81 (by show 4 ≤ _; decide) fun W _ => ?_
  simp only [↓D0, ↓D1, ↓D2, ↓D3, ↓D4, ↓D5, ↓D6, ↓D7, ↓D8, ↓D9, ↓D10, U0, U1, U2, U3, U4, U5, U6, U7, U8, U9, U10, ↓reduceIte, Nat.reduceAdd, Nat.reduceMul, Nat.reduceSub, Nat.reduceEqDiff, Nat.reduceBEq, Nat.reduceLeDiff, Nat.reduceLT, Int.reduceAdd, Int.reduceMul, Int.reduceSub, Int.reduceLT, Int.reduceLE, Int.reduceToNat, Int.reduceEq, Int.reduceNe, Int.reduceBEq, Int.reduceBNe, ne_eq, eq_self]
  refine newB_intro fun x hx f1 f2 => ?_
  simp only [↓D0, ↓D1, ↓D2, ↓D3, ↓D4, ↓D5, ↓D6, ↓D7, ↓D8, ↓D9, ↓D10, U0, U1, U2, U3, U4, U5, U6, U7, U8, U9, U10, ↓reduceIte, Nat.reduceAdd, Nat.reduceMul, Nat.reduceSub, Nat.reduceEqDiff, Nat.reduceBEq, Nat.reduceLeDiff, Nat.reduceLT, Int.reduceAdd, Int.reduceMul, Int.reduceSub, Int.reduceLT, Int.reduceLE, Int.reduceToNat, Int.reduceEq, Int.reduceNe, Int.reduceBEq, Int.reduceBNe, ne_eq, eq_self]
  refine newB_intro fun y hy f3 f4 => ?_
  have hS := (hS.new f1 (.cells #[.int .i64 sh.p, .int .i64 sh.c, .int .i64 sh.m] 23 (0, 0))).new f3 (.cells #[.int .i64 0, .int .i64 0] 64 (0, 0))
  have hx1 := hS.lk 1 rfl
  have hy1 := hS.look
  have r1 := fun o n => rdn_of hx1 o n
  have nyx := hS.neq 0 1 (by decide) rfl rfl
  have nxy := hS.qen 0 1 (by decide) rfl rfl
  have hw := words_ge hm hn
  have hb := (may_iff _ _ _).1 hm
  have hsl : slot sh.p sh.c sh.m q i = sh.c + sh.p + q * 16 + i := slot_yes hm hq.1 hq.2 hi.1 hi.2
  have p0 : (0 : Int) ≤ sh.c + sh.p + q * 16 + i := by omega
  have p1 : sh.c + sh.p + q * 16 + i < (n : Int) := by omega
  obtain ⟨xb, xo, rfl, hrd⟩ := (hr.sub (hS.sb h (by simp))).at' (i := (sh.c + sh.p + q * 16 + i).toNat) (by omega)
  have hu : U (ws (sh.c + sh.p + q * 16 + i).toNat) := hU _ (by omega)
  simp only [hx1, hy1, r1, u_slot, hsl, p0, p1, hrd, u_readsl hu, nyx, nxy, ↓D0, ↓D1, ↓D2, ↓D3, ↓D4, ↓D5, ↓D6, ↓D7, ↓D8, ↓D9, ↓D10, U0, U1, U2, U3, U4, U5, U6, U7, U8, U9, U10, ↓reduceIte, Nat.reduceAdd, Nat.reduceMul, Nat.reduceSub, Nat.reduceEqDiff, Nat.reduceBEq, Nat.reduceLeDiff, Nat.reduceLT, Int.reduceAdd, Int.reduceMul, Int.reduceSub, Int.reduceLT, Int.reduceLE, Int.reduceToNat, Int.reduceEq, Int.reduceNe, Int.reduceBEq, Int.reduceBNe, ne_eq, eq_self]
  have h3 := (hS.set (.cells #[.int .i64 (slK (ws (sh.c + sh.p + q * 16 + i).toNat)), .int .i64 (slA (ws (sh.c + sh.p + q * 16 + i).toNat))] 64 (0, 0))).tail.tail
  rw [Ev.upd_upd] at h3
  exact h3
theorem c_senough (hm : may sh.p sh.c sh.m = true) (hn : (n : Int) = words sh.p sh.c sh.m) (hS : Sep (h :: l) H) :
    CallP Try.prog W 61 #[.agg #[.int .i64 sh.p, .int .i64 sh.c, .int .i64 sh.m], .slice a n cap] H fun v H' => v = .bool true ∧ Sep (h :: l) H' := by
  refine CallP.of mixed Try.func61 tr61 (by show 2 ≤ _; decide) fun W _ => ?_
  simp only [↓D0, ↓D1, ↓D2, ↓D3, ↓D4, ↓D5, ↓D6, ↓D7, ↓D8, ↓D9, ↓D10, U0, U1, U2, U3, U4, U5, U6, U7, U8, U9, U10, ↓reduceIte, Nat.reduceAdd, Nat.reduceMul, Nat.reduceSub, Nat.reduceEqDiff, Nat.reduceBEq, Nat.reduceLeDiff, Nat.reduceLT, Int.reduceAdd, Int.reduceMul, Int.reduceSub, Int.reduceLT, Int.reduceLE, Int.reduceToNat, Int.reduceEq, Int.reduceNe, Int.reduceBEq, Int.reduceBNe, ne_eq, eq_self]
  refine newB_intro fun x hx f1 f2 => ?_
  have hS := (hS.new f1 (.cells #[.int .i64 sh.p, .int .i64 sh.c, .int .i64 sh.m] 23 (0, 0)))
  have hx1 := hS.look
  have r1 := fun o n => rdn_of hx1 o n
  have d1 : decide (words sh.p sh.c sh.m ≤ (n : Int)) = true := decide_eq_true (by omega)
  simp only [hx1, r1, u_may, hm, u_words, d1, ↓D0, ↓D1, ↓D2, ↓D3, ↓D4, ↓D5, ↓D6, ↓D7, ↓D8, ↓D9, ↓D10, U0, U1, U2, U3, U4, U5, U6, U7, U8, U9, U10, ↓reduceIte, Nat.reduceAdd, Nat.reduceMul, Nat.reduceSub, Nat.reduceEqDiff, Nat.reduceBEq, Nat.reduceLeDiff, Nat.reduceLT, Int.reduceAdd, Int.reduceMul, Int.reduceSub, Int.reduceLT, Int.reduceLE, Int.reduceToNat, Int.reduceEq, Int.reduceNe, Int.reduceBEq, Int.reduceBNe, ne_eq, eq_self]
  exact hS.tail

theorem sp_cases (k A x c : Int) : ((k == 1) = true ∧ (A == x) = true ∧ (A == x) = true ∧ (A == x) = true) ∨ ((k == 1) = true ∧ (A == x) = false ∧ (k == 2) = false ∧ (k == 2) = false) ∨ ((k == 1) = false ∧ (k == 3) = true ∧ (A == x) = true ∧ (A == x) = true) ∨ ((k == 1) = false ∧ (k == 3) = true ∧ (A == x) = false ∧ (k == 2) = false) ∨
    ((k == 1) = false ∧ (k == 3) = false ∧ (k == 2) = true ∧ decide (A < c) = true) ∨ ((k == 1) = false ∧ (k == 3) = false ∧ (k == 2) = true ∧ decide (A < c) = false) ∨ ((k == 1) = false ∧ (k == 3) = false ∧ (k == 2) = false ∧ (k == 2) = false) := by
  by_cases k1 : k = 1
  · subst k1
    cases h : (A == x)
    · exact .inr (.inl ⟨rfl, rfl, rfl, rfl⟩)
    · exact .inl ⟨rfl, rfl, rfl, rfl⟩
  · have k1 : (k == 1) = false := beq_eq_false_iff_ne.2 k1
    by_cases k3 : k = 3
    · subst k3
      cases h : (A == x)
      · exact .inr (.inr (.inr (.inl ⟨rfl, rfl, rfl, rfl⟩)))
      · exact .inr (.inr (.inl ⟨rfl, rfl, rfl, rfl⟩))
    · have k3 : (k == 3) = false := beq_eq_false_iff_ne.2 k3
      cases h2 : (k == 2)
      · exact .inr (.inr (.inr (.inr (.inr (.inr ⟨k1, k3, rfl, rfl⟩)))))
      · cases h : decide (A < c)
        · exact .inr (.inr (.inr (.inr (.inr (.inl ⟨k1, k3, rfl, rfl⟩)))))
        · exact .inr (.inr (.inr (.inr (.inl ⟨k1, k3, rfl, rfl⟩))))
theorem sq_cases (i s w : Int) : (decide (i < s) = false ∧ decide (s ≤ i) = true ∧ (w != 0) = true) ∨ (decide (i < s) = false ∧ decide (s ≤ i) = true ∧ (w != 0) = false) ∨ (decide (i < s) = true ∧ decide (s ≤ i) = false ∧ decide (s ≤ i) = false) := by
  by_cases h : i < s
  · exact .inr (.inr ⟨decide_eq_true h, decide_eq_false (by omega), decide_eq_false (by omega)⟩)
  · cases h2 : (w != 0)
    · exact .inr (.inl ⟨decide_eq_false h, decide_eq_true (by omega), rfl⟩)
    · exact .inl ⟨decide_eq_false h, decide_eq_true (by omega), rfl⟩
def spG (p : Int) (n cap : Nat) (a : Option Addr) (x y : Nat) (F' : Fr) : Prop := gt F' 1 = .slice a n cap ∧ gt F' 2 = .int .i64 p ∧ gt F' 4 = .pointer (some ⟨x, 0, none⟩) ∧ gt F' 7 = .pointer (some ⟨y, 0, none⟩)
def spI (r : Nat) (p : Int) (n cap : Nat) (a : Option Addr) (x y : Nat) (L : List Hp) (F' : Fr) (H' : Hp) : Prop :=
  ∃ i : Nat, i ≤ 16 ∧ gt F' r = .int .i64 (i : Int) ∧ spG p n cap a x y F' ∧ Sep L H'
def spL (A p : Int) (n cap : Nat) (a : Option Addr) (x y : Nat) (L : List Hp) (F' : Fr) (H' : Hp) : Prop :=
  ∃ i : Int, 1 ≤ i ∧ (i = 1 ∨ i ≤ A) ∧ gt F' 16 = .int .i64 i ∧ spG p n cap a x y F' ∧ Sep L H'
set_option maxHeartbeats 4000000 in
theorem c_soundpage (p : Int) (K A B : Int) (hA : A ≤ 255) (hm : may sh.p sh.c sh.m = true) (hn : (n : Int) = words sh.p sh.c sh.m) (hr : RowU h a n ws) (hU : ∀ i, i < n → U (ws i)) (hp : 0 ≤ p ∧ p < sh.p) (hS : Sep (h :: l) H) :
    CallP Try.prog W 63 #[.agg #[.int .i64 sh.p, .int .i64 sh.c, .int .i64 sh.m], .slice a n cap, .int .i64 p, .agg #[.int .i64 K, .int .i64 A, .int .i64 B]] H fun v H' => ∃ b, v = .bool b ∧ Sep (h :: l) H' := by
  refine CallP.of mixed Try.func63 tr63 (by show 4 ≤ _; decide) fun W _ => ?_
  simp only [↓D0, ↓D1, ↓D2, ↓D3, ↓D4, ↓D5, ↓D6, ↓D7, ↓D8, ↓D9, ↓D10, U0, U1, U2, U3, U4, U5, U6, U7, U8, U9, U10, ↓reduceIte, Nat.reduceAdd, Nat.reduceMul, Nat.reduceSub, Nat.reduceEqDiff, Nat.reduceBEq, Nat.reduceLeDiff, Nat.reduceLT, Int.reduceAdd, Int.reduceMul, Int.reduceSub, Int.reduceLT, Int.reduceLE, Int.reduceToNat, Int.reduceEq, Int.reduceNe, Int.reduceBEq, Int.reduceBNe, ne_eq, eq_self]
  refine newB_intro fun x hx f1 f2 => ?_
  simp only [↓D0, ↓D1, ↓D2, ↓D3, ↓D4, ↓D5, ↓D6, ↓D7, ↓D8, ↓D9, ↓D10, U0, U1, U2, U3, U4, U5, U6, U7, U8, U9, U10, ↓reduceIte, Nat.reduceAdd, Nat.reduceMul, Nat.reduceSub, Nat.reduceEqDiff, Nat.reduceBEq, Nat.reduceLeDiff, Nat.reduceLT, Int.reduceAdd, Int.reduceMul, Int.reduceSub, Int.reduceLT, Int.reduceLE, Int.reduceToNat, Int.reduceEq, Int.reduceNe, Int.reduceBEq, Int.reduceBNe, ne_eq, eq_self]
  refine newB_intro fun y hy f3 f4 => ?_
  have hS := (hS.new f1 (.cells #[.int .i64 sh.p, .int .i64 sh.c, .int .i64 sh.m] 23 (0, 0))).new f3 (.cells #[.int .i64 K, .int .i64 A, .int .i64 B] 59 (0, 0))
  have hx1 := hS.lk 1 rfl
  have hy1 := hS.look
  have r1 := fun o n => rdn_of hx1 o n
  have r0 := fun o => rd_of hx1 o
  have r2 := fun o => rd_of hy1 o
  have nyx := hS.neq 0 1 (by decide) rfl rfl
  have nxy := hS.qen 0 1 (by decide) rfl rfl
  have hw := words_ge hm hn
  have hb := (may_iff _ _ _).1 hm
  cases k2 : (K == 2)
  · cases k1 : (K == 1)
    · simp only [hx1, hy1, r1, r0, r2, nyx, nxy, k2, k1, ↓D0, ↓D1, ↓D2, ↓D3, ↓D4, ↓D5, ↓D6, ↓D7, ↓D8, ↓D9, ↓D10, U0, U1, U2, U3, U4, U5, U6, U7, U8, U9, U10, ↓reduceIte, Nat.reduceAdd, Nat.reduceMul, Nat.reduceSub, Nat.reduceEqDiff, Nat.reduceBEq, Nat.reduceLeDiff, Nat.reduceLT, Int.reduceAdd, Int.reduceMul, Int.reduceSub, Int.reduceLT, Int.reduceLE, Int.reduceToNat, Int.reduceEq, Int.reduceNe, Int.reduceBEq, Int.reduceBNe, ne_eq, eq_self]
      refine loop_intro (spI 13 p n cap a x y (sg y (.cells #[.int .i64 K, .int .i64 A, .int .i64 B] 59 (0, 0)) :: sg x (.cells #[.int .i64 sh.p, .int .i64 sh.c, .int .i64 sh.m] 23 (0, 0)) :: h :: l)) (fun F' _ => (16 - iv (gt F' 13)).toNat)
        ⟨0, by omega, rfl, ⟨rfl, rfl, rfl, rfl⟩, hS⟩ ?_
      clear hS hx1 hy1 r1 r0 r2 nyx nxy
      rintro F' H' ⟨i, hi, e13, ⟨e1, e2, e4, e7⟩, hS⟩
      have hx1 := hS.lk 1 rfl
      have hy1 := hS.look
      have r1 := fun o n => rdn_of hx1 o n
      have r0 := fun o => rd_of hx1 o
      have r2 := fun o => rd_of hy1 o
      by_cases hlt : i < 16
      · have d1 : decide ((i : Int) < 16) = true := decide_eq_true (by omega)
        have wi : w64 ((i : Int) + 1) = (i : Int) + 1 := w64_eq (by omega) (by omega)
        have hsl : slot sh.p sh.c sh.m p (i : Int) = sh.c + sh.p + p * 16 + (i : Int) := slot_yes hm hp.1 hp.2 (by omega) (by omega)
        have p0 : (0 : Int) ≤ sh.c + sh.p + p * 16 + (i : Int) := by omega
        have p1 : sh.c + sh.p + p * 16 + (i : Int) < (n : Int) := by omega
        obtain ⟨xb, xo, rfl, hrd⟩ := (hr.sub (hS.sb h (by simp))).at' (i := (sh.c + sh.p + p * 16 + (i : Int)).toNat) (by omega)
        cases hz : (ws (sh.c + sh.p + p * 16 + (i : Int)).toNat != 0)
        · simp only [e13, e1, e2, e4, e7, hx1, hy1, r1, d1, u_slot, hsl, p0, p1, hrd, hz, wrap_w64, wi, ↓D0, ↓D1, ↓D2, ↓D3, ↓D4, ↓D5, ↓D6, ↓D7, ↓D8, ↓D9, ↓D10, U0, U1, U2, U3, U4, U5, U6, U7, U8, U9, U10, ↓reduceIte, Nat.reduceAdd, Nat.reduceMul, Nat.reduceSub, Nat.reduceEqDiff, Nat.reduceBEq, Nat.reduceLeDiff, Nat.reduceLT, Int.reduceAdd, Int.reduceMul, Int.reduceSub, Int.reduceLT, Int.reduceLE, Int.reduceToNat, Int.reduceEq, Int.reduceNe, Int.reduceBEq, Int.reduceBNe, ne_eq, eq_self]
          exact ⟨⟨i + 1, by omega, by simp [gt, wi], ⟨by simp [gt, e1], by simp [gt, e2], by simp [gt, e4], by simp [gt, e7]⟩, hS⟩, by simp [gt, iv, e13, wi]; omega⟩
        · simp only [e13, e1, e2, e4, e7, hx1, hy1, r1, d1, u_slot, hsl, p0, p1, hrd, hz, ↓D0, ↓D1, ↓D2, ↓D3, ↓D4, ↓D5, ↓D6, ↓D7, ↓D8, ↓D9, ↓D10, U0, U1, U2, U3, U4, U5, U6, U7, U8, U9, U10, ↓reduceIte, Nat.reduceAdd, Nat.reduceMul, Nat.reduceSub, Nat.reduceEqDiff, Nat.reduceBEq, Nat.reduceLeDiff, Nat.reduceLT, Int.reduceAdd, Int.reduceMul, Int.reduceSub, Int.reduceLT, Int.reduceLE, Int.reduceToNat, Int.reduceEq, Int.reduceNe, Int.reduceBEq, Int.reduceBNe, ne_eq, eq_self]
          exact ⟨_, rfl, hS.tail.tail⟩
      have d1 : decide ((i : Int) < 16) = false := decide_eq_false (by omega)
      cases k4 : (K == 4)
      · cases k3 : (K == 3)
        · simp only [e13, e1, e2, e4, e7, hx1, hy1, r0, r1, r2, d1, k4, k3, ↓D0, ↓D1, ↓D2, ↓D3, ↓D4, ↓D5, ↓D6, ↓D7, ↓D8, ↓D9, ↓D10, U0, U1, U2, U3, U4, U5, U6, U7, U8, U9, U10, ↓reduceIte, Nat.reduceAdd, Nat.reduceMul, Nat.reduceSub, Nat.reduceEqDiff, Nat.reduceBEq, Nat.reduceLeDiff, Nat.reduceLT, Int.reduceAdd, Int.reduceMul, Int.reduceSub, Int.reduceLT, Int.reduceLE, Int.reduceToNat, Int.reduceEq, Int.reduceNe, Int.reduceBEq, Int.reduceBNe, ne_eq, eq_self]
          exact ⟨_, rfl, hS.tail.tail⟩
        · simp only [e13, e1, e2, e4, e7, hx1, hy1, r0, r1, r2, d1, k4, k3, ↓D0, ↓D1, ↓D2, ↓D3, ↓D4, ↓D5, ↓D6, ↓D7, ↓D8, ↓D9, ↓D10, U0, U1, U2, U3, U4, U5, U6, U7, U8, U9, U10, ↓reduceIte, Nat.reduceAdd, Nat.reduceMul, Nat.reduceSub, Nat.reduceEqDiff, Nat.reduceBEq, Nat.reduceLeDiff, Nat.reduceLT, Int.reduceAdd, Int.reduceMul, Int.reduceSub, Int.reduceLT, Int.reduceLE, Int.reduceToNat, Int.reduceEq, Int.reduceNe, Int.reduceBEq, Int.reduceBNe, ne_eq, eq_self]
          refine loop_intro (spL A p n cap a x y (sg y (.cells #[.int .i64 K, .int .i64 A, .int .i64 B] 59 (0, 0)) :: sg x (.cells #[.int .i64 sh.p, .int .i64 sh.c, .int .i64 sh.m] 23 (0, 0)) :: h :: l)) (fun F' _ => (A - iv (gt F' 16)).toNat)
            ⟨1, by omega, .inl rfl, rfl, ⟨by simp [gt, e1], by simp [gt, e2], by simp [gt, e4], by simp [gt, e7]⟩, hS⟩ ?_
          clear hS hx1 hy1 r1 r0 r2 e1 e2 e4 e7 e13
          rintro F' H' ⟨j, j1, j2, e16, ⟨e1, e2, e4, e7⟩, hS⟩
          have hx1 := hS.lk 1 rfl
          have hy1 := hS.look
          have r1 := fun o n => rdn_of hx1 o n
          have r0 := fun o => rd_of hx1 o
          have r2 := fun o => rd_of hy1 o
          by_cases hj : j < A
          · have d2 : decide (j < A) = true := decide_eq_true hj
            have wj : w64 (j + 1) = j + 1 := w64_eq (by omega) (by omega)
            have wpj : w64 (p + j) = p + j := w64_eq (by omega) (by omega)
            simp only [e16, e1, e2, e4, e7, hx1, hy1, r1, r2, d2, wrap_w64, wpj, ↓D0, ↓D1, ↓D2, ↓D3, ↓D4, ↓D5, ↓D6, ↓D7, ↓D8, ↓D9, ↓D10, U0, U1, U2, U3, U4, U5, U6, U7, U8, U9, U10, ↓reduceIte, Nat.reduceAdd, Nat.reduceMul, Nat.reduceSub, Nat.reduceEqDiff, Nat.reduceBEq, Nat.reduceLeDiff, Nat.reduceLT, Int.reduceAdd, Int.reduceMul, Int.reduceSub, Int.reduceLT, Int.reduceLE, Int.reduceToNat, Int.reduceEq, Int.reduceNe, Int.reduceBEq, Int.reduceBNe, ne_eq, eq_self]
            refine callT_of (c_spage (p + j) hm hn hr hU hS.p2) ?_
            rintro v H' ⟨rfl, hS⟩
            simp only [e16, e1, e2, e4, e7, ↓D0, ↓D1, ↓D2, ↓D3, ↓D4, ↓D5, ↓D6, ↓D7, ↓D8, ↓D9, ↓D10, U0, U1, U2, U3, U4, U5, U6, U7, U8, U9, U10, ↓reduceIte, Nat.reduceAdd, Nat.reduceMul, Nat.reduceSub, Nat.reduceEqDiff, Nat.reduceBEq, Nat.reduceLeDiff, Nat.reduceLT, Int.reduceAdd, Int.reduceMul, Int.reduceSub, Int.reduceLT, Int.reduceLE, Int.reduceToNat, Int.reduceEq, Int.reduceNe, Int.reduceBEq, Int.reduceBNe, ne_eq, eq_self]
            refine newB_intro fun z hz f5 f6 => ?_
            have hS := hS.new f5 (.cells #[.int .i64 0, .int .i64 0, .int .i64 0] 59 (0, 0))
            have hS := hS.set (.cells #[.int .i64 (pgK sh (p + j) (spX sh ws (p + j))), .int .i64 (pgA sh (p + j) (spX sh ws (p + j))), .int .i64 (pgB sh (p + j) (spX sh ws (p + j)))] 59 (0, 0))
            rw [Ev.upd_upd] at hS
            have hz1 := hS.look
            have r3 := fun o => rd_of hz1 o
            have hSt := hS.tail
            cases q1 : (pgK sh (p + j) (spX sh ws (p + j)) != 4)
            · cases q2 : (pgA sh (p + j) (spX sh ws (p + j)) != p)
              · simp only [e16, e1, e2, e4, e7, Ev.upd_upd, hz1, r3, q1, q2, wrap_w64, wj, ↓D0, ↓D1, ↓D2, ↓D3, ↓D4, ↓D5, ↓D6, ↓D7, ↓D8, ↓D9, ↓D10, U0, U1, U2, U3, U4, U5, U6, U7, U8, U9, U10, ↓reduceIte, Nat.reduceAdd, Nat.reduceMul, Nat.reduceSub, Nat.reduceEqDiff, Nat.reduceBEq, Nat.reduceLeDiff, Nat.reduceLT, Int.reduceAdd, Int.reduceMul, Int.reduceSub, Int.reduceLT, Int.reduceLE, Int.reduceToNat, Int.reduceEq, Int.reduceNe, Int.reduceBEq, Int.reduceBNe, ne_eq, eq_self]
                exact ⟨⟨j + 1, by omega, by omega, by simp [gt], ⟨by simp [gt, e1], by simp [gt, e2], by simp [gt, e4], by simp [gt, e7]⟩, hSt.p2.p2⟩, by simp [gt, iv, e16]; omega⟩
              · simp only [e16, e1, e2, e4, e7, Ev.upd_upd, hz1, r3, q1, q2, ↓D0, ↓D1, ↓D2, ↓D3, ↓D4, ↓D5, ↓D6, ↓D7, ↓D8, ↓D9, ↓D10, U0, U1, U2, U3, U4, U5, U6, U7, U8, U9, U10, ↓reduceIte, Nat.reduceAdd, Nat.reduceMul, Nat.reduceSub, Nat.reduceEqDiff, Nat.reduceBEq, Nat.reduceLeDiff, Nat.reduceLT, Int.reduceAdd, Int.reduceMul, Int.reduceSub, Int.reduceLT, Int.reduceLE, Int.reduceToNat, Int.reduceEq, Int.reduceNe, Int.reduceBEq, Int.reduceBNe, ne_eq, eq_self]
                exact ⟨_, rfl, hSt.p2.p2.tail.tail⟩
            · simp only [e16, e1, e2, e4, e7, Ev.upd_upd, hz1, r3, q1, ↓D0, ↓D1, ↓D2, ↓D3, ↓D4, ↓D5, ↓D6, ↓D7, ↓D8, ↓D9, ↓D10, U0, U1, U2, U3, U4, U5, U6, U7, U8, U9, U10, ↓reduceIte, Nat.reduceAdd, Nat.reduceMul, Nat.reduceSub, Nat.reduceEqDiff, Nat.reduceBEq, Nat.reduceLeDiff, Nat.reduceLT, Int.reduceAdd, Int.reduceMul, Int.reduceSub, Int.reduceLT, Int.reduceLE, Int.reduceToNat, Int.reduceEq, Int.reduceNe, Int.reduceBEq, Int.reduceBNe, ne_eq, eq_self]
              exact ⟨_, rfl, hSt.p2.p2.tail.tail⟩
          · have d2 : decide (j < A) = false := decide_eq_false hj
            simp only [e16, e1, e2, e4, e7, hx1, hy1, r1, r2, d2, ↓D0, ↓D1, ↓D2, ↓D3, ↓D4, ↓D5, ↓D6, ↓D7, ↓D8, ↓D9, ↓D10, U0, U1, U2, U3, U4, U5, U6, U7, U8, U9, U10, ↓reduceIte, Nat.reduceAdd, Nat.reduceMul, Nat.reduceSub, Nat.reduceEqDiff, Nat.reduceBEq, Nat.reduceLeDiff, Nat.reduceLT, Int.reduceAdd, Int.reduceMul, Int.reduceSub, Int.reduceLT, Int.reduceLE, Int.reduceToNat, Int.reduceEq, Int.reduceNe, Int.reduceBEq, Int.reduceBNe, ne_eq, eq_self]
            exact ⟨_, rfl, hS.tail.tail⟩
      · simp only [e13, e1, e2, e4, e7, hx1, hy1, r0, r1, r2, d1, k4, ↓D0, ↓D1, ↓D2, ↓D3, ↓D4, ↓D5, ↓D6, ↓D7, ↓D8, ↓D9, ↓D10, U0, U1, U2, U3, U4, U5, U6, U7, U8, U9, U10, ↓reduceIte, Nat.reduceAdd, Nat.reduceMul, Nat.reduceSub, Nat.reduceEqDiff, Nat.reduceBEq, Nat.reduceLeDiff, Nat.reduceLT, Int.reduceAdd, Int.reduceMul, Int.reduceSub, Int.reduceLT, Int.reduceLE, Int.reduceToNat, Int.reduceEq, Int.reduceNe, Int.reduceBEq, Int.reduceBNe, ne_eq, eq_self]
        refine callT_of (c_spage A hm hn hr hU hS.p2) ?_
        rintro v H' ⟨rfl, hS⟩
        simp only [e13, e1, e2, e4, e7, ↓D0, ↓D1, ↓D2, ↓D3, ↓D4, ↓D5, ↓D6, ↓D7, ↓D8, ↓D9, ↓D10, U0, U1, U2, U3, U4, U5, U6, U7, U8, U9, U10, ↓reduceIte, Nat.reduceAdd, Nat.reduceMul, Nat.reduceSub, Nat.reduceEqDiff, Nat.reduceBEq, Nat.reduceLeDiff, Nat.reduceLT, Int.reduceAdd, Int.reduceMul, Int.reduceSub, Int.reduceLT, Int.reduceLE, Int.reduceToNat, Int.reduceEq, Int.reduceNe, Int.reduceBEq, Int.reduceBNe, ne_eq, eq_self]
        refine newB_intro fun z hz f5 f6 => ?_
        have hS := hS.new f5 (.cells #[.int .i64 0, .int .i64 0, .int .i64 0] 59 (0, 0))
        have hS := hS.set (.cells #[.int .i64 (pgK sh A (spX sh ws A)), .int .i64 (pgA sh A (spX sh ws A)), .int .i64 (pgB sh A (spX sh ws A))] 59 (0, 0))
        rw [Ev.upd_upd] at hS
        have hz1 := hS.look
        have hy1 := hS.lk 2 rfl
        have hx1 := hS.lk 3 rfl
        have r0 := fun o => rd_of hx1 o
        have r2 := fun o => rd_of hy1 o
        have r3 := fun o => rd_of hz1 o
        have hSt := hS.tail
        cases q1 : (pgK sh A (spX sh ws A) == 1)
        · cases q2 : (pgK sh A (spX sh ws A) == 3)
          · simp only [e13, e1, e2, e4, e7, Ev.upd_upd, hx1, hy1, hz1, r0, r2, r3, q1, q2, ↓D0, ↓D1, ↓D2, ↓D3, ↓D4, ↓D5, ↓D6, ↓D7, ↓D8, ↓D9, ↓D10, U0, U1, U2, U3, U4, U5, U6, U7, U8, U9, U10, ↓reduceIte, Nat.reduceAdd, Nat.reduceMul, Nat.reduceSub, Nat.reduceEqDiff, Nat.reduceBEq, Nat.reduceLeDiff, Nat.reduceLT, Int.reduceAdd, Int.reduceMul, Int.reduceSub, Int.reduceLT, Int.reduceLE, Int.reduceToNat, Int.reduceEq, Int.reduceNe, Int.reduceBEq, Int.reduceBNe, ne_eq, eq_self]
            exact ⟨_, rfl, hSt.p2.p2.tail.tail⟩
          · simp only [e13, e1, e2, e4, e7, Ev.upd_upd, hx1, hy1, hz1, r0, r2, r3, q1, q2, wrap_w64, ↓D0, ↓D1, ↓D2, ↓D3, ↓D4, ↓D5, ↓D6, ↓D7, ↓D8, ↓D9, ↓D10, U0, U1, U2, U3, U4, U5, U6, U7, U8, U9, U10, ↓reduceIte, Nat.reduceAdd, Nat.reduceMul, Nat.reduceSub, Nat.reduceEqDiff, Nat.reduceBEq, Nat.reduceLeDiff, Nat.reduceLT, Int.reduceAdd, Int.reduceMul, Int.reduceSub, Int.reduceLT, Int.reduceLE, Int.reduceToNat, Int.reduceEq, Int.reduceNe, Int.reduceBEq, Int.reduceBNe, ne_eq, eq_self]
            exact ⟨_, rfl, hSt.p2.p2.tail.tail⟩
        · simp only [e13, e1, e2, e4, e7, Ev.upd_upd, hx1, hy1, hz1, r0, r2, r3, q1, ↓D0, ↓D1, ↓D2, ↓D3, ↓D4, ↓D5, ↓D6, ↓D7, ↓D8, ↓D9, ↓D10, U0, U1, U2, U3, U4, U5, U6, U7, U8, U9, U10, ↓reduceIte, Nat.reduceAdd, Nat.reduceMul, Nat.reduceSub, Nat.reduceEqDiff, Nat.reduceBEq, Nat.reduceLeDiff, Nat.reduceLT, Int.reduceAdd, Int.reduceMul, Int.reduceSub, Int.reduceLT, Int.reduceLE, Int.reduceToNat, Int.reduceEq, Int.reduceNe, Int.reduceBEq, Int.reduceBNe, ne_eq, eq_self]
          exact ⟨_, rfl, hSt.p2.p2.tail.tail⟩
    · simp only [hx1, hy1, r1, r0, r2, nyx, nxy, k2, k1, ↓D0, ↓D1, ↓D2, ↓D3, ↓D4, ↓D5, ↓D6, ↓D7, ↓D8, ↓D9, ↓D10, U0, U1, U2, U3, U4, U5, U6, U7, U8, U9, U10, ↓reduceIte, Nat.reduceAdd, Nat.reduceMul, Nat.reduceSub, Nat.reduceEqDiff, Nat.reduceBEq, Nat.reduceLeDiff, Nat.reduceLT, Int.reduceAdd, Int.reduceMul, Int.reduceSub, Int.reduceLT, Int.reduceLE, Int.reduceToNat, Int.reduceEq, Int.reduceNe, Int.reduceBEq, Int.reduceBNe, ne_eq, eq_self]
      exact ⟨_, rfl, hS.tail.tail⟩
  · simp only [hx1, hy1, r1, r0, r2, nyx, nxy, k2, ↓D0, ↓D1, ↓D2, ↓D3, ↓D4, ↓D5, ↓D6, ↓D7, ↓D8, ↓D9, ↓D10, U0, U1, U2, U3, U4, U5, U6, U7, U8, U9, U10, ↓reduceIte, Nat.reduceAdd, Nat.reduceMul, Nat.reduceSub, Nat.reduceEqDiff, Nat.reduceBEq, Nat.reduceLeDiff, Nat.reduceLT, Int.reduceAdd, Int.reduceMul, Int.reduceSub, Int.reduceLT, Int.reduceLE, Int.reduceToNat, Int.reduceEq, Int.reduceNe, Int.reduceBEq, Int.reduceBNe, ne_eq, eq_self]
    refine loop_intro (spI 9 p n cap a x y (sg y (.cells #[.int .i64 K, .int .i64 A, .int .i64 B] 59 (0, 0)) :: sg x (.cells #[.int .i64 sh.p, .int .i64 sh.c, .int .i64 sh.m] 23 (0, 0)) :: h :: l)) (fun F' _ => (16 - iv (gt F' 9)).toNat)
      ⟨0, by omega, rfl, ⟨rfl, rfl, rfl, rfl⟩, hS⟩ ?_
    clear hS hx1 hy1 r1 r0 r2 nyx nxy
    rintro F' H' ⟨i, hi, e9, ⟨e1, e2, e4, e7⟩, hS⟩
    have hx1 := hS.lk 1 rfl
    have hy1 := hS.look
    have r1 := fun o n => rdn_of hx1 o n
    by_cases hlt : i < 16
    · have d1 : decide ((i : Int) < 16) = true := decide_eq_true (by omega)
      have wi : w64 ((i : Int) + 1) = (i : Int) + 1 := w64_eq (by omega) (by omega)
      simp only [e9, e1, e2, e4, e7, hx1, hy1, r1, d1, ↓D0, ↓D1, ↓D2, ↓D3, ↓D4, ↓D5, ↓D6, ↓D7, ↓D8, ↓D9, ↓D10, U0, U1, U2, U3, U4, U5, U6, U7, U8, U9, U10, ↓reduceIte, Nat.reduceAdd, Nat.reduceMul, Nat.reduceSub, Nat.reduceEqDiff, Nat.reduceBEq, Nat.reduceLeDiff, Nat.reduceLT, Int.reduceAdd, Int.reduceMul, Int.reduceSub, Int.reduceLT, Int.reduceLE, Int.reduceToNat, Int.reduceEq, Int.reduceNe, Int.reduceBEq, Int.reduceBNe, ne_eq, eq_self]
      refine callT_of (c_sslot p i hm hn hr hU hp ⟨by omega, by omega⟩ hS.p2) ?_
      rintro v H' ⟨rfl, hS⟩
      obtain ⟨w, hww⟩ : ∃ w, ws (sh.c + sh.p + p * 16 + (i : Int)).toNat = w := ⟨_, rfl⟩
      have hy0 := hS.lk 1 rfl
      have hx0 := hS.lk 2 rfl
      have r1 := fun o n => rdn_of hx0 o n
      have r0 := fun o => rd_of hx0 o
      have r2 := fun o => rd_of hy0 o
      have hsl : slot sh.p sh.c sh.m p (i : Int) = sh.c + sh.p + p * 16 + (i : Int) := slot_yes hm hp.1 hp.2 (by omega) (by omega)
      have p0 : (0 : Int) ≤ sh.c + sh.p + p * 16 + (i : Int) := by omega
      have p1 : sh.c + sh.p + p * 16 + (i : Int) < (n : Int) := by omega
      obtain ⟨xb, xo, rfl, hrd⟩ := (hr.sub (hS.sb h (by simp))).at' (i := (sh.c + sh.p + p * 16 + (i : Int)).toNat) (by omega)
      rw [hww] at hrd
      simp only [e9, e1, e2, e4, e7, hww, ↓D0, ↓D1, ↓D2, ↓D3, ↓D4, ↓D5, ↓D6, ↓D7, ↓D8, ↓D9, ↓D10, U0, U1, U2, U3, U4, U5, U6, U7, U8, U9, U10, ↓reduceIte, Nat.reduceAdd, Nat.reduceMul, Nat.reduceSub, Nat.reduceEqDiff, Nat.reduceBEq, Nat.reduceLeDiff, Nat.reduceLT, Int.reduceAdd, Int.reduceMul, Int.reduceSub, Int.reduceLT, Int.reduceLE, Int.reduceToNat, Int.reduceEq, Int.reduceNe, Int.reduceBEq, Int.reduceBNe, ne_eq, eq_self]
      refine newB_intro fun z hz f5 f6 => ?_
      have nxz : (x = z) = False := f5 x (by rw [hx0]; rfl)
      have nzx : (z = x) = False := f6 x (by rw [hx0]; rfl)
      have nyz : (y = z) = False := f5 y (by rw [hy0]; rfl)
      have nzy : (z = y) = False := f6 y (by rw [hy0]; rfl)
      have nbz : (xb = z) = False := f5 xb (by obtain ⟨c, T, f, hc, -⟩ := cells_of hrd; rw [hc]; rfl)
      have hS := hS.new f5 (.cells #[.int .i64 0, .int .i64 0] 64 (0, 0))
      have hS := hS.set (.cells #[.int .i64 (slK w), .int .i64 (slA w)] 64 (0, 0))
      rw [Ev.upd_upd] at hS
      have hSt := hS.tail
      rcases sp_cases (slK w) (slA w) A sh.c with ⟨c1, c2, c3, c4⟩ | ⟨c1, c2, c3, c4⟩ | ⟨c1, c2, c3, c4⟩ | ⟨c1, c2, c3, c4⟩ | ⟨c1, c2, c3, c4⟩ | ⟨c1, c2, c3, c4⟩ | ⟨c1, c2, c3, c4⟩ <;>
        rcases sq_cases (i : Int) (slots A) w with ⟨d2, d3, d4⟩ | ⟨d2, d3, d4⟩ | ⟨d2, d3, d4⟩ <;>
        simp only [e9, e1, e2, e4, e7, hww, Ev.upd_upd, nxz, nzx, nyz, nzy, nbz, hx0, hy0, r0, r1, r2, u_slot, u_slots, hsl, p0, p1, hrd, c1, c2, c3, c4, d2, d3, d4, wrap_w64, wi, ↓D0, ↓D1, ↓D2, ↓D3, ↓D4, ↓D5, ↓D6, ↓D7, ↓D8, ↓D9, ↓D10, U0, U1, U2, U3, U4, U5, U6, U7, U8, U9, U10, ↓reduceIte, Nat.reduceAdd, Nat.reduceMul, Nat.reduceSub, Nat.reduceEqDiff, Nat.reduceBEq, Nat.reduceLeDiff, Nat.reduceLT, Int.reduceAdd, Int.reduceMul, Int.reduceSub, Int.reduceLT, Int.reduceLE, Int.reduceToNat, Int.reduceEq, Int.reduceNe, Int.reduceBEq, Int.reduceBNe, ne_eq, eq_self] <;>
        first
        | exact ⟨_, rfl, hSt.p2.p2.tail.tail⟩
        | exact ⟨⟨i + 1, by omega, by simp [gt, wi], ⟨by simp [gt, e1], by simp [gt, e2], by simp [gt, e4], by simp [gt, e7]⟩, hSt.p2.p2⟩, by simp [gt, iv, e9, wi]; omega⟩
    · have d1 : decide ((i : Int) < 16) = false := decide_eq_false (by omega)
      simp only [e9, e1, e2, e4, e7, hx1, hy1, r1, d1, ↓D0, ↓D1, ↓D2, ↓D3, ↓D4, ↓D5, ↓D6, ↓D7, ↓D8, ↓D9, ↓D10, U0, U1, U2, U3, U4, U5, U6, U7, U8, U9, U10, ↓reduceIte, Nat.reduceAdd, Nat.reduceMul, Nat.reduceSub, Nat.reduceEqDiff, Nat.reduceBEq, Nat.reduceLeDiff, Nat.reduceLT, Int.reduceAdd, Int.reduceMul, Int.reduceSub, Int.reduceLT, Int.reduceLE, Int.reduceToNat, Int.reduceEq, Int.reduceNe, Int.reduceBEq, Int.reduceBNe, ne_eq, eq_self]
      exact ⟨_, rfl, hS.tail.tail⟩
end
end Go.Proofs.Ytfopnendmcpglaa
