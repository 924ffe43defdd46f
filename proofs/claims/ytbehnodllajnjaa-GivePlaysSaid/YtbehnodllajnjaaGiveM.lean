/-
  Who gives a block back: the document's putter and undoer. Conditions: none.
-/
import Derived.Test.YtbehnodllajnjaaMag
import Derived.Test.YtbehnodllajnjaaMaGive
import Derived.Test.YtbehnodllajnjaaAlt
set_option linter.unusedVariables false
set_option linter.unusedSimpArgs false
set_option maxRecDepth 8000
namespace Go.Proofs.Ytbehnodllajnjaa
open Go Go.Ev Go.Pl Go.Ma

def Pu.ren (t : Pu) : Array Value := #[.int .i64 t.s.p, .int .i64 t.s.c, .int .i64 t.s.m, .int .i64 t.c, .int .i64 t.i, .int .i64 t.ep, .int .i64 t.es, .int .i64 t.ek, .bool t.put, .bool t.dn, .bool t.hit]
def ruB (k : Nat) (t : Pu) : Hp := sg k (.cells (Pu.ren t) 144 (0, 0))
/-- The document's undoer: of a row of pages, of a slot. -/
def unL (s : Sh) (c i pg n : Int) (o : Bool) : Array Value := #[.int .i64 s.p, .int .i64 s.c, .int .i64 s.m, .int .i64 c, .int .i64 i, .bool true, .int .i64 pg, .int .i64 0, .int .i64 0, .int .i64 n, .bool o]
def unS (s : Sh) (c pg sl k : Int) (o : Bool) : Array Value := #[.int .i64 s.p, .int .i64 s.c, .int .i64 s.m, .int .i64 c, .int .i64 0, .bool false, .int .i64 pg, .int .i64 sl, .int .i64 k, .int .i64 0, .bool o]
def unB (k : Nat) (v : Array Value) : Hp := sg k (.cells v 146 (0, 0))

theorem q_fitsL (s : Sh) (c pg n : Int) (hm : may s.p s.c s.m = true) (hc : 0 ≤ c ∧ c < s.c) (hp : 0 ≤ pg ∧ pg < s.p) (hn : 1 ≤ n ∧ n ≤ 8) (hpn : pg + n ≤ s.p) :
    PureC Try.prog 165 #[.agg #[.int .i64 s.p, .int .i64 s.c, .int .i64 s.m], .int .i64 c, .agg #[.bool true, .int .i64 pg, .int .i64 0, .int .i64 0, .int .i64 n]] (.bool true) := by
  refine PureC.of mixed Try.func165 (by kernel_rfl) tr165 (by show 3 ≤ _; decide) fun W H => ?_
  have hb := (may_iff _ _ _).1 hm
  have h1 : decide (0 ≤ status s.p s.c s.m c) = true := by
    have : ¬ status s.p s.c s.m c < 0 := by rw [status_lt0]; exact fun h => h ⟨hm, hc.1, hc.2⟩
    exact decide_eq_true (by omega)
  have h2 : decide (page s.p s.c s.m pg < 0) = false := decide_eq_false (by have := page_yes hm hp.1 hp.2; omega)
  have h3 : decide (1 ≤ n) = true := decide_eq_true hn.1
  have h4 : decide (n ≤ 8) = true := decide_eq_true hn.2
  have w1 : w64 (s.p - pg) = s.p - pg := w64_eq (by omega) (by omega)
  have h5 : decide (n ≤ s.p - pg) = true := decide_eq_true (by omega)
  simp only [↓D0, ↓D1, ↓D2, ↓D3, ↓D4, ↓D5, ↓D6, ↓D7, ↓D8, ↓D9, U0, U1, U2, U3, U4, U5, U6, U7, U8, U9, U10, ↓reduceIte, Nat.reduceAdd, Nat.reduceMul, Nat.reduceSub, Nat.reduceEqDiff, Nat.reduceBEq, Nat.reduceLeDiff, Nat.reduceLT, Int.reduceAdd, Int.reduceMul, Int.reduceSub, Int.reduceLT, Int.reduceLE, Int.reduceToNat, Int.reduceEq, Int.reduceNe, Int.reduceBEq, Int.reduceBNe, ne_eq, eq_self]
  refine newB_intro fun x hx f1 f2 => ?_
  refine newB_intro fun y hy f3 f4 => ?_
  have nxy : (x = y) = False := f3 x (by rw [upd_same]; rfl)
  have nyx : (y = x) = False := f4 x (by rw [upd_same]; rfl)
  simp only [u_good, u_page, h1, h2, h3, h4, h5, wrap_w64, w1, nxy, nyx, ↓D0, ↓D1, ↓D2, ↓D3, ↓D4, ↓D5, ↓D6, ↓D7, ↓D8, ↓D9, U0, U1, U2, U3, U4, U5, U6, U7, U8, U9, U10, ↓reduceIte, Nat.reduceAdd, Nat.reduceMul, Nat.reduceSub, Nat.reduceEqDiff, Nat.reduceBEq, Nat.reduceLeDiff, Nat.reduceLT, Int.reduceAdd, Int.reduceMul, Int.reduceSub, Int.reduceLT, Int.reduceLE, Int.reduceToNat, Int.reduceEq, Int.reduceNe, Int.reduceBEq, Int.reduceBNe, ne_eq, eq_self]
  exact ((Sub.refl H).new f1).trans ((Sub.refl _).new f3)
theorem u_fitsL (s : Sh) (c pg n : Int) (hm : may s.p s.c s.m = true) (hc : 0 ≤ c ∧ c < s.c) (hp : 0 ≤ pg ∧ pg < s.p) (hn : 1 ≤ n ∧ n ≤ 8) (hpn : pg + n ≤ s.p) :
    pv Try.prog 165 #[.agg #[.int .i64 s.p, .int .i64 s.c, .int .i64 s.m], .int .i64 c, .agg #[.bool true, .int .i64 pg, .int .i64 0, .int .i64 0, .int .i64 n]] = some (.bool true) := pv_of (q_fitsL s c pg n hm hc hp hn hpn)
theorem q_fitsS (s : Sh) (c pg sl k : Int) (hm : may s.p s.c s.m = true) (hc : 0 ≤ c ∧ c < s.c) (hp : 0 ≤ pg ∧ pg < s.p) (hs : 0 ≤ sl ∧ sl < slots k) :
    PureC Try.prog 165 #[.agg #[.int .i64 s.p, .int .i64 s.c, .int .i64 s.m], .int .i64 c, .agg #[.bool false, .int .i64 pg, .int .i64 sl, .int .i64 k, .int .i64 0]] (.bool true) := by
  refine PureC.of mixed Try.func165 (by kernel_rfl) tr165 (by show 3 ≤ _; decide) fun W H => ?_
  have hb := (may_iff _ _ _).1 hm
  have h1 : decide (0 ≤ status s.p s.c s.m c) = true := by
    have : ¬ status s.p s.c s.m c < 0 := by rw [status_lt0]; exact fun h => h ⟨hm, hc.1, hc.2⟩
    exact decide_eq_true (by omega)
  have h2 : decide (page s.p s.c s.m pg < 0) = false := decide_eq_false (by have := page_yes hm hp.1 hp.2; omega)
  have h3 : decide (0 ≤ sl) = true := decide_eq_true hs.1
  have h4 : decide (sl < slots k) = true := decide_eq_true hs.2
  simp only [↓D0, ↓D1, ↓D2, ↓D3, ↓D4, ↓D5, ↓D6, ↓D7, ↓D8, ↓D9, U0, U1, U2, U3, U4, U5, U6, U7, U8, U9, U10, ↓reduceIte, Nat.reduceAdd, Nat.reduceMul, Nat.reduceSub, Nat.reduceEqDiff, Nat.reduceBEq, Nat.reduceLeDiff, Nat.reduceLT, Int.reduceAdd, Int.reduceMul, Int.reduceSub, Int.reduceLT, Int.reduceLE, Int.reduceToNat, Int.reduceEq, Int.reduceNe, Int.reduceBEq, Int.reduceBNe, ne_eq, eq_self]
  refine newB_intro fun x hx f1 f2 => ?_
  refine newB_intro fun y hy f3 f4 => ?_
  have nxy : (x = y) = False := f3 x (by rw [upd_same]; rfl)
  have nyx : (y = x) = False := f4 x (by rw [upd_same]; rfl)
  simp only [u_good, u_page, u_slots, h1, h2, h3, h4, nxy, nyx, ↓D0, ↓D1, ↓D2, ↓D3, ↓D4, ↓D5, ↓D6, ↓D7, ↓D8, ↓D9, U0, U1, U2, U3, U4, U5, U6, U7, U8, U9, U10, ↓reduceIte, Nat.reduceAdd, Nat.reduceMul, Nat.reduceSub, Nat.reduceEqDiff, Nat.reduceBEq, Nat.reduceLeDiff, Nat.reduceLT, Int.reduceAdd, Int.reduceMul, Int.reduceSub, Int.reduceLT, Int.reduceLE, Int.reduceToNat, Int.reduceEq, Int.reduceNe, Int.reduceBEq, Int.reduceBNe, ne_eq, eq_self]
  exact ((Sub.refl H).new f1).trans ((Sub.refl _).new f3)
theorem u_fitsS (s : Sh) (c pg sl k : Int) (hm : may s.p s.c s.m = true) (hc : 0 ≤ c ∧ c < s.c) (hp : 0 ≤ pg ∧ pg < s.p) (hs : 0 ≤ sl ∧ sl < slots k) :
    pv Try.prog 165 #[.agg #[.int .i64 s.p, .int .i64 s.c, .int .i64 s.m], .int .i64 c, .agg #[.bool false, .int .i64 pg, .int .i64 sl, .int .i64 k, .int .i64 0]] = some (.bool true) := pv_of (q_fitsS s c pg sl k hm hc hp hs)
section
variable {W : World} {H : Hp} {k b s : Nat} {t : Pu} {w : Wd} {l : List Hp} {a : Option Addr} {cap : Nat} {g : Hp}

theorem m_unnewL {sh : Sh} {c pg n : Int} (hm : may sh.p sh.c sh.m = true) (hc : 0 ≤ c ∧ c < sh.c) (hp : 0 ≤ pg ∧ pg < sh.p) (hn : 1 ≤ n ∧ n ≤ 8) (hpn : pg + n ≤ sh.p) (hS : Sep l H) :
    CallP Try.prog W 151 #[.agg #[.int .i64 sh.p, .int .i64 sh.c, .int .i64 sh.m], .int .i64 c, .agg #[.bool true, .int .i64 pg, .int .i64 0, .int .i64 0, .int .i64 n]] H fun v H' => ∃ k, v = .pointer (some ⟨k, 0, none⟩) ∧ Sep (unB k (unL sh c 0 pg n false) :: l) H' := by
  refine CallP.of mixed Try.func151 tr151 (by show 3 ≤ _; decide) fun W _ => ?_
  simp only [↓D0, ↓D1, ↓D2, ↓D3, ↓D4, ↓D5, ↓D6, ↓D7, ↓D8, ↓D9, U0, U1, U2, U3, U4, U5, U6, U7, U8, U9, U10, ↓reduceIte, Nat.reduceAdd, Nat.reduceMul, Nat.reduceSub, Nat.reduceEqDiff, Nat.reduceBEq, Nat.reduceLeDiff, Nat.reduceLT, Int.reduceAdd, Int.reduceMul, Int.reduceSub, Int.reduceLT, Int.reduceLE, Int.reduceToNat, Int.reduceEq, Int.reduceNe, Int.reduceBEq, Int.reduceBNe, ne_eq, eq_self]
  refine newB_intro fun x hx f1 f2 => ?_
  refine newB_intro fun y hy f3 f4 => ?_
  have hS := (hS.new f1 (.cells #[.int .i64 sh.p, .int .i64 sh.c, .int .i64 sh.m] 25 (0, 0))).new f3 (.cells #[.bool true, .int .i64 pg, .int .i64 0, .int .i64 0, .int .i64 n] 84 (0, 0))
  have hy1 := hS.look
  have hx1 := hS.lk 1 rfl
  have rx := fun o n => rdn_of hx1 o n
  have ry := fun o n => rdn_of hy1 o n
  have nyx := hS.neq 0 1 (by decide) rfl rfl
  have nxy := hS.qen 0 1 (by decide) rfl rfl
  refine draw_intro [(x, #[.int .i64 sh.p, .int .i64 sh.c, .int .i64 sh.m], []), (y, #[.bool true, .int .i64 pg, .int .i64 0, .int .i64 0, .int .i64 n], [])] (by simp only [hx1, hy1, nxy, nyx, ↓D0, ↓D1, ↓D2, ↓D3, ↓D4, ↓D5, ↓D6, ↓D7, ↓D8, ↓D9, U0, U1, U2, U3, U4, U5, U6, U7, U8, U9, U10, ↓reduceIte, Nat.reduceAdd, Nat.reduceMul, Nat.reduceSub, Nat.reduceEqDiff, Nat.reduceBEq, Nat.reduceLeDiff, Nat.reduceLT, Int.reduceAdd, Int.reduceMul, Int.reduceSub, Int.reduceLT, Int.reduceLE, Int.reduceToNat, Int.reduceEq, Int.reduceNe, Int.reduceBEq, Int.reduceBNe, ne_eq, eq_self]) ?_
  simp only [hx1, hy1, rx, ry, nxy, nyx, u_fitsL sh c pg n hm hc hp hn hpn, ↓D0, ↓D1, ↓D2, ↓D3, ↓D4, ↓D5, ↓D6, ↓D7, ↓D8, ↓D9, U0, U1, U2, U3, U4, U5, U6, U7, U8, U9, U10, ↓reduceIte, Nat.reduceAdd, Nat.reduceMul, Nat.reduceSub, Nat.reduceEqDiff, Nat.reduceBEq, Nat.reduceLeDiff, Nat.reduceLT, Int.reduceAdd, Int.reduceMul, Int.reduceSub, Int.reduceLT, Int.reduceLE, Int.reduceToNat, Int.reduceEq, Int.reduceNe, Int.reduceBEq, Int.reduceBNe, ne_eq, eq_self]
  refine newB_intro fun z hz f5 f6 => ?_
  have nxz : (x = z) = False := f5 x (by rw [hx1]; rfl)
  have nyz : (y = z) = False := f5 y (by rw [hy1]; rfl)
  simp only [hx1, hy1, nxy, nyx, nxz, nyz, ↓D0, ↓D1, ↓D2, ↓D3, ↓D4, ↓D5, ↓D6, ↓D7, ↓D8, ↓D9, U0, U1, U2, U3, U4, U5, U6, U7, U8, U9, U10, ↓reduceIte, Nat.reduceAdd, Nat.reduceMul, Nat.reduceSub, Nat.reduceEqDiff, Nat.reduceBEq, Nat.reduceLeDiff, Nat.reduceLT, Int.reduceAdd, Int.reduceMul, Int.reduceSub, Int.reduceLT, Int.reduceLE, Int.reduceToNat, Int.reduceEq, Int.reduceNe, Int.reduceBEq, Int.reduceBNe, ne_eq, eq_self]
  exact ⟨z, rfl, (hS.new f5 (.cells (unL sh c 0 pg n false) 146 (0, 0))).p1.tail.p1.tail⟩
theorem m_unnewS {sh : Sh} {c pg sl kk : Int} (hm : may sh.p sh.c sh.m = true) (hc : 0 ≤ c ∧ c < sh.c) (hp : 0 ≤ pg ∧ pg < sh.p) (hs : 0 ≤ sl ∧ sl < slots kk) (hS : Sep l H) :
    CallP Try.prog W 151 #[.agg #[.int .i64 sh.p, .int .i64 sh.c, .int .i64 sh.m], .int .i64 c, .agg #[.bool false, .int .i64 pg, .int .i64 sl, .int .i64 kk, .int .i64 0]] H fun v H' => ∃ k, v = .pointer (some ⟨k, 0, none⟩) ∧ Sep (unB k (unS sh c pg sl kk false) :: l) H' := by
  refine CallP.of mixed Try.func151 tr151 (by show 3 ≤ _; decide) fun W _ => ?_
  simp only [↓D0, ↓D1, ↓D2, ↓D3, ↓D4, ↓D5, ↓D6, ↓D7, ↓D8, ↓D9, U0, U1, U2, U3, U4, U5, U6, U7, U8, U9, U10, ↓reduceIte, Nat.reduceAdd, Nat.reduceMul, Nat.reduceSub, Nat.reduceEqDiff, Nat.reduceBEq, Nat.reduceLeDiff, Nat.reduceLT, Int.reduceAdd, Int.reduceMul, Int.reduceSub, Int.reduceLT, Int.reduceLE, Int.reduceToNat, Int.reduceEq, Int.reduceNe, Int.reduceBEq, Int.reduceBNe, ne_eq, eq_self]
  refine newB_intro fun x hx f1 f2 => ?_
  refine newB_intro fun y hy f3 f4 => ?_
  have hS := (hS.new f1 (.cells #[.int .i64 sh.p, .int .i64 sh.c, .int .i64 sh.m] 25 (0, 0))).new f3 (.cells #[.bool false, .int .i64 pg, .int .i64 sl, .int .i64 kk, .int .i64 0] 84 (0, 0))
  have hy1 := hS.look
  have hx1 := hS.lk 1 rfl
  have rx := fun o n => rdn_of hx1 o n
  have ry := fun o n => rdn_of hy1 o n
  have nyx := hS.neq 0 1 (by decide) rfl rfl
  have nxy := hS.qen 0 1 (by decide) rfl rfl
  refine draw_intro [(x, #[.int .i64 sh.p, .int .i64 sh.c, .int .i64 sh.m], []), (y, #[.bool false, .int .i64 pg, .int .i64 sl, .int .i64 kk, .int .i64 0], [])] (by simp only [hx1, hy1, nxy, nyx, ↓D0, ↓D1, ↓D2, ↓D3, ↓D4, ↓D5, ↓D6, ↓D7, ↓D8, ↓D9, U0, U1, U2, U3, U4, U5, U6, U7, U8, U9, U10, ↓reduceIte, Nat.reduceAdd, Nat.reduceMul, Nat.reduceSub, Nat.reduceEqDiff, Nat.reduceBEq, Nat.reduceLeDiff, Nat.reduceLT, Int.reduceAdd, Int.reduceMul, Int.reduceSub, Int.reduceLT, Int.reduceLE, Int.reduceToNat, Int.reduceEq, Int.reduceNe, Int.reduceBEq, Int.reduceBNe, ne_eq, eq_self]) ?_
  simp only [hx1, hy1, rx, ry, nxy, nyx, u_fitsS sh c pg sl kk hm hc hp hs, ↓D0, ↓D1, ↓D2, ↓D3, ↓D4, ↓D5, ↓D6, ↓D7, ↓D8, ↓D9, U0, U1, U2, U3, U4, U5, U6, U7, U8, U9, U10, ↓reduceIte, Nat.reduceAdd, Nat.reduceMul, Nat.reduceSub, Nat.reduceEqDiff, Nat.reduceBEq, Nat.reduceLeDiff, Nat.reduceLT, Int.reduceAdd, Int.reduceMul, Int.reduceSub, Int.reduceLT, Int.reduceLE, Int.reduceToNat, Int.reduceEq, Int.reduceNe, Int.reduceBEq, Int.reduceBNe, ne_eq, eq_self]
  refine newB_intro fun z hz f5 f6 => ?_
  have nxz : (x = z) = False := f5 x (by rw [hx1]; rfl)
  have nyz : (y = z) = False := f5 y (by rw [hy1]; rfl)
  simp only [hx1, hy1, nxy, nyx, nxz, nyz, ↓D0, ↓D1, ↓D2, ↓D3, ↓D4, ↓D5, ↓D6, ↓D7, ↓D8, ↓D9, U0, U1, U2, U3, U4, U5, U6, U7, U8, U9, U10, ↓reduceIte, Nat.reduceAdd, Nat.reduceMul, Nat.reduceSub, Nat.reduceEqDiff, Nat.reduceBEq, Nat.reduceLeDiff, Nat.reduceLT, Int.reduceAdd, Int.reduceMul, Int.reduceSub, Int.reduceLT, Int.reduceLE, Int.reduceToNat, Int.reduceEq, Int.reduceNe, Int.reduceBEq, Int.reduceBNe, ne_eq, eq_self]
  exact ⟨z, rfl, (hS.new f5 (.cells (unS sh c pg sl kk false) 146 (0, 0))).p1.tail.p1.tail⟩
theorem m_unstepS {sh : Sh} {c pg sl kk : Int} (hm : may sh.p sh.c sh.m = true) (hp : 0 ≤ pg ∧ pg < sh.p) (hs : 0 ≤ sl ∧ sl < 16) (hw : w.of sh) (hL : LogOk a cap w g) (hl : w.st + 1 ≤ 1000000000) (hS : Sep (unB k (unS sh c pg sl kk false) :: mB b s a cap w :: wR s w :: g :: l) H) :
    CallP Try.prog W 117 #[.pointer (some ⟨k, 0, none⟩), .pointer (some ⟨b, 0, none⟩)] H fun v H' => v = .tuple #[] ∧
      ∃ a2 cap2 g2, LogOk a2 cap2 (w.store c (slot sh.p sh.c sh.m pg sl) (opn kk)) g2 ∧ Sep (unB k (unS sh c pg sl kk true) :: mB b s a2 cap2 (w.store c (slot sh.p sh.c sh.m pg sl) (opn kk)) :: wR s (w.store c (slot sh.p sh.c sh.m pg sl) (opn kk)) :: g2 :: l) H' := by
  refine CallP.of mixed Try.func117 tr117 (by show 2 ≤ _; decide) fun W _ => ?_
  have hk := hS.look
  have r1 := fun o => rd_of hk o
  have r2 := fun o n => rdn_of hk o n
  obtain ⟨q0, q1⟩ := slot_in hw hm hp.1 hp.2 hs.1 hs.2
  simp only [hk, r1, r2, unS, ↓D0, ↓D1, ↓D2, ↓D3, ↓D4, ↓D5, ↓D6, ↓D7, ↓D8, ↓D9, U0, U1, U2, U3, U4, U5, U6, U7, U8, U9, U10, ↓reduceIte, Nat.reduceAdd, Nat.reduceMul, Nat.reduceSub, Nat.reduceEqDiff, Nat.reduceBEq, Nat.reduceLeDiff, Nat.reduceLT, Int.reduceAdd, Int.reduceMul, Int.reduceSub, Int.reduceLT, Int.reduceLE, Int.reduceToNat, Int.reduceEq, Int.reduceNe, Int.reduceBEq, Int.reduceBNe, ne_eq, eq_self]
  refine draw_intro [(k, unS sh c pg sl kk false, [])] (by simp only [hk, unS, ↓D0, ↓D1, ↓D2, ↓D3, ↓D4, ↓D5, ↓D6, ↓D7, ↓D8, ↓D9, U0, U1, U2, U3, U4, U5, U6, U7, U8, U9, U10, ↓reduceIte, Nat.reduceAdd, Nat.reduceMul, Nat.reduceSub, Nat.reduceEqDiff, Nat.reduceBEq, Nat.reduceLeDiff, Nat.reduceLT, Int.reduceAdd, Int.reduceMul, Int.reduceSub, Int.reduceLT, Int.reduceLE, Int.reduceToNat, Int.reduceEq, Int.reduceNe, Int.reduceBEq, Int.reduceBNe, ne_eq, eq_self]) ?_
  simp only [hk, r1, r2, u_slot, u_opn, unS, ↓D0, ↓D1, ↓D2, ↓D3, ↓D4, ↓D5, ↓D6, ↓D7, ↓D8, ↓D9, U0, U1, U2, U3, U4, U5, U6, U7, U8, U9, U10, ↓reduceIte, Nat.reduceAdd, Nat.reduceMul, Nat.reduceSub, Nat.reduceEqDiff, Nat.reduceBEq, Nat.reduceLeDiff, Nat.reduceLT, Int.reduceAdd, Int.reduceMul, Int.reduceSub, Int.reduceLT, Int.reduceLE, Int.reduceToNat, Int.reduceEq, Int.reduceNe, Int.reduceBEq, Int.reduceBNe, ne_eq, eq_self]
  refine callT_of (m_store _ _ _ q0 q1 hL hl hS.r3) ?_
  rintro v H' ⟨rfl, a2, cap2, g2, hL, hS⟩
  have hS := hS.p3
  have hk := hS.look
  simp only [hk, unS, ↓D0, ↓D1, ↓D2, ↓D3, ↓D4, ↓D5, ↓D6, ↓D7, ↓D8, ↓D9, U0, U1, U2, U3, U4, U5, U6, U7, U8, U9, U10, ↓reduceIte, Nat.reduceAdd, Nat.reduceMul, Nat.reduceSub, Nat.reduceEqDiff, Nat.reduceBEq, Nat.reduceLeDiff, Nat.reduceLT, Int.reduceAdd, Int.reduceMul, Int.reduceSub, Int.reduceLT, Int.reduceLE, Int.reduceToNat, Int.reduceEq, Int.reduceNe, Int.reduceBEq, Int.reduceBNe, ne_eq, eq_self]
  exact ⟨a2, cap2, g2, hL, hS.set (.cells (unS sh c pg sl kk true) 146 (0, 0))⟩
theorem m_unstepL {sh : Sh} {c i pg n : Int} (hm : may sh.p sh.c sh.m = true) (hp : 0 ≤ pg ∧ pg < sh.p) (hi : 0 ≤ i ∧ i = n - 1) (hn : n ≤ 8) (hw : w.of sh) (hL : LogOk a cap w g) (hl : w.st + 1 ≤ 1000000000) (hS : Sep (unB k (unL sh c i pg n false) :: mB b s a cap w :: wR s w :: g :: l) H) :
    CallP Try.prog W 117 #[.pointer (some ⟨k, 0, none⟩), .pointer (some ⟨b, 0, none⟩)] H fun v H' => v = .tuple #[] ∧
      ∃ a2 cap2 g2, LogOk a2 cap2 (w.store c (page sh.p sh.c sh.m pg) 0) g2 ∧ Sep (unB k (unL sh c (i + 1) pg n true) :: mB b s a2 cap2 (w.store c (page sh.p sh.c sh.m pg) 0) :: wR s (w.store c (page sh.p sh.c sh.m pg) 0) :: g2 :: l) H' := by
  refine CallP.of mixed Try.func117 tr117 (by show 2 ≤ _; decide) fun W _ => ?_
  have hk := hS.look
  have r1 := fun o => rd_of hk o
  have r2 := fun o n => rdn_of hk o n
  obtain ⟨q0, q1⟩ := page_in hw hm hp.1 hp.2
  have w1 : w64 (i + 1) = i + 1 := w64_eq (by omega) (by omega)
  have g1 : decide (i + 1 < n) = false := decide_eq_false (by omega)
  simp only [hk, r1, r2, wrap_w64, w1, g1, unL, Ev.upd_upd, ↓D0, ↓D1, ↓D2, ↓D3, ↓D4, ↓D5, ↓D6, ↓D7, ↓D8, ↓D9, U0, U1, U2, U3, U4, U5, U6, U7, U8, U9, U10, ↓reduceIte, Nat.reduceAdd, Nat.reduceMul, Nat.reduceSub, Nat.reduceEqDiff, Nat.reduceBEq, Nat.reduceLeDiff, Nat.reduceLT, Int.reduceAdd, Int.reduceMul, Int.reduceSub, Int.reduceLT, Int.reduceLE, Int.reduceToNat, Int.reduceEq, Int.reduceNe, Int.reduceBEq, Int.reduceBNe, ne_eq, eq_self]
  have hS := hS.set (.cells (unL sh c (i + 1) pg n false) 146 (0, 0))
  have hk := hS.look
  have r1 := fun o => rd_of hk o
  have r2 := fun o n => rdn_of hk o n
  refine draw_intro [(k, unL sh c (i + 1) pg n false, [])] (by simp only [hk, unL, ↓D0, ↓D1, ↓D2, ↓D3, ↓D4, ↓D5, ↓D6, ↓D7, ↓D8, ↓D9, U0, U1, U2, U3, U4, U5, U6, U7, U8, U9, U10, ↓reduceIte, Nat.reduceAdd, Nat.reduceMul, Nat.reduceSub, Nat.reduceEqDiff, Nat.reduceBEq, Nat.reduceLeDiff, Nat.reduceLT, Int.reduceAdd, Int.reduceMul, Int.reduceSub, Int.reduceLT, Int.reduceLE, Int.reduceToNat, Int.reduceEq, Int.reduceNe, Int.reduceBEq, Int.reduceBNe, ne_eq, eq_self]) ?_
  simp only [hk, r1, r2, u_page, unL, ↓D0, ↓D1, ↓D2, ↓D3, ↓D4, ↓D5, ↓D6, ↓D7, ↓D8, ↓D9, U0, U1, U2, U3, U4, U5, U6, U7, U8, U9, U10, ↓reduceIte, Nat.reduceAdd, Nat.reduceMul, Nat.reduceSub, Nat.reduceEqDiff, Nat.reduceBEq, Nat.reduceLeDiff, Nat.reduceLT, Int.reduceAdd, Int.reduceMul, Int.reduceSub, Int.reduceLT, Int.reduceLE, Int.reduceToNat, Int.reduceEq, Int.reduceNe, Int.reduceBEq, Int.reduceBNe, ne_eq, eq_self]
  refine callT_of (m_store _ _ _ q0 q1 hL hl hS.r3) ?_
  rintro v H' ⟨rfl, a2, cap2, g2, hL, hS⟩
  have hS := hS.p3
  have hk := hS.look
  simp only [hk, unL, ↓D0, ↓D1, ↓D2, ↓D3, ↓D4, ↓D5, ↓D6, ↓D7, ↓D8, ↓D9, U0, U1, U2, U3, U4, U5, U6, U7, U8, U9, U10, ↓reduceIte, Nat.reduceAdd, Nat.reduceMul, Nat.reduceSub, Nat.reduceEqDiff, Nat.reduceBEq, Nat.reduceLeDiff, Nat.reduceLT, Int.reduceAdd, Int.reduceMul, Int.reduceSub, Int.reduceLT, Int.reduceLE, Int.reduceToNat, Int.reduceEq, Int.reduceNe, Int.reduceBEq, Int.reduceBNe, ne_eq, eq_self]
  exact ⟨a2, cap2, g2, hL, hS.set (.cells (unL sh c (i + 1) pg n true) 146 (0, 0))⟩
theorem m_unstepM {sh : Sh} {c i pg n : Int} (hm : may sh.p sh.c sh.m = true) (hp : 0 ≤ pg) (hpn : pg + n ≤ sh.p) (hi : 0 ≤ i ∧ i < n - 1) (hn : n ≤ 8) (hw : w.of sh) (hL : LogOk a cap w g) (hl : w.st + 1 ≤ 1000000000) (hS : Sep (unB k (unL sh c i pg n false) :: mB b s a cap w :: wR s w :: g :: l) H) :
    CallP Try.prog W 117 #[.pointer (some ⟨k, 0, none⟩), .pointer (some ⟨b, 0, none⟩)] H fun v H' => v = .tuple #[] ∧
      ∃ a2 cap2 g2, LogOk a2 cap2 (w.store c (page sh.p sh.c sh.m (pg + i + 1)) 0) g2 ∧ Sep (unB k (unL sh c (i + 1) pg n false) :: mB b s a2 cap2 (w.store c (page sh.p sh.c sh.m (pg + i + 1)) 0) :: wR s (w.store c (page sh.p sh.c sh.m (pg + i + 1)) 0) :: g2 :: l) H' := by
  refine CallP.of mixed Try.func117 tr117 (by show 2 ≤ _; decide) fun W _ => ?_
  have hk := hS.look
  have r1 := fun o => rd_of hk o
  have r2 := fun o n => rdn_of hk o n
  have ml := (may_iff _ _ _).1 hm
  obtain ⟨q0, q1⟩ := page_in (i := pg + i + 1) hw hm (by omega) (by omega)
  have w1 : w64 (i + 1) = i + 1 := w64_eq (by omega) (by omega)
  have w2 : w64 (pg + (i + 1)) = pg + i + 1 := by rw [w64_eq (by omega) (by omega)]; omega
  have g1 : decide (i + 1 < n) = true := decide_eq_true (by omega)
  simp only [hk, r1, r2, wrap_w64, w1, g1, unL, Ev.upd_upd, ↓D0, ↓D1, ↓D2, ↓D3, ↓D4, ↓D5, ↓D6, ↓D7, ↓D8, ↓D9, U0, U1, U2, U3, U4, U5, U6, U7, U8, U9, U10, ↓reduceIte, Nat.reduceAdd, Nat.reduceMul, Nat.reduceSub, Nat.reduceEqDiff, Nat.reduceBEq, Nat.reduceLeDiff, Nat.reduceLT, Int.reduceAdd, Int.reduceMul, Int.reduceSub, Int.reduceLT, Int.reduceLE, Int.reduceToNat, Int.reduceEq, Int.reduceNe, Int.reduceBEq, Int.reduceBNe, ne_eq, eq_self]
  have hS := hS.set (.cells (unL sh c (i + 1) pg n false) 146 (0, 0))
  have hk := hS.look
  have r1 := fun o => rd_of hk o
  have r2 := fun o n => rdn_of hk o n
  refine draw_intro [(k, unL sh c (i + 1) pg n false, [])] (by simp only [hk, unL, ↓D0, ↓D1, ↓D2, ↓D3, ↓D4, ↓D5, ↓D6, ↓D7, ↓D8, ↓D9, U0, U1, U2, U3, U4, U5, U6, U7, U8, U9, U10, ↓reduceIte, Nat.reduceAdd, Nat.reduceMul, Nat.reduceSub, Nat.reduceEqDiff, Nat.reduceBEq, Nat.reduceLeDiff, Nat.reduceLT, Int.reduceAdd, Int.reduceMul, Int.reduceSub, Int.reduceLT, Int.reduceLE, Int.reduceToNat, Int.reduceEq, Int.reduceNe, Int.reduceBEq, Int.reduceBNe, ne_eq, eq_self]) ?_
  simp only [hk, r1, r2, u_page, wrap_w64, w2, unL, ↓D0, ↓D1, ↓D2, ↓D3, ↓D4, ↓D5, ↓D6, ↓D7, ↓D8, ↓D9, U0, U1, U2, U3, U4, U5, U6, U7, U8, U9, U10, ↓reduceIte, Nat.reduceAdd, Nat.reduceMul, Nat.reduceSub, Nat.reduceEqDiff, Nat.reduceBEq, Nat.reduceLeDiff, Nat.reduceLT, Int.reduceAdd, Int.reduceMul, Int.reduceSub, Int.reduceLT, Int.reduceLE, Int.reduceToNat, Int.reduceEq, Int.reduceNe, Int.reduceBEq, Int.reduceBNe, ne_eq, eq_self]
  refine callT_of (m_store _ _ _ q0 q1 hL hl hS.r3) ?_
  rintro v H' ⟨rfl, a2, cap2, g2, hL, hS⟩
  simp only [↓D0, ↓D1, ↓D2, ↓D3, ↓D4, ↓D5, ↓D6, ↓D7, ↓D8, ↓D9, U0, U1, U2, U3, U4, U5, U6, U7, U8, U9, U10, ↓reduceIte, Nat.reduceAdd, Nat.reduceMul, Nat.reduceSub, Nat.reduceEqDiff, Nat.reduceBEq, Nat.reduceLeDiff, Nat.reduceLT, Int.reduceAdd, Int.reduceMul, Int.reduceSub, Int.reduceLT, Int.reduceLE, Int.reduceToNat, Int.reduceEq, Int.reduceNe, Int.reduceBEq, Int.reduceBNe, ne_eq, eq_self]
  exact ⟨a2, cap2, g2, hL, hS.p3⟩
theorem m_punew {sh : Sh} {c p i kk : Int} (hS : Sep l H) :
    CallP Try.prog W 150 #[.agg #[.int .i64 sh.p, .int .i64 sh.c, .int .i64 sh.m], .int .i64 c, .int .i64 p, .int .i64 i, .int .i64 kk] H fun v H' => ∃ k, v = .pointer (some ⟨k, 0, none⟩) ∧ Sep (ruB k (Pu.new sh c p i kk) :: l) H' := by
  refine CallP.of mixed Try.func150 tr150 (by show 5 ≤ _; decide) fun W _ => ?_
  simp only [↓D0, ↓D1, ↓D2, ↓D3, ↓D4, ↓D5, ↓D6, ↓D7, ↓D8, ↓D9, U0, U1, U2, U3, U4, U5, U6, U7, U8, U9, U10, ↓reduceIte, Nat.reduceAdd, Nat.reduceMul, Nat.reduceSub, Nat.reduceEqDiff, Nat.reduceBEq, Nat.reduceLeDiff, Nat.reduceLT, Int.reduceAdd, Int.reduceMul, Int.reduceSub, Int.reduceLT, Int.reduceLE, Int.reduceToNat, Int.reduceEq, Int.reduceNe, Int.reduceBEq, Int.reduceBNe, ne_eq, eq_self]
  refine newB_intro fun x hx f1 f2 => ?_
  have hS := hS.new f1 (.cells #[.int .i64 sh.p, .int .i64 sh.c, .int .i64 sh.m] 25 (0, 0))
  have hx1 := hS.look
  have r1 := fun o => rd_of hx1 o
  have r2 := fun o n => rdn_of hx1 o n
  have sb := slots_bd kk
  have pdn : (Pu.new sh c p i kk).dn = !(decide (0 ≤ status sh.p sh.c sh.m c) && (decide (0 ≤ page sh.p sh.c sh.m p) && (decide (0 ≤ i) && (decide (i < slots kk) && decide (0 < sh.m))))) := by
    show (!(good sh c kk && decide (0 ≤ page sh.p sh.c sh.m p) && decide (0 ≤ i) && decide (i < slots kk)) || decide (sh.m = 0)) = _
    unfold good
    cases h1 : decide (0 ≤ status sh.p sh.c sh.m c)
    · rfl
    · have hst : ¬ status sh.p sh.c sh.m c < 0 := by have := of_decide_eq_true h1; omega
      rw [status_lt0] at hst
      have hmay := (may_iff _ _ _).1 (Classical.not_not.1 hst).1
      by_cases q1 : 0 ≤ page sh.p sh.c sh.m p <;> by_cases q2 : 0 ≤ i <;> by_cases q3 : i < slots kk <;> by_cases q4 : sh.m = 0 <;> simp [q1, q2, q3, q4] <;> omega
  have hP : Pu.new sh c p i kk = ⟨sh, c, 0, p, i, kk, false, false, !(decide (0 ≤ status sh.p sh.c sh.m c) && (decide (0 ≤ page sh.p sh.c sh.m p) && (decide (0 ≤ i) && (decide (i < slots kk) && decide (0 < sh.m)))))⟩ := by
    rw [← pdn]; rfl
  rw [hP]
  cases h1 : decide (0 ≤ status sh.p sh.c sh.m c) <;> cases h2 : decide (0 ≤ page sh.p sh.c sh.m p) <;> cases h3 : decide (0 ≤ i) <;> cases h4 : decide (i < slots kk) <;> cases h5 : decide (0 < sh.m)
  all_goals
    simp only [hx1, r1, r2, u_good, u_page, u_slots, h1, h2, h3, h4, h5, ↓D0, ↓D1, ↓D2, ↓D3, ↓D4, ↓D5, ↓D6, ↓D7, ↓D8, ↓D9, U0, U1, U2, U3, U4, U5, U6, U7, U8, U9, U10, ↓reduceIte, Nat.reduceAdd, Nat.reduceMul, Nat.reduceSub, Nat.reduceEqDiff, Nat.reduceBEq, Nat.reduceLeDiff, Nat.reduceLT, Int.reduceAdd, Int.reduceMul, Int.reduceSub, Int.reduceLT, Int.reduceLE, Int.reduceToNat, Int.reduceEq, Int.reduceNe, Int.reduceBEq, Int.reduceBNe, ne_eq, eq_self]
    refine newB_intro fun y hy f3 f4 => ?_
    have nxy : (x = y) = False := f3 x (by rw [hx1]; rfl)
    have nyx : (y = x) = False := f4 x (by rw [hx1]; rfl)
    simp only [hx1, r1, r2, nxy, nyx, ↓D0, ↓D1, ↓D2, ↓D3, ↓D4, ↓D5, ↓D6, ↓D7, ↓D8, ↓D9, U0, U1, U2, U3, U4, U5, U6, U7, U8, U9, U10, ↓reduceIte, Nat.reduceAdd, Nat.reduceMul, Nat.reduceSub, Nat.reduceEqDiff, Nat.reduceBEq, Nat.reduceLeDiff, Nat.reduceLT, Int.reduceAdd, Int.reduceMul, Int.reduceSub, Int.reduceLT, Int.reduceLE, Int.reduceToNat, Int.reduceEq, Int.reduceNe, Int.reduceBEq, Int.reduceBNe, ne_eq, eq_self]
    refine ⟨y, rfl, ?_⟩
    exact (hS.new f3 _).p1.tail
theorem m_pustep (ht : t.wf) (hw : t.dn = false → w.of t.s) (hL : LogOk a cap w g) (hl : w.st + 1 ≤ 1000000000) (hS : Sep (ruB k t :: mB b s a cap w :: wR s w :: g :: l) H) :
    CallP Try.prog W 116 #[.pointer (some ⟨k, 0, none⟩), .pointer (some ⟨b, 0, none⟩)] H fun v H' => v = .tuple #[] ∧
      ∃ a2 cap2 g2, LogOk a2 cap2 (t.step w).2 g2 ∧ Sep (ruB k (t.step w).1 :: mB b s a2 cap2 (t.step w).2 :: wR s (t.step w).2 :: g2 :: l) H' := by
  refine CallP.of mixed Try.func116 tr116 (by show 2 ≤ _; decide) fun W _ => ?_
  have hk := hS.look
  have r1 := fun o => rd_of hk o
  have r2 := fun o n => rdn_of hk o n
  rcases Pu.step_cases t w with ⟨hd, e⟩ | ⟨hd, ⟨hb, e⟩ | ⟨hb, hh, e⟩ | ⟨hb, hh, e⟩⟩ <;> rw [e]
  · simp only [hk, r1, Pu.ren, hd, ↓D0, ↓D1, ↓D2, ↓D3, ↓D4, ↓D5, ↓D6, ↓D7, ↓D8, ↓D9, U0, U1, U2, U3, U4, U5, U6, U7, U8, U9, U10, ↓reduceIte, Nat.reduceAdd, Nat.reduceMul, Nat.reduceSub, Nat.reduceEqDiff, Nat.reduceBEq, Nat.reduceLeDiff, Nat.reduceLT, Int.reduceAdd, Int.reduceMul, Int.reduceSub, Int.reduceLT, Int.reduceLE, Int.reduceToNat, Int.reduceEq, Int.reduceNe, Int.reduceBEq, Int.reduceBNe, ne_eq, eq_self]
    exact ⟨a, cap, g, hL, hS⟩
  all_goals
    obtain ⟨hm, c0, c1, i0, i1⟩ := ht.of hd
    have hw := hw hd
    obtain ⟨q0, q1⟩ := mag_in hw hm c0 c1 i0 i1
    have ml := (may_iff _ _ _).1 hm
    simp only [hk, r1, r2, u_mag, Pu.ren, hd, hb, ↓D0, ↓D1, ↓D2, ↓D3, ↓D4, ↓D5, ↓D6, ↓D7, ↓D8, ↓D9, U0, U1, U2, U3, U4, U5, U6, U7, U8, U9, U10, ↓reduceIte, Nat.reduceAdd, Nat.reduceMul, Nat.reduceSub, Nat.reduceEqDiff, Nat.reduceBEq, Nat.reduceLeDiff, Nat.reduceLT, Int.reduceAdd, Int.reduceMul, Int.reduceSub, Int.reduceLT, Int.reduceLE, Int.reduceToNat, Int.reduceEq, Int.reduceNe, Int.reduceBEq, Int.reduceBNe, ne_eq, eq_self]
    refine draw_intro [(k, Pu.ren t, [])] (by simp only [hk, ↓D0, ↓D1, ↓D2, ↓D3, ↓D4, ↓D5, ↓D6, ↓D7, ↓D8, ↓D9, U0, U1, U2, U3, U4, U5, U6, U7, U8, U9, U10, ↓reduceIte, Nat.reduceAdd, Nat.reduceMul, Nat.reduceSub, Nat.reduceEqDiff, Nat.reduceBEq, Nat.reduceLeDiff, Nat.reduceLT, Int.reduceAdd, Int.reduceMul, Int.reduceSub, Int.reduceLT, Int.reduceLE, Int.reduceToNat, Int.reduceEq, Int.reduceNe, Int.reduceBEq, Int.reduceBNe, ne_eq, eq_self]) ?_
    simp only [hk, r1, r2, u_mag, u_puten, Pu.ren, hd, hb, ↓D0, ↓D1, ↓D2, ↓D3, ↓D4, ↓D5, ↓D6, ↓D7, ↓D8, ↓D9, U0, U1, U2, U3, U4, U5, U6, U7, U8, U9, U10, ↓reduceIte, Nat.reduceAdd, Nat.reduceMul, Nat.reduceSub, Nat.reduceEqDiff, Nat.reduceBEq, Nat.reduceLeDiff, Nat.reduceLT, Int.reduceAdd, Int.reduceMul, Int.reduceSub, Int.reduceLT, Int.reduceLE, Int.reduceToNat, Int.reduceEq, Int.reduceNe, Int.reduceBEq, Int.reduceBNe, ne_eq, eq_self]
  · refine callT_of (m_store _ _ _ q0 q1 hL hl hS.r3) ?_
    rintro v H' ⟨rfl, a2, cap2, g2, hL, hS⟩
    have hS := hS.p3
    have hk := hS.look
    have r1 := fun o => rd_of hk o
    simp only [hk, r1, Pu.ren, hd, hb, Ev.upd_upd, ↓D0, ↓D1, ↓D2, ↓D3, ↓D4, ↓D5, ↓D6, ↓D7, ↓D8, ↓D9, U0, U1, U2, U3, U4, U5, U6, U7, U8, U9, U10, ↓reduceIte, Nat.reduceAdd, Nat.reduceMul, Nat.reduceSub, Nat.reduceEqDiff, Nat.reduceBEq, Nat.reduceLeDiff, Nat.reduceLT, Int.reduceAdd, Int.reduceMul, Int.reduceSub, Int.reduceLT, Int.reduceLE, Int.reduceToNat, Int.reduceEq, Int.reduceNe, Int.reduceBEq, Int.reduceBNe, ne_eq, eq_self]
    refine ⟨a2, cap2, g2, hL, ?_⟩
    have := hS.set (.cells (Pu.ren { t with put := true, dn := true }) 144 (0, 0))
    unfold Pu.ren at this
    simp only [hb] at this
    unfold ruB Pu.ren
    simp only [hb]
    exact this
  · refine callT_of (m_load _ _ q0 q1 hL hl hS.r3) ?_
    rintro v H' ⟨rfl, a2, cap2, g2, hL, hS⟩
    have hS := hS.p3
    have hk := hS.look
    have r1 := fun o => rd_of hk o
    have gz : (w.get (mag t.s.p t.s.c t.s.m t.c t.i) == 0) = true := beq_iff_eq.2 hh
    simp only [hk, r1, gz, Pu.ren, hd, hb, Ev.upd_upd, ↓D0, ↓D1, ↓D2, ↓D3, ↓D4, ↓D5, ↓D6, ↓D7, ↓D8, ↓D9, U0, U1, U2, U3, U4, U5, U6, U7, U8, U9, U10, ↓reduceIte, Nat.reduceAdd, Nat.reduceMul, Nat.reduceSub, Nat.reduceEqDiff, Nat.reduceBEq, Nat.reduceLeDiff, Nat.reduceLT, Int.reduceAdd, Int.reduceMul, Int.reduceSub, Int.reduceLT, Int.reduceLE, Int.reduceToNat, Int.reduceEq, Int.reduceNe, Int.reduceBEq, Int.reduceBNe, ne_eq, eq_self]
    refine ⟨a2, cap2, g2, hL, ?_⟩
    have := hS.set (.cells (Pu.ren { t with hit := true }) 144 (0, 0))
    unfold Pu.ren at this
    simp only [hd] at this
    unfold ruB Pu.ren
    simp only [hd]
    exact this
  · refine callT_of (m_load _ _ q0 q1 hL hl hS.r3) ?_
    rintro v H' ⟨rfl, a2, cap2, g2, hL, hS⟩
    have hS := hS.p3
    have hk := hS.look
    have r1 := fun o => rd_of hk o
    have gz : (w.get (mag t.s.p t.s.c t.s.m t.c t.i) == 0) = false := beq_eq_false_iff_ne.2 hh
    have w1 : w64 (t.i + 1) = t.i + 1 := w64_eq (by omega) (by omega)
    simp only [hk, r1, gz, wrap_w64, w1, Pu.ren, hd, hb, Ev.upd_upd, ↓D0, ↓D1, ↓D2, ↓D3, ↓D4, ↓D5, ↓D6, ↓D7, ↓D8, ↓D9, U0, U1, U2, U3, U4, U5, U6, U7, U8, U9, U10, ↓reduceIte, Nat.reduceAdd, Nat.reduceMul, Nat.reduceSub, Nat.reduceEqDiff, Nat.reduceBEq, Nat.reduceLeDiff, Nat.reduceLT, Int.reduceAdd, Int.reduceMul, Int.reduceSub, Int.reduceLT, Int.reduceLE, Int.reduceToNat, Int.reduceEq, Int.reduceNe, Int.reduceBEq, Int.reduceBNe, ne_eq, eq_self]
    have hS1 := hS.set (.cells (Pu.ren { t with i := t.i + 1, dn := false, hit := false }) 144 (0, 0))
    have hk1 := hS1.look
    have r3 := fun o => rd_of hk1 o
    refine draw_intro [(k, Pu.ren { t with i := t.i + 1, dn := false, hit := false }, [])] (by simp only [hk1, Pu.ren, ↓D0, ↓D1, ↓D2, ↓D3, ↓D4, ↓D5, ↓D6, ↓D7, ↓D8, ↓D9, U0, U1, U2, U3, U4, U5, U6, U7, U8, U9, U10, ↓reduceIte, Nat.reduceAdd, Nat.reduceMul, Nat.reduceSub, Nat.reduceEqDiff, Nat.reduceBEq, Nat.reduceLeDiff, Nat.reduceLT, Int.reduceAdd, Int.reduceMul, Int.reduceSub, Int.reduceLT, Int.reduceLE, Int.reduceToNat, Int.reduceEq, Int.reduceNe, Int.reduceBEq, Int.reduceBNe, ne_eq, eq_self]) ?_
    simp only [hk1, r3, Pu.ren, Ev.upd_upd, ↓D0, ↓D1, ↓D2, ↓D3, ↓D4, ↓D5, ↓D6, ↓D7, ↓D8, ↓D9, U0, U1, U2, U3, U4, U5, U6, U7, U8, U9, U10, ↓reduceIte, Nat.reduceAdd, Nat.reduceMul, Nat.reduceSub, Nat.reduceEqDiff, Nat.reduceBEq, Nat.reduceLeDiff, Nat.reduceLT, Int.reduceAdd, Int.reduceMul, Int.reduceSub, Int.reduceLT, Int.reduceLE, Int.reduceToNat, Int.reduceEq, Int.reduceNe, Int.reduceBEq, Int.reduceBNe, ne_eq, eq_self]
    refine ⟨a2, cap2, g2, hL, ?_⟩
    have hdd : decide (t.i + 1 = t.s.m) = (t.i + 1 == t.s.m) := by by_cases h : t.i + 1 = t.s.m <;> simp [h]
    have := hS.set (.cells (Pu.ren { t with i := t.i + 1, dn := decide (t.i + 1 = t.s.m) }) 144 (0, 0))
    unfold Pu.ren at this
    simp only [hb, hdd] at this
    unfold ruB Pu.ren
    simp only [hb, hdd]
    exact this
end
end Go.Proofs.Ytbehnodllajnjaa
