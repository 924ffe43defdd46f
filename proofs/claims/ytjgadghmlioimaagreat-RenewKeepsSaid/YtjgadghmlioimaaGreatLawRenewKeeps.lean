/-
  RenewKeeps, walked: over any words, where nothing is given no block is otherwise. Conditions: none.
-/
import Derived.Test.YtjgadghmlioimaaGreatCodeAllotmentlaw17
import Derived.Test.YtjgadghmlioimaaGreatRenew
import Derived.Test.YtjgadghmlioimaaGreatMaRenew
import Derived.Test.YtjgadghmlioimaaGreatRefPack
import Derived.Test.YtjgadghmlioimaaGreatRowV
import Derived.Test.YtjgadghmlioimaaGreatAlt
set_option linter.unusedVariables false
set_option linter.unusedSimpArgs false
set_option maxRecDepth 8000
namespace Go.Ma
namespace Re
theorem new_off (s : Sh) (c a n f : Int) (h : (new s c a n f).on = false) : (new s c a n f).gv.gv = false := by
  revert h; unfold new; split
  · exact fun h => by rw [go_k.2.2.1] at h; cases h
  · exact fun _ => rfl
theorem step_off {t : Re} {w : Wd} (ht : t.wf) (h : t.on = false → t.gv.gv = false) (g : (t.step w).1.on = false) : (t.step w).1.gv.gv = false := by
  rw [step_k.2.2] at g
  rw [step_dn (ht.of g).1]; exact h g
end Re
end Go.Ma
namespace Go.Proofs.YtjgadghmlioimaaGreat
open Go Go.Ev Go.Pl Go.Ma

theorem q_rsl {w : Int} (hw : U w) : PureC Tryz.prog 12 #[.int .u64 w] (.agg #[.int .i64 (slK w), .int .i64 (slA w)]) := by
  refine PureC.of mixed Tryz.func12 (by kernel_rfl) tr12 (by show 1 ≤ _; decide) fun W H => ?_
  have a0 : bits .and .u64 w 15 = w % 16 := and15 hw
  have a1 : bits .and .u64 (w / 16) 255 = pt w 16 := and255 (U_div hw 16 (by decide))
  have b0 : w64 (w % 16) = w % 16 := w64_nib
  have b1 : w64 (pt w 16) = pt w 16 := w64_byte
  simp only [↓D0, ↓D1, ↓D2, ↓D3, ↓D4, ↓D5, ↓D6, ↓D7, ↓D8, ↓D9, ↓D10, U0, U1, U2, U3, U4, U5, U6, U7, U8, U9, U10, ↓reduceIte, Nat.reduceAdd, Nat.reduceMul, Nat.reduceSub, Nat.reduceEqDiff, Nat.reduceBEq, Nat.reduceLeDiff, Nat.reduceLT, Int.reduceAdd, Int.reduceMul, Int.reduceSub, Int.reduceLT, Int.reduceLE, Int.reduceToNat, Int.reduceEq, Int.reduceNe, Int.reduceBEq, Int.reduceBNe, ne_eq, eq_self]
  refine newB_intro fun x hx f1 f2 => ?_
  simp only [shr4, a0, a1, wrap_w64, b0, b1, ↓D0, ↓D1, ↓D2, ↓D3, ↓D4, ↓D5, ↓D6, ↓D7, ↓D8, ↓D9, ↓D10, U0, U1, U2, U3, U4, U5, U6, U7, U8, U9, U10, ↓reduceIte, Nat.reduceAdd, Nat.reduceMul, Nat.reduceSub, Nat.reduceEqDiff, Nat.reduceBEq, Nat.reduceLeDiff, Nat.reduceLT, Int.reduceAdd, Int.reduceMul, Int.reduceSub, Int.reduceLT, Int.reduceLE, Int.reduceToNat, Int.reduceEq, Int.reduceNe, Int.reduceBEq, Int.reduceBNe, ne_eq, eq_self]
  refine newB_intro fun y hy f3 f4 => ?_
  have nxy : (x = y) = False := f3 x (by rw [upd_same]; rfl)
  have nyx : (y = x) = False := f4 x (by rw [upd_same]; rfl)
  by_cases e1 : putSl (w % 16) (pt w 16) = w
  · have g1 : (putSl (w % 16) (pt w 16) != w) = false := by simp [e1]
    have hok : okSl w = true := decide_eq_true e1
    simp only [u_putsl, g1, nxy, nyx, ↓D0, ↓D1, ↓D2, ↓D3, ↓D4, ↓D5, ↓D6, ↓D7, ↓D8, ↓D9, ↓D10, U0, U1, U2, U3, U4, U5, U6, U7, U8, U9, U10, ↓reduceIte, Nat.reduceAdd, Nat.reduceMul, Nat.reduceSub, Nat.reduceEqDiff, Nat.reduceBEq, Nat.reduceLeDiff, Nat.reduceLT, Int.reduceAdd, Int.reduceMul, Int.reduceSub, Int.reduceLT, Int.reduceLE, Int.reduceToNat, Int.reduceEq, Int.reduceNe, Int.reduceBEq, Int.reduceBNe, ne_eq, eq_self]
    simp only [slK, slA, hok, if_true]
    exact ⟨trivial, ((((Sep.one H).new f1 _).new f3 _).p1.set _).tail.tail.head⟩
  · have g1 : (putSl (w % 16) (pt w 16) != w) = true := by simp [e1]
    have hok : okSl w = false := decide_eq_false e1
    simp only [u_putsl, g1, nxy, nyx, ↓D0, ↓D1, ↓D2, ↓D3, ↓D4, ↓D5, ↓D6, ↓D7, ↓D8, ↓D9, ↓D10, U0, U1, U2, U3, U4, U5, U6, U7, U8, U9, U10, ↓reduceIte, Nat.reduceAdd, Nat.reduceMul, Nat.reduceSub, Nat.reduceEqDiff, Nat.reduceBEq, Nat.reduceLeDiff, Nat.reduceLT, Int.reduceAdd, Int.reduceMul, Int.reduceSub, Int.reduceLT, Int.reduceLE, Int.reduceToNat, Int.reduceEq, Int.reduceNe, Int.reduceBEq, Int.reduceBNe, ne_eq, eq_self]
    simp only [slK, slA, hok, Bool.false_eq_true, if_false]
    exact ⟨trivial, ((((Sep.one H).new f1 _).new f3 _).p1.set _).tail.tail.head⟩
theorem u_rsl {w : Int} (hw : U w) : pv Tryz.prog 12 #[.int .u64 w] = some (.agg #[.int .i64 (slK w), .int .i64 (slA w)]) := pv_of (q_rsl hw)

theorem cells_in {H : Hp} {b o : Nat} {v : Value} (h : rd H b o = some v) : ∃ c T f, H b = some (.cells c T f) ∧ c[o]? = some v := by
  unfold rd at h
  split at h
  · rename_i c T f e; exact ⟨c, T, f, e, h⟩
  · cases h
section
variable {W : World} {H h : Hp} {l : List Hp} {n cap : Nat} {a : Option Addr} {ws : Nat → Int}
def rkBd (sh : Sh) : Int := 2 * sh.m + 80 * sh.p + 120
/-- What stays in registers. -/
def rkG (x k b n cap : Nat) (a : Option Addr) (F' : Fr) : Prop :=
  gt F' 1 = .slice a n cap ∧ gt F' 3 = .pointer (some ⟨x, 0, none⟩) ∧ gt F' 7 = .pointer (some ⟨b, 0, none⟩) ∧ gt F' 8 = .pointer (some ⟨k, 0, none⟩)
def rkI (sh : Sh) (ws0 : Nat → Int) (kr k2 kg x k b s n cap : Nat) (a : Option Addr) (L : List Hp) (F' : Fr) (H' : Hp) : Prop :=
  ∃ (i : Int) (t : Re) (w : Wd) (kn kp km : Nat), 0 ≤ i ∧ i ≤ rkBd sh ∧ gt F' 9 = .int .i64 i ∧ rkG x k b n cap a F' ∧
    (t.wf ∧ t.s = sh ∧ w.of sh ∧ t.left ≤ max 0 (rkBd sh - i) ∧ Re.Kp sh ws0 t w.ws ∧ (t.on = false → t.gv.gv = false)) ∧
    Sep (reL k kr k2 kn kg kp km t ++ wB b s w :: wR s w :: L) H'
def rk2 (sh : Sh) (w : Wd) (x k b s n cap : Nat) (a : Option Addr) (L : List Hp) (F' : Fr) (H' : Hp) : Prop :=
  ∃ i : Int, 0 ≤ i ∧ i ≤ sh.p * 16 ∧ gt F' 10 = .int .i64 i ∧ rkG x k b n cap a F' ∧ Sep (wB b s w :: wR s w :: L) H'
def rk3 (sh : Sh) (w : Wd) (x k b s n cap : Nat) (a : Option Addr) (L : List Hp) (F' : Fr) (H' : Hp) : Prop :=
  ∃ i : Int, 0 ≤ i ∧ i ≤ sh.p ∧ gt F' 13 = .int .i64 i ∧ rkG x k b n cap a F' ∧ Sep (wB b s w :: wR s w :: L) H'
def rkC (sh : Sh) (w : Wd) (x k b s n cap : Nat) (a : Option Addr) (L : List Hp) (i v : Int) (F' : Fr) (H' : Hp) : Prop :=
  gt F' 13 = .int .i64 i ∧ rkG x k b n cap a F' ∧ gt F' 15 = .bool (okPg sh i v) ∧ ∃ y, gt F' 14 = .pointer (some ⟨y, 0, none⟩) ∧ Sep (sg y (.cells #[.int .i64 (pgK sh i v), .int .i64 (pgA sh i v), .int .i64 (pgB sh i v)] 40 (0, 0)) :: wB b s w :: wR s w :: L) H'
set_option maxHeartbeats 2000000 in
theorem c_renewkeeps (sh : Sh) (n0 n1 n2 n3 : Int) (hr : RowU h a n ws) (hU : ∀ i, i < n → U (ws i)) (hS : Sep (h :: l) H) :
    CallP Tryz.prog W 3 #[.agg #[.int .i64 sh.p, .int .i64 sh.c, .int .i64 sh.m], .slice a n cap, .agg #[.int .i64 n0, .int .i64 n1, .int .i64 n2, .int .i64 n3]] H fun v H' => v = .bool true ∧ Sep (h :: l) H' := by
  refine CallP.of mixed Tryz.func3 tr3 (by show 3 ≤ _; decide) fun W _ => ?_
  have hS0 := hS
  simp only [↓D0, ↓D1, ↓D2, ↓D3, ↓D4, ↓D5, ↓D6, ↓D7, ↓D8, ↓D9, ↓D10, U0, U1, U2, U3, U4, U5, U6, U7, U8, U9, U10, ↓reduceIte, Nat.reduceAdd, Nat.reduceMul, Nat.reduceSub, Nat.reduceEqDiff, Nat.reduceBEq, Nat.reduceLeDiff, Nat.reduceLT, Int.reduceAdd, Int.reduceMul, Int.reduceSub, Int.reduceLT, Int.reduceLE, Int.reduceToNat, Int.reduceEq, Int.reduceNe, Int.reduceBEq, Int.reduceBNe, ne_eq, eq_self]
  refine newB_intro fun x hx f1 f2 => ?_
  simp only [↓D0, ↓D1, ↓D2, ↓D3, ↓D4, ↓D5, ↓D6, ↓D7, ↓D8, ↓D9, ↓D10, U0, U1, U2, U3, U4, U5, U6, U7, U8, U9, U10, ↓reduceIte, Nat.reduceAdd, Nat.reduceMul, Nat.reduceSub, Nat.reduceEqDiff, Nat.reduceBEq, Nat.reduceLeDiff, Nat.reduceLT, Int.reduceAdd, Int.reduceMul, Int.reduceSub, Int.reduceLT, Int.reduceLE, Int.reduceToNat, Int.reduceEq, Int.reduceNe, Int.reduceBEq, Int.reduceBNe, ne_eq, eq_self]
  refine newB_intro fun z hz f3 f4 => ?_
  simp only [↓D0, ↓D1, ↓D2, ↓D3, ↓D4, ↓D5, ↓D6, ↓D7, ↓D8, ↓D9, ↓D10, U0, U1, U2, U3, U4, U5, U6, U7, U8, U9, U10, ↓reduceIte, Nat.reduceAdd, Nat.reduceMul, Nat.reduceSub, Nat.reduceEqDiff, Nat.reduceBEq, Nat.reduceLeDiff, Nat.reduceLT, Int.reduceAdd, Int.reduceMul, Int.reduceSub, Int.reduceLT, Int.reduceLE, Int.reduceToNat, Int.reduceEq, Int.reduceNe, Int.reduceBEq, Int.reduceBNe, ne_eq, eq_self]
  have hS := (hS.new f1 (.cells #[.int .i64 sh.p, .int .i64 sh.c, .int .i64 sh.m] 23 (0, 0))).new f3 (.cells #[.int .i64 n0, .int .i64 n1, .int .i64 n2, .int .i64 n3] 25 (0, 0))
  have nzx := hS.neq 0 1 (by decide) rfl rfl
  have nxz := hS.qen 0 1 (by decide) rfl rfl
  refine callT_of (c_awake17 hS) ?_
  rintro v H' ⟨rfl, hS⟩
  have hx1 := hS.lk 1 rfl
  have r1 := fun o n => rdn_of hx1 o n
  simp only [hx1, r1, ↓D0, ↓D1, ↓D2, ↓D3, ↓D4, ↓D5, ↓D6, ↓D7, ↓D8, ↓D9, ↓D10, U0, U1, U2, U3, U4, U5, U6, U7, U8, U9, U10, ↓reduceIte, Nat.reduceAdd, Nat.reduceMul, Nat.reduceSub, Nat.reduceEqDiff, Nat.reduceBEq, Nat.reduceLeDiff, Nat.reduceLT, Int.reduceAdd, Int.reduceMul, Int.reduceSub, Int.reduceLT, Int.reduceLE, Int.reduceToNat, Int.reduceEq, Int.reduceNe, Int.reduceBEq, Int.reduceBNe, ne_eq, eq_self]
  refine callT_of (c_fair (sh := sh) hS) ?_
  rintro v H' ⟨rfl, hS⟩
  cases hf : (may sh.p sh.c sh.m && ((n : Int) == words sh.p sh.c sh.m))
  · simp only [hf, ↓D0, ↓D1, ↓D2, ↓D3, ↓D4, ↓D5, ↓D6, ↓D7, ↓D8, ↓D9, ↓D10, U0, U1, U2, U3, U4, U5, U6, U7, U8, U9, U10, ↓reduceIte, Nat.reduceAdd, Nat.reduceMul, Nat.reduceSub, Nat.reduceEqDiff, Nat.reduceBEq, Nat.reduceLeDiff, Nat.reduceLT, Int.reduceAdd, Int.reduceMul, Int.reduceSub, Int.reduceLT, Int.reduceLE, Int.reduceToNat, Int.reduceEq, Int.reduceNe, Int.reduceBEq, Int.reduceBNe, ne_eq, eq_self]
    exact hS.tail.tail
  have hf2 := hf
  simp only [Bool.and_eq_true, beq_iff_eq] at hf2
  obtain ⟨hm, hn⟩ := hf2
  have hwl := words_le hm
  have hn2 : n ≤ 2000 := by omega
  have hb := (may_iff _ _ _).1 hm
  simp only [hf, ↓D0, ↓D1, ↓D2, ↓D3, ↓D4, ↓D5, ↓D6, ↓D7, ↓D8, ↓D9, ↓D10, U0, U1, U2, U3, U4, U5, U6, U7, U8, U9, U10, ↓reduceIte, Nat.reduceAdd, Nat.reduceMul, Nat.reduceSub, Nat.reduceEqDiff, Nat.reduceBEq, Nat.reduceLeDiff, Nat.reduceLT, Int.reduceAdd, Int.reduceMul, Int.reduceSub, Int.reduceLT, Int.reduceLE, Int.reduceToNat, Int.reduceEq, Int.reduceNe, Int.reduceBEq, Int.reduceBNe, ne_eq, eq_self]
  refine callT_of (c_fill hn2 hr hS.p2) ?_
  rintro v H' ⟨b, s, rfl, hS⟩
  have hof : (rowW n ws).of sh := rowW_of hn hU
  have hx1 := hS.lk 4 rfl
  have hz1 := hS.lk 3 rfl
  have r1 := fun o n => rdn_of hx1 o n
  have rz := fun o => rd_of hz1 o
  have i0 : (0 : Int) < ((4 : Nat) : Int) := by decide
  have i1 : (1 : Int) < ((4 : Nat) : Int) := by decide
  have i2 : (2 : Int) < ((4 : Nat) : Int) := by decide
  have i3 : (3 : Int) < ((4 : Nat) : Int) := by decide
  have j1 : (0 : Int) ≤ 1 := by decide
  have j2 : (0 : Int) ≤ 2 := by decide
  have j3 : (0 : Int) ≤ 3 := by decide
  simp only [hx1, r1, hz1, rz, nzx, nxz, i0, i1, i2, i3, j1, j2, j3, ↓D0, ↓D1, ↓D2, ↓D3, ↓D4, ↓D5, ↓D6, ↓D7, ↓D8, ↓D9, ↓D10, U0, U1, U2, U3, U4, U5, U6, U7, U8, U9, U10, ↓reduceIte, Nat.reduceAdd, Nat.reduceMul, Nat.reduceSub, Nat.reduceEqDiff, Nat.reduceBEq, Nat.reduceLeDiff, Nat.reduceLT, Int.reduceAdd, Int.reduceMul, Int.reduceSub, Int.reduceLT, Int.reduceLE, Int.reduceToNat, Int.reduceEq, Int.reduceNe, Int.reduceBEq, Int.reduceBNe, ne_eq, eq_self]
  refine callT_of (c_renew (sh := sh) (c := n0) (a := n1) (n := n2) (f := n3) hS) ?_
  rintro v H' ⟨k, kr, k2, kn, kg, kp, km, rfl, hS⟩
  have hx1 := hS.offL.lk 4 rfl
  have hz1 := hS.offL.lk 3 rfl
  simp only [↓D0, ↓D1, ↓D2, ↓D3, ↓D4, ↓D5, ↓D6, ↓D7, ↓D8, ↓D9, ↓D10, U0, U1, U2, U3, U4, U5, U6, U7, U8, U9, U10, ↓reduceIte, Nat.reduceAdd, Nat.reduceMul, Nat.reduceSub, Nat.reduceEqDiff, Nat.reduceBEq, Nat.reduceLeDiff, Nat.reduceLT, Int.reduceAdd, Int.reduceMul, Int.reduceSub, Int.reduceLT, Int.reduceLE, Int.reduceToNat, Int.reduceEq, Int.reduceNe, Int.reduceBEq, Int.reduceBNe, ne_eq, eq_self]
  have wm3 : w64 (2 * sh.m + 80 * sh.p + 120) = 2 * sh.m + 80 * sh.p + 120 := w64_eq (by omega) (by omega)
  have wm4 : w64 (2 * sh.m + 80 * sh.p) = 2 * sh.m + 80 * sh.p := w64_eq (by omega) (by omega)
  have wm5 : w64 (80 * sh.p) = 80 * sh.p := w64_eq (by omega) (by omega)
  have wm6 : w64 (2 * sh.m) = 2 * sh.m := w64_eq (by omega) (by omega)
  have hB : rkBd sh = 2 * sh.m + 80 * sh.p + 120 := rfl
  have hl0 := Re.new_left sh n0 n1 n2 n3 hm
  refine loop_intro (rkI sh (rowW n ws).ws kr k2 kg x k b s n cap a (h :: sg z (.cells #[.int .i64 n0, .int .i64 n1, .int .i64 n2, .int .i64 n3] 25 (0, 0)) :: sg x (.cells #[.int .i64 sh.p, .int .i64 sh.c, .int .i64 sh.m] 23 (0, 0)) :: l)) (fun F' _ => (rkBd sh - iv (gt F' 9)).toNat) ?_ ?_
  · exact ⟨0, Re.new sh n0 n1 n2 n3, rowW n ws, kn, kp, km, by omega, by omega, rfl, ⟨rfl, rfl, rfl, rfl⟩, ⟨Re.new_wf .., (Re.new_s ..).1, hof, by omega, Re.new_kp .., fun g => Re.new_off _ _ _ _ _ g⟩, hS⟩
  clear hS hx1 hz1 r1 rz
  rintro F' H' ⟨i, t, w, kn, kp, km, h0, h1, e9, ⟨e1, e3, e7, e8⟩, ⟨hwf, hs, ho, hl, hkp, hoff⟩, hS⟩
  have hx1 := hS.offL.lk 4 rfl
  have rx := fun o => rd_of hx1 o
  have wi : w64 (i + 1) = i + 1 := w64_eq (by omega) (by omega)
  by_cases hlt : i < rkBd sh
  · have g1 : decide (i < 2 * sh.m + 80 * sh.p + 120) = true := decide_eq_true hlt
    simp only [e9, e1, e3, e7, e8, hx1, rx, wrap_w64, wm3, wm4, wm5, wm6, g1, ↓D0, ↓D1, ↓D2, ↓D3, ↓D4, ↓D5, ↓D6, ↓D7, ↓D8, ↓D9, ↓D10, U0, U1, U2, U3, U4, U5, U6, U7, U8, U9, U10, ↓reduceIte, Nat.reduceAdd, Nat.reduceMul, Nat.reduceSub, Nat.reduceEqDiff, Nat.reduceBEq, Nat.reduceLeDiff, Nat.reduceLT, Int.reduceAdd, Int.reduceMul, Int.reduceSub, Int.reduceLT, Int.reduceLE, Int.reduceToNat, Int.reduceEq, Int.reduceNe, Int.reduceBEq, Int.reduceBNe, ne_eq, eq_self]
    refine callT_of (c_restep hwf (fun _ => by rw [hs]; exact ho) hS) ?_
    rintro v H' ⟨rfl, kn2, kp2, km2, hS⟩
    simp only [e9, e1, e3, e7, e8, wrap_w64, wi, ↓D0, ↓D1, ↓D2, ↓D3, ↓D4, ↓D5, ↓D6, ↓D7, ↓D8, ↓D9, ↓D10, U0, U1, U2, U3, U4, U5, U6, U7, U8, U9, U10, ↓reduceIte, Nat.reduceAdd, Nat.reduceMul, Nat.reduceSub, Nat.reduceEqDiff, Nat.reduceBEq, Nat.reduceLeDiff, Nat.reduceLT, Int.reduceAdd, Int.reduceMul, Int.reduceSub, Int.reduceLT, Int.reduceLE, Int.reduceToNat, Int.reduceEq, Int.reduceNe, Int.reduceBEq, Int.reduceBNe, ne_eq, eq_self]
    have ho2 := Re.step_of hwf (w := w) (by rw [hs]; exact ho)
    rw [hs] at ho2
    refine ⟨⟨i + 1, (t.step w).1, (t.step w).2, kn2, kp2, km2, by omega, by omega, rfl, ⟨by simp [gt, e1], by simp [gt, e3], by simp [gt, e7], by simp [gt, e8]⟩, ⟨Re.step_wf hwf (fun _ => by rw [hs]; exact ho), Re.step_k.1.trans hs, ho2, ?_, Re.step_kp hwf hs ho hkp, fun g => Re.step_off hwf hoff g⟩, hS⟩, by simp [gt, iv, e9]; omega⟩
    have := Re.left_step (w := w) (m := rkBd sh - i) hwf (by rw [hs]; exact ho) hl
    omega
  · have hi : i = rkBd sh := by omega
    have hd : t.dn = true := Re.left_dn hwf (by omega)
    have g1 : decide (i < 2 * sh.m + 80 * sh.p + 120) = false := decide_eq_false hlt
    simp only [e9, e1, e3, e7, e8, hx1, rx, wrap_w64, wm3, wm4, wm5, wm6, g1, ↓D0, ↓D1, ↓D2, ↓D3, ↓D4, ↓D5, ↓D6, ↓D7, ↓D8, ↓D9, ↓D10, U0, U1, U2, U3, U4, U5, U6, U7, U8, U9, U10, ↓reduceIte, Nat.reduceAdd, Nat.reduceMul, Nat.reduceSub, Nat.reduceEqDiff, Nat.reduceBEq, Nat.reduceLeDiff, Nat.reduceLT, Int.reduceAdd, Int.reduceMul, Int.reduceSub, Int.reduceLT, Int.reduceLE, Int.reduceToNat, Int.reduceEq, Int.reduceNe, Int.reduceBEq, Int.reduceBNe, ne_eq, eq_self]
    refine callT_of (c_redone' hS) ?_
    rintro v H' ⟨rfl, hS⟩
    simp only [e9, e1, e3, e7, e8, hd, ↓D0, ↓D1, ↓D2, ↓D3, ↓D4, ↓D5, ↓D6, ↓D7, ↓D8, ↓D9, ↓D10, U0, U1, U2, U3, U4, U5, U6, U7, U8, U9, U10, ↓reduceIte, Nat.reduceAdd, Nat.reduceMul, Nat.reduceSub, Nat.reduceEqDiff, Nat.reduceBEq, Nat.reduceLeDiff, Nat.reduceLT, Int.reduceAdd, Int.reduceMul, Int.reduceSub, Int.reduceLT, Int.reduceLE, Int.reduceToNat, Int.reduceEq, Int.reduceNe, Int.reduceBEq, Int.reduceBNe, ne_eq, eq_self]
    refine callT_of (c_regave hS) ?_
    rintro v H' ⟨rfl, hS⟩
    cases hg : t.gave
    rotate_left
    · simp only [e9, e1, e3, e7, e8, hg, ↓D0, ↓D1, ↓D2, ↓D3, ↓D4, ↓D5, ↓D6, ↓D7, ↓D8, ↓D9, ↓D10, U0, U1, U2, U3, U4, U5, U6, U7, U8, U9, U10, ↓reduceIte, Nat.reduceAdd, Nat.reduceMul, Nat.reduceSub, Nat.reduceEqDiff, Nat.reduceBEq, Nat.reduceLeDiff, Nat.reduceLT, Int.reduceAdd, Int.reduceMul, Int.reduceSub, Int.reduceLT, Int.reduceLE, Int.reduceToNat, Int.reduceEq, Int.reduceNe, Int.reduceBEq, Int.reduceBNe, ne_eq, eq_self]
      exact hS.offL.tail.tail.p1.tail.p1.tail
    simp only [e9, e1, e3, e7, e8, hg, ↓D0, ↓D1, ↓D2, ↓D3, ↓D4, ↓D5, ↓D6, ↓D7, ↓D8, ↓D9, ↓D10, U0, U1, U2, U3, U4, U5, U6, U7, U8, U9, U10, ↓reduceIte, Nat.reduceAdd, Nat.reduceMul, Nat.reduceSub, Nat.reduceEqDiff, Nat.reduceBEq, Nat.reduceLeDiff, Nat.reduceLT, Int.reduceAdd, Int.reduceMul, Int.reduceSub, Int.reduceLT, Int.reduceLE, Int.reduceToNat, Int.reduceEq, Int.reduceNe, Int.reduceBEq, Int.reduceBNe, ne_eq, eq_self]
    have hj : Kj sh (rowW n ws).ws w.ws := by
      rcases hkp with g | g
      · unfold Re.gave at hg
        cases hon : t.on
        · rw [hoff hon] at g; cases g
        · rw [hon, g] at hg; cases hg
      · exact g.1
    have hS := hS.offL
    have wp16 : w64 (sh.p * 16) = sh.p * 16 := w64_eq (by omega) (by omega)
    clear hkp hoff hl hd hg e9 hi h1 hx1 rx
    refine loop_intro (rk2 sh w x k b s n cap a (h :: sg z (.cells #[.int .i64 n0, .int .i64 n1, .int .i64 n2, .int .i64 n3] 25 (0, 0)) :: sg x (.cells #[.int .i64 sh.p, .int .i64 sh.c, .int .i64 sh.m] 23 (0, 0)) :: l)) (fun F' _ => (sh.p * 16 - iv (gt F' 10)).toNat) ⟨0, by omega, by omega, rfl, ⟨by simp [gt, e1], by simp [gt, e3], by simp [gt, e7], by simp [gt, e8]⟩, hS⟩ ?_
    clear hS e1 e3 e7 e8
    rintro F' H' ⟨i, i0, i1, e10, ⟨e1, e3, e7, e8⟩, hS⟩
    have hx1 := hS.lk 4 rfl
    have rx := fun o => rd_of hx1 o
    have rxn := fun o n => rdn_of hx1 o n
    have wi : w64 (i + 1) = i + 1 := w64_eq (by omega) (by omega)
    by_cases hlt : i < sh.p * 16
    · have g1 : decide (i < sh.p * 16) = true := decide_eq_true hlt
      have t1 : i.tdiv 16 = i / 16 := Int.tdiv_eq_ediv_of_nonneg i0
      have t2 : i.tmod 16 = i % 16 := Int.tmod_eq_emod_of_nonneg i0
      have hs16 : slot sh.p sh.c sh.m (i / 16) (i % 16) = sh.c + sh.p + i / 16 * 16 + i % 16 := slot_yes hm (by omega) (by omega) (by omega) (by omega)
      have w16 : w64 (i / 16) = i / 16 := w64_eq (by omega) (by omega)
      have w17 : w64 (i % 16) = i % 16 := w64_eq (by omega) (by omega)
      obtain ⟨q0, q1⟩ := slot_in ho hm (i := i / 16) (j := i % 16) (by omega) (by omega) (by omega) (by omega)
      have hwn : w.n = n := by have := ho.n; omega
      rw [hs16] at q0 q1
      have q1' : sh.c + sh.p + i / 16 * 16 + i % 16 < (n : Int) := by omega
      have hsl := hj.sl (i / 16) (i % 16) (by omega) (by omega) (by omega) (by omega)
      unfold slAt at hsl
      obtain ⟨A, hA⟩ : ∃ A, sh.c + sh.p + i / 16 * 16 + i % 16 = A := ⟨_, rfl⟩
      rw [hA] at q0 q1 q1' hs16 hsl
      have hV0 : (rowW n ws).ws A.toNat = ws A.toNat := if_pos (by omega)
      rw [hV0] at hsl
      have hg : w.get A = w.ws A.toNat := rfl
      rw [← hg] at hsl
      have hU1 : U (ws A.toNat) := hU _ (by omega)
      have hU2 : U (w.get A) := ho.u _
      obtain ⟨xb, xo, rfl, hrd0⟩ := hr.at' (i := A.toNat) (by omega)
      obtain ⟨fc, fT, ff, hfh, hfc⟩ := cells_in hrd0
      have hfm : H' xb = some (.cells fc fT ff) := hS.sb h (by simp) xb _ hfh
      have hrd : rd H' xb (xo + A.toNat) = some (.int .u64 (ws A.toNat)) := by rw [rd_of hfm]; exact hfc
      simp only [e10, e1, e3, e7, e8, hx1, rx, rxn, wrap_w64, wp16, g1, t1, t2, w16, w17, u_slot, hs16, q0, q1', hrd, u_rsl hU1, ↓D0, ↓D1, ↓D2, ↓D3, ↓D4, ↓D5, ↓D6, ↓D7, ↓D8, ↓D9, ↓D10, U0, U1, U2, U3, U4, U5, U6, U7, U8, U9, U10, ↓reduceIte, Nat.reduceAdd, Nat.reduceMul, Nat.reduceSub, Nat.reduceEqDiff, Nat.reduceBEq, Nat.reduceLeDiff, Nat.reduceLT, Int.reduceAdd, Int.reduceMul, Int.reduceSub, Int.reduceLT, Int.reduceLE, Int.reduceToNat, Int.reduceEq, Int.reduceNe, Int.reduceBEq, Int.reduceBNe, ne_eq, eq_self]
      refine newB_intro fun y hy f5 f6 => ?_
      have nxy : (x = y) = False := f5 x (by rw [hx1]; rfl)
      have nyx : (y = x) = False := f6 x (by rw [hx1]; rfl)
      have nby : (xb = y) = False := f5 xb (by rw [hfm]; rfl)
      have hS := hS.new f5 (.cells #[.int .i64 (slK (ws A.toNat)), .int .i64 (slA (ws A.toNat))] 35 (0, 0))
      have hy1 := hS.look
      have ry := fun o => rd_of hy1 o
      have fin : ∀ H2, Sep (wB b s w :: wR s w :: h :: sg z (.cells #[.int .i64 n0, .int .i64 n1, .int .i64 n2, .int .i64 n3] 25 (0, 0)) :: sg x (.cells #[.int .i64 sh.p, .int .i64 sh.c, .int .i64 sh.m] 23 (0, 0)) :: l) H2 → True := fun _ _ => trivial
      simp only [e10, e1, e3, e7, e8, nxy, nyx, Ev.upd_upd, ↓D0, ↓D1, ↓D2, ↓D3, ↓D4, ↓D5, ↓D6, ↓D7, ↓D8, ↓D9, ↓D10, U0, U1, U2, U3, U4, U5, U6, U7, U8, U9, U10, ↓reduceIte, Nat.reduceAdd, Nat.reduceMul, Nat.reduceSub, Nat.reduceEqDiff, Nat.reduceBEq, Nat.reduceLeDiff, Nat.reduceLT, Int.reduceAdd, Int.reduceMul, Int.reduceSub, Int.reduceLT, Int.reduceLE, Int.reduceToNat, Int.reduceEq, Int.reduceNe, Int.reduceBEq, Int.reduceBNe, ne_eq, eq_self]
      refine draw_intro [(y, #[.int .i64 (slK (ws A.toNat)), .int .i64 (slA (ws A.toNat))], []), (xb, fc, [])] (by simp only [hy1, hfm, nby, ↓D0, ↓D1, ↓D2, ↓D3, ↓D4, ↓D5, ↓D6, ↓D7, ↓D8, ↓D9, ↓D10, U0, U1, U2, U3, U4, U5, U6, U7, U8, U9, U10, ↓reduceIte, Nat.reduceAdd, Nat.reduceMul, Nat.reduceSub, Nat.reduceEqDiff, Nat.reduceBEq, Nat.reduceLeDiff, Nat.reduceLT, Int.reduceAdd, Int.reduceMul, Int.reduceSub, Int.reduceLT, Int.reduceLE, Int.reduceToNat, Int.reduceEq, Int.reduceNe, Int.reduceBEq, Int.reduceBNe, ne_eq, eq_self]) ?_
      by_cases hk : slK (ws A.toNat) = 3
      rotate_left
      · have g2 : (slK (ws A.toNat) == 3) = false := beq_eq_false_iff_ne.2 hk
        simp only [e10, e1, e3, e7, e8, hy1, ry, g2, nxy, nyx, Ev.upd_upd, wrap_w64, wi, ↓D0, ↓D1, ↓D2, ↓D3, ↓D4, ↓D5, ↓D6, ↓D7, ↓D8, ↓D9, ↓D10, U0, U1, U2, U3, U4, U5, U6, U7, U8, U9, U10, ↓reduceIte, Nat.reduceAdd, Nat.reduceMul, Nat.reduceSub, Nat.reduceEqDiff, Nat.reduceBEq, Nat.reduceLeDiff, Nat.reduceLT, Int.reduceAdd, Int.reduceMul, Int.reduceSub, Int.reduceLT, Int.reduceLE, Int.reduceToNat, Int.reduceEq, Int.reduceNe, Int.reduceBEq, Int.reduceBNe, ne_eq, eq_self]
        exact ⟨⟨i + 1, by omega, by omega, by simp [gt], ⟨by simp [gt, e1], by simp [gt, e3], by simp [gt, e7], by simp [gt, e8]⟩, hS.tail⟩, by simp [gt, iv, e10]; omega⟩
      have g2 : (slK (ws A.toNat) == 3) = true := beq_iff_eq.2 hk
      simp only [e10, e1, e3, e7, e8, hy1, ry, g2, nxy, nyx, nby, hrd, hfc, Ev.upd_upd, ↓D0, ↓D1, ↓D2, ↓D3, ↓D4, ↓D5, ↓D6, ↓D7, ↓D8, ↓D9, ↓D10, U0, U1, U2, U3, U4, U5, U6, U7, U8, U9, U10, ↓reduceIte, Nat.reduceAdd, Nat.reduceMul, Nat.reduceSub, Nat.reduceEqDiff, Nat.reduceBEq, Nat.reduceLeDiff, Nat.reduceLT, Int.reduceAdd, Int.reduceMul, Int.reduceSub, Int.reduceLT, Int.reduceLE, Int.reduceToNat, Int.reduceEq, Int.reduceNe, Int.reduceBEq, Int.reduceBNe, ne_eq, eq_self]
      refine ⟨q0, q1', callT_of (c_look A q0 q1 hS.r2) ?_⟩
      rintro v H' ⟨rfl, hS⟩
      have hy1 := hS.lk 2 rfl
      have hfm : H' xb = some (.cells fc fT ff) := hS.sb h (by simp) xb _ hfh
      have hrd : rd H' xb (xo + A.toNat) = some (.int .u64 (ws A.toNat)) := by rw [rd_of hfm]; exact hfc
      by_cases he : w.get A = ws A.toNat
      · have g3 : (w.get A != ws A.toNat) = false := by rw [he]; simp
        simp only [e10, e1, e3, e7, e8, hy1, hfm, hrd, hfc, q0, q1', g3, wrap_w64, wi, ↓D0, ↓D1, ↓D2, ↓D3, ↓D4, ↓D5, ↓D6, ↓D7, ↓D8, ↓D9, ↓D10, U0, U1, U2, U3, U4, U5, U6, U7, U8, U9, U10, ↓reduceIte, Nat.reduceAdd, Nat.reduceMul, Nat.reduceSub, Nat.reduceEqDiff, Nat.reduceBEq, Nat.reduceLeDiff, Nat.reduceLT, Int.reduceAdd, Int.reduceMul, Int.reduceSub, Int.reduceLT, Int.reduceLE, Int.reduceToNat, Int.reduceEq, Int.reduceNe, Int.reduceBEq, Int.reduceBNe, ne_eq, eq_self]
        exact ⟨⟨i + 1, by omega, by omega, by simp [gt], ⟨by simp [gt, e1], by simp [gt, e3], by simp [gt, e7], by simp [gt, e8]⟩, hS.p2.tail⟩, by simp [gt, iv, e10]; omega⟩
      · have g3 : (w.get A != ws A.toNat) = true := by simp [he]
        have hk2 : slK (w.get A) ≠ 3 := hsl.resolve_left he
        have g4 : (slK (w.get A) == 3) = false := beq_eq_false_iff_ne.2 hk2
        simp only [e10, e1, e3, e7, e8, hy1, hfm, hrd, hfc, q0, q1', g3, wrap_w64, wi, ↓D0, ↓D1, ↓D2, ↓D3, ↓D4, ↓D5, ↓D6, ↓D7, ↓D8, ↓D9, ↓D10, U0, U1, U2, U3, U4, U5, U6, U7, U8, U9, U10, ↓reduceIte, Nat.reduceAdd, Nat.reduceMul, Nat.reduceSub, Nat.reduceEqDiff, Nat.reduceBEq, Nat.reduceLeDiff, Nat.reduceLT, Int.reduceAdd, Int.reduceMul, Int.reduceSub, Int.reduceLT, Int.reduceLE, Int.reduceToNat, Int.reduceEq, Int.reduceNe, Int.reduceBEq, Int.reduceBNe, ne_eq, eq_self]
        refine callT_of (c_look A q0 q1 hS) ?_
        rintro v H' ⟨rfl, hS⟩
        have hy1 := hS.lk 2 rfl
        have hfm : H' xb = some (.cells fc fT ff) := hS.sb h (by simp) xb _ hfh
        simp only [e10, e1, e3, e7, e8, hy1, hfm, u_rsl hU2, g4, wrap_w64, wi, ↓D0, ↓D1, ↓D2, ↓D3, ↓D4, ↓D5, ↓D6, ↓D7, ↓D8, ↓D9, ↓D10, U0, U1, U2, U3, U4, U5, U6, U7, U8, U9, U10, ↓reduceIte, Nat.reduceAdd, Nat.reduceMul, Nat.reduceSub, Nat.reduceEqDiff, Nat.reduceBEq, Nat.reduceLeDiff, Nat.reduceLT, Int.reduceAdd, Int.reduceMul, Int.reduceSub, Int.reduceLT, Int.reduceLE, Int.reduceToNat, Int.reduceEq, Int.reduceNe, Int.reduceBEq, Int.reduceBNe, ne_eq, eq_self]
        exact ⟨⟨i + 1, by omega, by omega, by simp [gt], ⟨by simp [gt, e1], by simp [gt, e3], by simp [gt, e7], by simp [gt, e8]⟩, hS.p2.tail⟩, by simp [gt, iv, e10]; omega⟩
    · have g1 : decide (i < sh.p * 16) = false := decide_eq_false hlt
      simp only [e10, e1, e3, e7, e8, hx1, rx, wrap_w64, wp16, g1, ↓D0, ↓D1, ↓D2, ↓D3, ↓D4, ↓D5, ↓D6, ↓D7, ↓D8, ↓D9, ↓D10, U0, U1, U2, U3, U4, U5, U6, U7, U8, U9, U10, ↓reduceIte, Nat.reduceAdd, Nat.reduceMul, Nat.reduceSub, Nat.reduceEqDiff, Nat.reduceBEq, Nat.reduceLeDiff, Nat.reduceLT, Int.reduceAdd, Int.reduceMul, Int.reduceSub, Int.reduceLT, Int.reduceLE, Int.reduceToNat, Int.reduceEq, Int.reduceNe, Int.reduceBEq, Int.reduceBNe, ne_eq, eq_self]
      clear hx1 rx rxn e10 g1 hlt i0 i1 wi
      refine loop_intro (rk3 sh w x k b s n cap a (h :: sg z (.cells #[.int .i64 n0, .int .i64 n1, .int .i64 n2, .int .i64 n3] 25 (0, 0)) :: sg x (.cells #[.int .i64 sh.p, .int .i64 sh.c, .int .i64 sh.m] 23 (0, 0)) :: l)) (fun F' _ => (sh.p - iv (gt F' 13)).toNat) ⟨0, by omega, by omega, rfl, ⟨by simp [gt, e1], by simp [gt, e3], by simp [gt, e7], by simp [gt, e8]⟩, hS⟩ ?_
      clear hS e1 e3 e7 e8
      rintro F' H' ⟨i, i0, i1, e13, ⟨e1, e3, e7, e8⟩, hS⟩
      have hx1 := hS.lk 4 rfl
      have rx := fun o => rd_of hx1 o
      have rxn := fun o n => rdn_of hx1 o n
      have wi : w64 (i + 1) = i + 1 := w64_eq (by omega) (by omega)
      by_cases hlt : i < sh.p
      · have g1 : decide (i < sh.p) = true := decide_eq_true hlt
        obtain ⟨q0, q1⟩ := page_in ho hm i0 hlt
        have hwn : w.n = n := by have := ho.n; omega
        have hpp := hj.pg i i0 hlt
        unfold Nb pgAt at hpp
        have hpg : page sh.p sh.c sh.m i = sh.c + i := page_yes hm i0 hlt
        rw [hpg] at q0 q1 hpp
        obtain ⟨A, hA⟩ : ∃ A, sh.c + i = A := ⟨_, rfl⟩
        rw [hA] at q0 q1 hpg hpp
        have q1' : A < (n : Int) := by omega
        have hV0 : (rowW n ws).ws A.toNat = ws A.toNat := if_pos (by omega)
        rw [hV0] at hpp
        have hg : w.get A = w.ws A.toNat := rfl
        rw [← hg] at hpp
        have hU1 : U (ws A.toNat) := hU _ (by omega)
        obtain ⟨xb, xo, rfl, hrd0⟩ := hr.at' (i := A.toNat) (by omega)
        obtain ⟨fc, fT, ff, hfh, hfc⟩ := cells_in hrd0
        have hfm : H' xb = some (.cells fc fT ff) := hS.sb h (by simp) xb _ hfh
        have hrd : rd H' xb (xo + A.toNat) = some (.int .u64 (ws A.toNat)) := by rw [rd_of hfm]; exact hfc
        have nbx : (xb = x) = False := f1 xb (by rw [hS0.sb h (by simp) xb _ hfh]; rfl)
        have nxb : (x = xb) = False := f2 xb (by rw [hS0.sb h (by simp) xb _ hfh]; rfl)
        simp only [e13, e1, e3, e7, e8, hx1, rx, rxn, wrap_w64, g1, ↓D0, ↓D1, ↓D2, ↓D3, ↓D4, ↓D5, ↓D6, ↓D7, ↓D8, ↓D9, ↓D10, U0, U1, U2, U3, U4, U5, U6, U7, U8, U9, U10, ↓reduceIte, Nat.reduceAdd, Nat.reduceMul, Nat.reduceSub, Nat.reduceEqDiff, Nat.reduceBEq, Nat.reduceLeDiff, Nat.reduceLT, Int.reduceAdd, Int.reduceMul, Int.reduceSub, Int.reduceLT, Int.reduceLE, Int.reduceToNat, Int.reduceEq, Int.reduceNe, Int.reduceBEq, Int.reduceBNe, ne_eq, eq_self]
        refine draw_cut [(x, #[.int .i64 sh.p, .int .i64 sh.c, .int .i64 sh.m], []), (xb, fc, [])] (rkC sh w x k b s n cap (some ⟨xb, xo, none⟩) (h :: sg z (.cells #[.int .i64 n0, .int .i64 n1, .int .i64 n2, .int .i64 n3] 25 (0, 0)) :: sg x (.cells #[.int .i64 sh.p, .int .i64 sh.c, .int .i64 sh.m] 23 (0, 0)) :: l) i (ws A.toNat)) (by simp only [hx1, hfm, ↓D0, ↓D1, ↓D2, ↓D3, ↓D4, ↓D5, ↓D6, ↓D7, ↓D8, ↓D9, ↓D10, U0, U1, U2, U3, U4, U5, U6, U7, U8, U9, U10, ↓reduceIte, Nat.reduceAdd, Nat.reduceMul, Nat.reduceSub, Nat.reduceEqDiff, Nat.reduceBEq, Nat.reduceLeDiff, Nat.reduceLT, Int.reduceAdd, Int.reduceMul, Int.reduceSub, Int.reduceLT, Int.reduceLE, Int.reduceToNat, Int.reduceEq, Int.reduceNe, Int.reduceBEq, Int.reduceBNe, ne_eq, eq_self]) ?_ ?_
        · simp only [e13, e1, e3, e7, e8, hx1, rxn, u_page, hpg, q0, q1', hfm, hrd, hfc, nbx, nxb, u_readpg sh i hU1, ↓e_dalt2, ↓D0, ↓D1, ↓D2, ↓D3, ↓D4, ↓D5, ↓D6, ↓D7, ↓D8, ↓D9, ↓D10, U0, U1, U2, U3, U4, U5, U6, U7, U8, U9, U10, ↓reduceIte, Nat.reduceAdd, Nat.reduceMul, Nat.reduceSub, Nat.reduceEqDiff, Nat.reduceBEq, Nat.reduceLeDiff, Nat.reduceLT, Int.reduceAdd, Int.reduceMul, Int.reduceSub, Int.reduceLT, Int.reduceLE, Int.reduceToNat, Int.reduceEq, Int.reduceNe, Int.reduceBEq, Int.reduceBNe, ne_eq, eq_self]
          refine ⟨⟨?_, ?_⟩, ?_⟩
          all_goals
            refine newB_intro fun y hy f5 f6 => ?_
            have nxy : (x = y) = False := f5 x (by rw [hx1]; rfl)
            have nyx : (y = x) = False := f6 x (by rw [hx1]; rfl)
            have nby : (xb = y) = False := f5 xb (by rw [hfm]; rfl)
            have nyb : (y = xb) = False := f6 xb (by rw [hfm]; rfl)
            have hS := hS.new f5 (.cells #[.int .i64 (pgK sh i (ws A.toNat)), .int .i64 (pgA sh i (ws A.toNat)), .int .i64 (pgB sh i (ws A.toNat))] 40 (0, 0))
            simp only [e13, e1, e3, e7, e8, hx1, rxn, u_page, hpg, q0, q1', hfm, hrd, hfc, nbx, nxb, u_readpg sh i hU1, nxy, nyx, nby, nyb, Ev.upd_upd, ↓D0, ↓D1, ↓D2, ↓D3, ↓D4, ↓D5, ↓D6, ↓D7, ↓D8, ↓D9, ↓D10, U0, U1, U2, U3, U4, U5, U6, U7, U8, U9, U10, ↓reduceIte, Nat.reduceAdd, Nat.reduceMul, Nat.reduceSub, Nat.reduceEqDiff, Nat.reduceBEq, Nat.reduceLeDiff, Nat.reduceLT, Int.reduceAdd, Int.reduceMul, Int.reduceSub, Int.reduceLT, Int.reduceLE, Int.reduceToNat, Int.reduceEq, Int.reduceNe, Int.reduceBEq, Int.reduceBNe, ne_eq, eq_self]
            exact ⟨by simp [gt, e13], ⟨by simp [gt, e1], by simp [gt, e3], by simp [gt, e7], by simp [gt, e8]⟩, by simp [gt], y, by simp [gt], hS⟩
        · clear hS hx1 rx rxn hfm hrd e13 e1 e3 e7 e8
          rintro F' H' ⟨e13, ⟨e1, e3, e7, e8⟩, e15, y, e14, hS⟩
          have hx1 := hS.lk 5 rfl
          have hy1 := hS.look
          have rx := fun o => rd_of hx1 o
          have rxn := fun o n => rdn_of hx1 o n
          have ry := fun o => rd_of hy1 o
          have nyx := hS.neq 0 5 (by decide) rfl rfl
          have nxy := hS.qen 0 5 (by decide) rfl rfl
          have hfm : H' xb = some (.cells fc fT ff) := hS.sb h (by simp) xb _ hfh
          have hrd : rd H' xb (xo + A.toNat) = some (.int .u64 (ws A.toNat)) := by rw [rd_of hfm]; exact hfc
          have hnb : xb ≠ y := fun g => by
            rcases (List.pairwise_cons.1 hS.dj).1 h (by simp) xb with e | e
            · rw [g] at e; unfold sg at e; simp at e
            · rw [hfh] at e; cases e
          simp only [e13, e14, e15, e1, e3, e7, e8, ↓D0, ↓D1, ↓D2, ↓D3, ↓D4, ↓D5, ↓D6, ↓D7, ↓D8, ↓D9, ↓D10, U0, U1, U2, U3, U4, U5, U6, U7, U8, U9, U10, ↓reduceIte, Nat.reduceAdd, Nat.reduceMul, Nat.reduceSub, Nat.reduceEqDiff, Nat.reduceBEq, Nat.reduceLeDiff, Nat.reduceLT, Int.reduceAdd, Int.reduceMul, Int.reduceSub, Int.reduceLT, Int.reduceLE, Int.reduceToNat, Int.reduceEq, Int.reduceNe, Int.reduceBEq, Int.reduceBNe, ne_eq, eq_self]
          refine draw_intro [(x, #[.int .i64 sh.p, .int .i64 sh.c, .int .i64 sh.m], []), (y, #[.int .i64 (pgK sh i (ws A.toNat)), .int .i64 (pgA sh i (ws A.toNat)), .int .i64 (pgB sh i (ws A.toNat))], []), (xb, fc, [])] (by simp only [hx1, hy1, hfm, ↓D0, ↓D1, ↓D2, ↓D3, ↓D4, ↓D5, ↓D6, ↓D7, ↓D8, ↓D9, ↓D10, U0, U1, U2, U3, U4, U5, U6, U7, U8, U9, U10, ↓reduceIte, Nat.reduceAdd, Nat.reduceMul, Nat.reduceSub, Nat.reduceEqDiff, Nat.reduceBEq, Nat.reduceLeDiff, Nat.reduceLT, Int.reduceAdd, Int.reduceMul, Int.reduceSub, Int.reduceLT, Int.reduceLE, Int.reduceToNat, Int.reduceEq, Int.reduceNe, Int.reduceBEq, Int.reduceBNe, ne_eq, eq_self]) ?_
          have nby : (xb = y) = False := eq_false fun g => hnb g
          have nyb : (y = xb) = False := eq_false fun g => hnb g.symm
          cases hok : okPg sh i (ws A.toNat)
          · rw [hok] at e15
            simp only [e13, e14, e15, e1, e3, e7, e8, hx1, rxn, hy1, ry, nxy, nyx, u_page, hpg, q0, q1', hfm, hrd, hfc, nbx, nxb, nby, nyb, wrap_w64, wi, ↓D0, ↓D1, ↓D2, ↓D3, ↓D4, ↓D5, ↓D6, ↓D7, ↓D8, ↓D9, ↓D10, U0, U1, U2, U3, U4, U5, U6, U7, U8, U9, U10, ↓reduceIte, Nat.reduceAdd, Nat.reduceMul, Nat.reduceSub, Nat.reduceEqDiff, Nat.reduceBEq, Nat.reduceLeDiff, Nat.reduceLT, Int.reduceAdd, Int.reduceMul, Int.reduceSub, Int.reduceLT, Int.reduceLE, Int.reduceToNat, Int.reduceEq, Int.reduceNe, Int.reduceBEq, Int.reduceBNe, ne_eq, eq_self]
            exact ⟨⟨i + 1, by omega, by omega, by simp [gt], ⟨by simp [gt, e1], by simp [gt, e3], by simp [gt, e7], by simp [gt, e8]⟩, hS.tail⟩, by simp [gt, iv, e13]; omega⟩
          rw [hok] at e15
          by_cases hk : pgK sh i (ws A.toNat) = 3 ∨ pgK sh i (ws A.toNat) = 4
          rotate_left
          · have g3 : (pgK sh i (ws A.toNat) == 3) = false := beq_eq_false_iff_ne.2 fun g => hk (.inl g)
            have g4 : (pgK sh i (ws A.toNat) == 4) = false := beq_eq_false_iff_ne.2 fun g => hk (.inr g)
            simp only [e13, e14, e15, e1, e3, e7, e8, hx1, rxn, hy1, ry, nxy, nyx, u_page, hpg, q0, q1', hfm, hrd, hfc, nbx, nxb, nby, nyb, g3, g4, wrap_w64, wi, ↓D0, ↓D1, ↓D2, ↓D3, ↓D4, ↓D5, ↓D6, ↓D7, ↓D8, ↓D9, ↓D10, U0, U1, U2, U3, U4, U5, U6, U7, U8, U9, U10, ↓reduceIte, Nat.reduceAdd, Nat.reduceMul, Nat.reduceSub, Nat.reduceEqDiff, Nat.reduceBEq, Nat.reduceLeDiff, Nat.reduceLT, Int.reduceAdd, Int.reduceMul, Int.reduceSub, Int.reduceLT, Int.reduceLE, Int.reduceToNat, Int.reduceEq, Int.reduceNe, Int.reduceBEq, Int.reduceBNe, ne_eq, eq_self]
            exact ⟨⟨i + 1, by omega, by omega, by simp [gt], ⟨by simp [gt, e1], by simp [gt, e3], by simp [gt, e7], by simp [gt, e8]⟩, hS.tail⟩, by simp [gt, iv, e13]; omega⟩
          have he : w.get A = ws A.toNat := hpp fun g => g ⟨hok, hk⟩
          have g5 : (w.get A != ws A.toNat) = false := by rw [he]; simp
          rcases hk with hk | hk
          · have g3 : (pgK sh i (ws A.toNat) == 3) = true := beq_iff_eq.2 hk
            simp only [e13, e14, e15, e1, e3, e7, e8, hx1, rxn, hy1, ry, nxy, nyx, u_page, hpg, q0, q1', hfm, hrd, hfc, nbx, nxb, nby, nyb, g3, ↓e_dalt2, ↓D0, ↓D1, ↓D2, ↓D3, ↓D4, ↓D5, ↓D6, ↓D7, ↓D8, ↓D9, ↓D10, U0, U1, U2, U3, U4, U5, U6, U7, U8, U9, U10, ↓reduceIte, Nat.reduceAdd, Nat.reduceMul, Nat.reduceSub, Nat.reduceEqDiff, Nat.reduceBEq, Nat.reduceLeDiff, Nat.reduceLT, Int.reduceAdd, Int.reduceMul, Int.reduceSub, Int.reduceLT, Int.reduceLE, Int.reduceToNat, Int.reduceEq, Int.reduceNe, Int.reduceBEq, Int.reduceBNe, ne_eq, eq_self]
            refine callT_of (c_look A q0 q1 hS.r2) ?_
            rintro v H' ⟨rfl, hS⟩
            have hx1 := hS.lk 5 rfl
            have hy1 := hS.lk 2 rfl
            have rxn := fun o n => rdn_of hx1 o n
            have hfm : H' xb = some (.cells fc fT ff) := hS.sb h (by simp) xb _ hfh
            have hrd : rd H' xb (xo + A.toNat) = some (.int .u64 (ws A.toNat)) := by rw [rd_of hfm]; exact hfc
            simp only [e13, e14, e15, e1, e3, e7, e8, hx1, rxn, hy1, ry, nxy, nyx, u_page, hpg, q0, q1', hfm, hrd, hfc, nbx, nxb, nby, nyb, g5, wrap_w64, wi, ↓D0, ↓D1, ↓D2, ↓D3, ↓D4, ↓D5, ↓D6, ↓D7, ↓D8, ↓D9, ↓D10, U0, U1, U2, U3, U4, U5, U6, U7, U8, U9, U10, ↓reduceIte, Nat.reduceAdd, Nat.reduceMul, Nat.reduceSub, Nat.reduceEqDiff, Nat.reduceBEq, Nat.reduceLeDiff, Nat.reduceLT, Int.reduceAdd, Int.reduceMul, Int.reduceSub, Int.reduceLT, Int.reduceLE, Int.reduceToNat, Int.reduceEq, Int.reduceNe, Int.reduceBEq, Int.reduceBNe, ne_eq, eq_self]
            exact ⟨⟨i + 1, by omega, by omega, by simp [gt], ⟨by simp [gt, e1], by simp [gt, e3], by simp [gt, e7], by simp [gt, e8]⟩, hS.p2.tail⟩, by simp [gt, iv, e13]; omega⟩
          · have g3 : (pgK sh i (ws A.toNat) == 3) = false := beq_eq_false_iff_ne.2 (by omega)
            have g4 : (pgK sh i (ws A.toNat) == 4) = true := beq_iff_eq.2 hk
            simp only [e13, e14, e15, e1, e3, e7, e8, hx1, rxn, hy1, ry, nxy, nyx, u_page, hpg, q0, q1', hfm, hrd, hfc, nbx, nxb, nby, nyb, g3, g4, ↓e_dalt2, ↓D0, ↓D1, ↓D2, ↓D3, ↓D4, ↓D5, ↓D6, ↓D7, ↓D8, ↓D9, ↓D10, U0, U1, U2, U3, U4, U5, U6, U7, U8, U9, U10, ↓reduceIte, Nat.reduceAdd, Nat.reduceMul, Nat.reduceSub, Nat.reduceEqDiff, Nat.reduceBEq, Nat.reduceLeDiff, Nat.reduceLT, Int.reduceAdd, Int.reduceMul, Int.reduceSub, Int.reduceLT, Int.reduceLE, Int.reduceToNat, Int.reduceEq, Int.reduceNe, Int.reduceBEq, Int.reduceBNe, ne_eq, eq_self]
            refine callT_of (c_look A q0 q1 hS.r2) ?_
            rintro v H' ⟨rfl, hS⟩
            have hx1 := hS.lk 5 rfl
            have hy1 := hS.lk 2 rfl
            have rxn := fun o n => rdn_of hx1 o n
            have hfm : H' xb = some (.cells fc fT ff) := hS.sb h (by simp) xb _ hfh
            have hrd : rd H' xb (xo + A.toNat) = some (.int .u64 (ws A.toNat)) := by rw [rd_of hfm]; exact hfc
            simp only [e13, e14, e15, e1, e3, e7, e8, hx1, rxn, hy1, ry, nxy, nyx, u_page, hpg, q0, q1', hfm, hrd, hfc, nbx, nxb, nby, nyb, g5, wrap_w64, wi, ↓D0, ↓D1, ↓D2, ↓D3, ↓D4, ↓D5, ↓D6, ↓D7, ↓D8, ↓D9, ↓D10, U0, U1, U2, U3, U4, U5, U6, U7, U8, U9, U10, ↓reduceIte, Nat.reduceAdd, Nat.reduceMul, Nat.reduceSub, Nat.reduceEqDiff, Nat.reduceBEq, Nat.reduceLeDiff, Nat.reduceLT, Int.reduceAdd, Int.reduceMul, Int.reduceSub, Int.reduceLT, Int.reduceLE, Int.reduceToNat, Int.reduceEq, Int.reduceNe, Int.reduceBEq, Int.reduceBNe, ne_eq, eq_self]
            exact ⟨⟨i + 1, by omega, by omega, by simp [gt], ⟨by simp [gt, e1], by simp [gt, e3], by simp [gt, e7], by simp [gt, e8]⟩, hS.p2.tail⟩, by simp [gt, iv, e13]; omega⟩
      · have g1 : decide (i < sh.p) = false := decide_eq_false hlt
        simp only [e13, e1, e3, e7, e8, hx1, rx, wrap_w64, g1, ↓D0, ↓D1, ↓D2, ↓D3, ↓D4, ↓D5, ↓D6, ↓D7, ↓D8, ↓D9, ↓D10, U0, U1, U2, U3, U4, U5, U6, U7, U8, U9, U10, ↓reduceIte, Nat.reduceAdd, Nat.reduceMul, Nat.reduceSub, Nat.reduceEqDiff, Nat.reduceBEq, Nat.reduceLeDiff, Nat.reduceLT, Int.reduceAdd, Int.reduceMul, Int.reduceSub, Int.reduceLT, Int.reduceLE, Int.reduceToNat, Int.reduceEq, Int.reduceNe, Int.reduceBEq, Int.reduceBNe, ne_eq, eq_self]
        exact hS.tail.tail.p1.tail.p1.tail
end
theorem l_renewkeeps {W : World} {a : Option Addr} {n cap : Nat} {ws : Nat → Int} (p q m : Int) (hp : -9223372036854775808 ≤ p ∧ p ≤ 9223372036854775807) (hq : -9223372036854775808 ≤ q ∧ q ≤ 9223372036854775807) (hm : -9223372036854775808 ≤ m ∧ m ≤ 9223372036854775807)
    (hn : n ≤ 9223372036854775807) (hr : RowU (memOf W) a n ws) (hU : ∀ i, i < n → IntKind.u64.has (ws i)) (n0 n1 n2 n3 : Int) (h0 : -9223372036854775808 ≤ n0 ∧ n0 ≤ 9223372036854775807) (h1 : -9223372036854775808 ≤ n1 ∧ n1 ≤ 9223372036854775807) (h2 : -9223372036854775808 ≤ n2 ∧ n2 ≤ 9223372036854775807) (h3 : -9223372036854775808 ≤ n3 ∧ n3 ≤ 9223372036854775807) :
    CallP Tryz.prog W 3 #[.agg #[.int .i64 p, .int .i64 q, .int .i64 m], .slice a n cap, .agg #[.int .i64 n0, .int .i64 n1, .int .i64 n2, .int .i64 n3]] (memOf W) fun v H' => v = .bool true ∧ Sub (memOf W) H' :=
  (c_renewkeeps ⟨p, q, m⟩ n0 n1 n2 n3 hr (fun i hi => u64_bd (hU i hi)) (Sep.one _)).mono fun v H' ⟨h1, h2⟩ => ⟨h1, h2.head⟩
end Go.Proofs.YtjgadghmlioimaaGreat
