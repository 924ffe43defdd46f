/-
  GiveTakes, walked: one gives the only block, one looks for one, whatever their turns. Conditions: none.
-/
import Derived.Test.YtofcocbgamdghaaGreatCodeAllotmentref20
import Derived.Test.YtofcocbgamdghaaGreatCodeAllotmentlaw16
import Derived.Test.YtofcocbgamdghaaGreatGiveK
import Derived.Test.YtofcocbgamdghaaGreatTake
import Derived.Test.YtofcocbgamdghaaGreatRowV
import Derived.Test.YtofcocbgamdghaaGreatSoundA
import Derived.Test.YtofcocbgamdghaaGreatAudit
import Derived.Test.YtofcocbgamdghaaGreatAlt
import Derived.Test.YtofcocbgamdghaaGreatMaGiveT
open Nat renaming reduceAdd → xA, reduceMul → xB, reduceSub → xC, reduceEqDiff → xD, reduceBEq → xE, reduceLeDiff → xF, reduceLT → xG
open Int renaming reduceAdd → xH, reduceMul → xI, reduceSub → xJ, reduceLT → xK, reduceLE → xL, reduceToNat → xM, reduceEq → xN, reduceNe → xO, reduceBEq → xP, reduceBNe → xQ
set_option linter.unusedVariables false
set_option linter.unusedSimpArgs false
set_option maxRecDepth 8000
namespace Go.Proofs.YtofcocbgamdghaaGreat
open Go Go.Ev Go.Pl Go.Ma
section
variable {W : World} {H h : Hp} {l : List Hp} {n cap : Nat} {a : Option Addr} {B : Nat → Bool}
theorem q_pst0 : PureC Tryz.prog 103 #[.int .i64 0, .int .i64 0] (.int .u64 0) := by
  refine PureC.of mixed Tryz.func103 (by kernel_rfl) tr103 (by show 2 ≤ _; decide) fun W H => ?_
  have w1 : wu 0 = 0 := wu_eq (by decide) (by decide)
  have s1 := shl4 (a := 0) (by omega) (by omega)
  have t1 : bits .or .u64 0 0 = 0 := by rfl
  have h3 : (0 : Int) ≤ 0 ∧ (0 : Int) ≤ 255 := by decide
  simp only [u_byte8, b8_yes h3, wrap_wu, w1, s1, t1, ↓DD, UU, ↓reduceIte, xA, xB, xC, xD, xE, xF, xG, xH, xI, xJ, xK, xL, xM, xN, xO, xP, xQ, ne_eq, eq_self]
  exact Sub.refl H
theorem u_pst0 : pv Tryz.prog 103 #[.int .i64 0, .int .i64 0] = some (.int .u64 0) := pv_of q_pst0
theorem q_rst0 : PureC Tryz.prog 95 #[.int .u64 0] (.tuple #[.int .i64 0, .int .i64 0]) := by
  refine PureC.of mixed Tryz.func95 (by kernel_rfl) tr95 (by show 1 ≤ _; decide) fun W H => ?_
  have a0 : bits .and .u64 0 15 = 0 := and15 U_0
  have a1 : bits .and .u64 0 255 = 0 := by rfl
  have b0 : w64 0 = 0 := w64_eq (by decide) (by decide)
  have a2 : (0 : Int) / 16 = 0 := by decide
  simp only [shr4, a2, a0, a1, wrap_w64, b0, u_pst0, ↓DD, UU, ↓reduceIte, xA, xB, xC, xD, xE, xF, xG, xH, xI, xJ, xK, xL, xM, xN, xO, xP, xQ, ne_eq, eq_self]
  exact Sub.refl H
theorem u_rst0 : pv Tryz.prog 95 #[.int .u64 0] = some (.tuple #[.int .i64 0, .int .i64 0]) := pv_of q_rst0
/-- Nobody lives where no status is set. -/
theorem c_lives0 {sh : Sh} {ws : Nat → Int} (hm : may sh.p sh.c sh.m = true) (hn : (n : Int) = words sh.p sh.c sh.m) (hr : RowU h a n ws) (hz : ∀ j : Nat, (j : Int) < sh.c → ws j = 0) : Lives Tryz.prog 54 sh a n cap h (fun _ => false) := by
  intro W H l c hS
  refine CallP.of mixed Tryz.func54 tr54 (by show 3 ≤ _; decide) fun W _ => ?_
  have hb := (may_iff _ _ _).1 hm
  have hw := words_ge hm hn
  simp only [↓DD, UU, ↓reduceIte, xA, xB, xC, xD, xE, xF, xG, xH, xI, xJ, xK, xL, xM, xN, xO, xP, xQ, ne_eq, eq_self]
  refine newB_intro fun x hx f1 f2 => ?_
  have hS := (hS.new f1 (.cells #[.int .i64 sh.p, .int .i64 sh.c, .int .i64 sh.m] 26 (0, 0)))
  have hx1 := hS.look
  have r1 := fun o n => rdn_of hx1 o n
  by_cases hc : 0 ≤ c ∧ c < sh.c
  · have hs : status sh.p sh.c sh.m c = c := status_yes hm hc.1 hc.2
    have d1 : decide (c < 0) = false := decide_eq_false (by omega)
    obtain ⟨xb, xo, rfl, hrd⟩ := (hr.sub (hS.sb h (by simp))).at' (i := c.toNat) (by omega)
    rw [hz c.toNat (by omega)] at hrd
    have q0 := hc.1
    have q1 : c < (n : Int) := by omega
    simp only [hx1, r1, u_status, hs, d1, hrd, q0, q1, u_rst0, ↓DD, UU, ↓reduceIte, xA, xB, xC, xD, xE, xF, xG, xH, xI, xJ, xK, xL, xM, xN, xO, xP, xQ, ne_eq, eq_self]
    exact hS.tail
  · have hs : status sh.p sh.c sh.m c < 0 := by rw [status_lt0]; exact fun g => hc g.2
    simp only [hx1, r1, u_status, decide_eq_true hs, ↓DD, UU, ↓reduceIte, xA, xB, xC, xD, xE, xF, xG, xH, xI, xJ, xK, xL, xM, xN, xO, xP, xQ, ne_eq, eq_self]
    exact hS.tail
/-- The words at the beginning: p pages are written. -/
def gkF (m : Int) (p : Nat) : Nat → Int := fun j => if (j : Int) = 2 then 3 + 16 * m else if 2 < (j : Int) ∧ (j : Int) < 2 + (p : Int) then 4 else 0
theorem gkF_1 (m : Int) : (fun q => if q = 2 then 3 + 16 * m else 0 : Nat → Int) = gkF m 1 := by
  funext q; unfold gkF
  by_cases h : q = 2
  · rw [if_pos h, if_pos (by omega)]
  · rw [if_neg h, if_neg (by omega), if_neg (by omega)]
theorem gkF_step (m : Int) {p : Nat} (hp : 1 ≤ p) : (fun q => if q = 2 + p then 4 else gkF m p q) = gkF m (p + 1) := by
  funext q; unfold gkF
  by_cases h : q = 2 + p
  · rw [if_pos h, if_neg (by omega), if_pos (by omega)]
  · rw [if_neg h]
    by_cases h2 : (q : Int) = 2
    · rw [if_pos h2, if_pos h2]
    · rw [if_neg h2, if_neg h2]
      by_cases h3 : 2 < (q : Int) ∧ (q : Int) < 2 + (p : Int)
      · rw [if_pos h3, if_pos (by omega)]
      · rw [if_neg h3, if_neg (by omega)]
def gkG (m : Int) (g1 : Int) (n cap : Nat) (a : Option Addr) (x : Nat) (F' : Fr) : Prop :=
  gt F' 1 = .int .u16 g1 ∧ gt F' 2 = .slice a n cap ∧ gt F' 7 = .int .i64 m ∧ gt F' 8 = .pointer (some ⟨x, 0, none⟩)
def gkA (m g1 : Int) (N n cap : Nat) (a : Option Addr) (x y : Nat) (L : List Hp) (F' : Fr) (H' : Hp) : Prop :=
  ∃ p : Nat, 1 ≤ p ∧ (p : Int) ≤ m ∧ gt F' 10 = .int .i64 (p : Int) ∧ gt F' 9 = .slice (some ⟨y, 0, none⟩) N N ∧ gkG m g1 n cap a x F' ∧ Sep (sg y (.cells (urow N (gkF m p)) 29 (0, 0)) :: sg x (.cells #[.int .i64 m, .int .i64 2, .int .i64 0] 26 (0, 0)) :: L) H'
theorem gk_left {t : Gv} {w : Wd} {m : Int} (h : t.wf) (hl : t.left ≤ max 0 m) : (t.step w).1.left ≤ max 0 (m - 1) := by
  cases hd : t.dn
  · have := Gv.step_left (w := w) h hd; omega
  · rw [Gv.step_dn hd]
    have : t.left = 0 := by unfold Gv.left; rw [hd]; rfl
    show t.left ≤ _; omega
def gkB (m g1 : Int) (n cap : Nat) (a : Option Addr) (x b kg kr k2 s : Nat) (L : List Hp) (F' : Fr) (H' : Hp) : Prop :=
  ∃ (i : Nat) (k : Gv) (t : Rv) (w : Wd) (kp kn : Nat), i ≤ n ∧ gt F' 14 = .int .i64 (i : Int) ∧ gkG m g1 n cap a x F' ∧ (gt F' 11 = .pointer (some ⟨b, 0, none⟩) ∧ gt F' 12 = .pointer (some ⟨kg, 0, none⟩) ∧ gt F' 13 = .pointer (some ⟨kr, 0, none⟩)) ∧
    Gt.Inv m k t w ∧ (k.left ≤ 80 * m + 90 ∧ t.left ≤ 80 * m + 90) ∧ Sep (rvB kr k2 t :: rvA k2 kn t :: rvN kn t :: wB b s w :: wR s w :: gvB kg kp k :: puO kp k.put :: L) H'
def gkD (m g1 : Int) (n cap : Nat) (a : Option Addr) (x b kg kr k2 s : Nat) (L : List Hp) (F' : Fr) (H' : Hp) : Prop :=
  ∃ (i : Int) (k : Gv) (t : Rv) (w : Wd) (kp kn : Nat), 0 ≤ i ∧ i ≤ 80 * m + 90 ∧ gt F' 17 = .int .i64 i ∧ gkG m g1 n cap a x F' ∧ (gt F' 11 = .pointer (some ⟨b, 0, none⟩) ∧ gt F' 12 = .pointer (some ⟨kg, 0, none⟩) ∧ gt F' 13 = .pointer (some ⟨kr, 0, none⟩)) ∧
    Gt.Inv m k t w ∧ (k.left ≤ max 0 (80 * m + 90 - i) ∧ t.left ≤ max 0 (80 * m + 90 - i)) ∧ Sep (rvB kr k2 t :: rvA k2 kn t :: rvN kn t :: wB b s w :: wR s w :: gvB kg kp k :: puO kp k.put :: L) H'
def gkE (m : Int) (x b kg kr q s : Nat) (ok : Bool) (bk : Bk) (cn : Cn) (L : List Hp) (F' : Fr) (H' : Hp) : Prop :=
  gt F' 7 = .int .i64 m ∧ gt F' 8 = .pointer (some ⟨x, 0, none⟩) ∧ gt F' 11 = .pointer (some ⟨b, 0, none⟩) ∧ gt F' 12 = .pointer (some ⟨kg, 0, none⟩) ∧ gt F' 13 = .pointer (some ⟨kr, 0, none⟩) ∧ gt F' 18 = .pointer (some ⟨q, 0, none⟩) ∧ gt F' 19 = .bool ok ∧
    ∃ z, gt F' 20 = .pointer (some ⟨z, 0, none⟩) ∧ Sep (sg z (.cells (auC cn) 48 (0, 0)) :: sg q (.cells #[.bool bk.lg, .int .i64 bk.p, .int .i64 bk.i, .int .i64 bk.k, .int .i64 bk.n] 42 (0, 0)) :: L) H'
theorem c_givetakes {g0 g1 : Int} (hg0 : 0 ≤ g0) (hg1 : g0 ≤ 255) (hk0 : 0 ≤ g1) (hk1 : g1 ≤ 65535) (hr : RowV h a n (fun i => .bool (B i))) (hnn : n ≤ 9223372036854775807) (hS : Sep (h :: l) H) :
    CallP Tryz.prog W 3 #[.int .u8 g0, .int .u16 g1, .slice a n cap] H fun v H' => v = .bool true ∧ Sep (h :: l) H' := by
  refine CallP.of mixed Tryz.func3 tr3 (by show 3 ≤ _; decide) fun W _ => ?_
  simp only [↓DD, UU, ↓reduceIte, xA, xB, xC, xD, xE, xF, xG, xH, xI, xJ, xK, xL, xM, xN, xO, xP, xQ, ne_eq, eq_self]
  refine callT_of (c_awake16 hS) ?_
  rintro v H' ⟨rfl, hS⟩
  have eg0 : w64 g0 = g0 := w64_eq (by omega) (by omega)
  have eg1 : w64 g1 = g1 := w64_eq (by omega) (by omega)
  have et0 : g0.tmod 4 = g0 % 4 := Int.tmod_eq_emod_of_nonneg hg0
  have wq : w64 (g0 % 4) = g0 % 4 := w64_eq (by omega) (by omega)
  have wm : w64 (1 + g0 % 4) = 1 + g0 % 4 := w64_eq (by omega) (by omega)
  obtain ⟨m, hm⟩ : ∃ m, 1 + g0 % 4 = m := ⟨_, rfl⟩
  have m1 : 1 ≤ m := by omega
  have m4 : m ≤ 4 := by omega
  rw [hm] at wm
  simp only [wrap_w64, eg0, et0, wq, hm, wm, ↓DD, UU, ↓reduceIte, xA, xB, xC, xD, xE, xF, xG, xH, xI, xJ, xK, xL, xM, xN, xO, xP, xQ, ne_eq, eq_self]
  refine newB_intro fun x hx f3 f4 => ?_
  have hS := hS.new f3 (.cells #[.int .i64 0, .int .i64 0, .int .i64 0] 26 (0, 0))
  have hS := hS.set (.cells #[.int .i64 m, .int .i64 2, .int .i64 0] 26 (0, 0))
  rw [Ev.upd_upd] at hS
  have hx1 := hS.look
  have r0 := fun o => rd_of hx1 o
  have r1 := fun o n => rdn_of hx1 o n
  have hmay : may m 2 0 = true := Gt.may_ok m1 m4
  obtain ⟨N, hN⟩ : ∃ N : Nat, words m 2 0 = (N : Int) := ⟨(words m 2 0).toNat, by have := words_le hmay; omega⟩
  have hN' : (N : Int) = 2 + 17 * m := by
    rw [← hN]; unfold words; rw [if_pos hmay]; omega
  have hN2 : N ≤ 2000 := by omega
  have n0 : (0 : Int) ≤ (N : Int) := by omega
  have n8 : 8 * (N : Int) ≤ 281474976710656 := by omega
  have n9 : (N : Int) ≤ 9223372036854775807 := by omega
  have nle : (N : Int) ≤ (N : Int) := Int.le_refl _
  have n2 : (2 : Int) < (N : Int) := by omega
  have hp0 : page m 2 0 0 = 2 := by rw [page_yes hmay (by decide) (by omega)]; rfl
  have hlv : putPg 3 m 0 = 3 + 16 * m := by unfold putPg; rw [if_pos (by omega)]; omega
  simp only [Ev.upd_upd, hx1, r1, u_words, hN, n0, n8, n9, nle, Int.toNat_natCast, ↓DD, UU, ↓reduceIte, xA, xB, xC, xD, xE, xF, xG, xH, xI, xJ, xK, xL, xM, xN, xO, xP, xQ, ne_eq, eq_self]
  refine newB_intro fun y hy f5 f6 => ?_
  have hS0 := hS
  have nxy : (x = y) = False := f5 x (by rw [hx1]; rfl)
  have nyx : (y = x) = False := f6 x (by rw [hx1]; rfl)
  have hS := hS.new f5 (.cells (urow N (gkF m 1)) 29 (0, 0))
  simp only [urow_zero, urow_size, urow_set, Ev.upd_upd, hx1, r1, n2, nyx, nxy, u_page, hp0, u_putpg, hlv, gkF_1, ↓DD, UU, ↓reduceIte, xA, xB, xC, xD, xE, xF, xG, xH, xI, xJ, xK, xL, xM, xN, xO, xP, xQ, ne_eq, eq_self]
  refine ⟨by omega, ?_⟩
  refine loop_intro (gkA m g1 N n cap a x y (h :: l)) (fun F' _ => (4 - iv (gt F' 10)).toNat) ?_ ?_
  · refine ⟨1, by decide, by omega, rfl, rfl, ⟨?_, ?_, ?_, ?_⟩, hS⟩
    all_goals rfl
  clear hS hS0 hx1 r0 r1
  rintro F' H' ⟨p, hp1, hpm, e10, e9, ⟨e1, e2, e7, e8⟩, hS⟩
  have hx1 := hS.lk 1 rfl
  have hy1 := hS.look
  have r0 := fun o => rd_of hx1 o
  have r1 := fun o n => rdn_of hx1 o n
  by_cases hlt : (p : Int) < m
  · have d1 : decide ((p : Int) < m) = true := decide_eq_true hlt
    have hpg : page m 2 0 (p : Int) = 2 + (p : Int) := page_yes hmay (by omega) hlt
    have q0 : (0 : Int) ≤ 2 + (p : Int) := by omega
    have q1 : 2 + (p : Int) < (N : Int) := by omega
    have q2 : (2 + (p : Int)).toNat = 2 + p := by omega
    have q3 : 2 + p < N := by omega
    have hbv : putPg 4 0 0 = 4 := by decide
    have wp : w64 ((p : Int) + 1) = ((p + 1 : Nat) : Int) := by rw [w64_eq (by omega) (by omega)]; omega
    simp only [e10, e9, e1, e2, e7, e8, d1, hx1, r1, hy1, u_page, hpg, q0, q1, q2, q3, u_putpg, hbv, nyx, nxy, urow_size, urow_set, gkF_step m hp1, Nat.zero_add, wrap_w64, wp, ↓DD, UU, ↓reduceIte, xA, xB, xC, xD, xE, xF, xG, xH, xI, xJ, xK, xL, xM, xN, xO, xP, xQ, ne_eq, eq_self]
    have hS := hS.set (.cells (urow N (gkF m (p + 1))) 29 (0, 0))
    exact ⟨⟨p + 1, by omega, by omega, by simp [gt], by simp [gt, e9], ⟨by simp [gt, e1], by simp [gt, e2], by simp [gt, e7], by simp [gt, e8]⟩, hS⟩, by simp [gt, iv, e10]; omega⟩
  have d1 : decide ((p : Int) < m) = false := decide_eq_false hlt
  have hpp : (p : Int) = m := by omega
  simp only [e10, e9, e1, e2, e7, e8, d1, ↓DD, UU, ↓reduceIte, xA, xB, xC, xD, xE, xF, xG, xH, xI, xJ, xK, xL, xM, xN, xO, xP, xQ, ne_eq, eq_self]
  have hgk : gkF m p = Gt.one m := by unfold gkF Gt.one; rw [hpp]
  rw [hgk] at hS
  refine callT_of (c_fill (n := N) hN2 (RowU.own y N _ _ _) hS) ?_
  rintro v H' ⟨b, s, rfl, hS⟩
  have hw0 : (rowW N (Gt.one m)).ws = Gt.one m := by
    funext j
    show (if j < N then Gt.one m j else 0) = Gt.one m j
    by_cases g : j < N
    · rw [if_pos g]
    · rw [if_neg g]; unfold Gt.one; rw [if_neg (by omega), if_neg (by omega)]
  have hof : (rowW N (Gt.one m)).of (Gt.sh m) := rowW_of (sh := Gt.sh m) (by show (N : Int) = words m 2 0; rw [hN]) fun i _ => by
    unfold Gt.one U; split
    · omega
    · split <;> omega
  have hx1 := hS.lk 3 rfl
  have r1 := fun o n => rdn_of hx1 o n
  simp only [e1, e2, e7, e8, hx1, r1, ↓DD, UU, ↓reduceIte, xA, xB, xC, xD, xE, xF, xG, xH, xI, xJ, xK, xL, xM, xN, xO, xP, xQ, ne_eq, eq_self]
  refine callT_of (c_gvnew (sh := Gt.sh m) (c := 0) (a := 0) hS) ?_
  rintro v H' ⟨kg, rfl, hS⟩
  have hx1 := hS.lk 4 rfl
  have r1 := fun o n => rdn_of hx1 o n
  have eg : w64 g1 = g1 := w64_eq (by omega) (by omega)
  have et : g1.tmod 512 = g1 % 512 := Int.tmod_eq_emod_of_nonneg hk0
  have w5 : w64 (g1 % 512) = g1 % 512 := w64_eq (by omega) (by omega)
  have w6 : w64 (1 + g1 % 512) = 1 + g1 % 512 := w64_eq (by omega) (by omega)
  simp only [e1, e2, e7, e8, hx1, r1, wrap_w64, eg, et, w5, w6, ↓DD, UU, ↓reduceIte, xA, xB, xC, xD, xE, xF, xG, xH, xI, xJ, xK, xL, xM, xN, xO, xP, xQ, ne_eq, eq_self]
  refine callT_of (c_rvnew (sh := Gt.sh m) (c := 1) (n := 1 + g1 % 512) (f := 0) hS) ?_
  rintro v H' ⟨kr, k2, kn, rfl, hS⟩
  simp only [e1, e2, e7, e8, ↓DD, UU, ↓reduceIte, xA, xB, xC, xD, xE, xF, xG, xH, xI, xJ, xK, xL, xM, xN, xO, xP, xQ, ne_eq, eq_self]
  by_cases hbig : (2000 : Int) < (n : Int)
  · have d2 : decide ((2000 : Int) < (n : Int)) = true := decide_eq_true hbig
    simp only [d2, ↓DD, UU, ↓reduceIte, xA, xB, xC, xD, xE, xF, xG, xH, xI, xJ, xK, xL, xM, xN, xO, xP, xQ, ne_eq, eq_self]
    exact hS.tail.tail.tail.tail.tail.tail.tail.tail
  have d2 : decide ((2000 : Int) < (n : Int)) = false := decide_eq_false hbig
  simp only [e1, e2, e7, e8, d2, ↓DD, UU, ↓reduceIte, xA, xB, xC, xD, xE, xF, xG, xH, xI, xJ, xK, xL, xM, xN, xO, xP, xQ, ne_eq, eq_self]
  have hI0 := Gt.Inv.init m1 m4 hof hw0 (1 + g1 % 512)
  have hS := hS.p3.p5.p5.p2.nothing.p1
  have hS := hS.p6.p6.p6.p6.p6.p4.p4.p4
  have hl1 : (Gv.new (Gt.sh m) 0 0).left ≤ 80 * m + 90 := by
    unfold Gv.left; split
    · omega
    · show (0 : Int) + 13 ≤ _; omega
  have hl2 := Rv.new_left (Gt.sh m) 1 (1 + g1 % 512) 0 (Gt.may_ok m1 m4)
  have hl2 : (Rv.new (Gt.sh m) 1 (1 + g1 % 512) 0).left ≤ 0 + 70 * m + 36 := hl2
  refine loop_intro (gkB m g1 n cap a x b kg kr k2 s (sg y (.cells (urow N (Gt.one m)) 29 (0, 0)) :: sg x (.cells #[.int .i64 m, .int .i64 2, .int .i64 0] 26 (0, 0)) :: h :: l)) (fun F' _ => (n - iv (gt F' 14)).toNat)
    ⟨0, _, _, _, 0, kn, Nat.zero_le _, by simp [gt], ⟨by simp [gt, e1], by simp [gt, e2], by simp [gt, e7], by simp [gt, e8]⟩, ⟨by simp [gt], by simp [gt], by simp [gt]⟩, hI0, ⟨hl1, by omega⟩, hS⟩ ?_
  clear hS hI0 hx1 r1 r0 e1 e2 e7 e8 e9 e10 hl1 hl2 hy1
  rintro F' H' ⟨i, k, t, w, kp, kn, hi, e14, ⟨e1, e2, e7, e8⟩, ⟨e11, e12, e13⟩, hI, ⟨hl1, hl2⟩, hS⟩
  have hx1 := hS.lk 8 rfl
  have r1 := fun o n => rdn_of hx1 o n
  by_cases hlt : i < n
  · have d1 : decide ((i : Int) < (n : Int)) = true := decide_eq_true (by omega)
    have p0 : (0 : Int) ≤ (i : Int) := by omega
    have p1 : (i : Int) < (n : Int) := by omega
    have wi : w64 ((i : Int) + 1) = ((i + 1 : Nat) : Int) := by rw [w64_eq (by omega) (by omega)]; omega
    obtain ⟨b1, o1, rfl, hrd⟩ := (hr.sub (hS.sb h (by simp))).at' hlt
    have hrd : rd H' b1 (o1 + i) = some (.bool (B i)) := hrd
    cases hB : B i
    · rw [hB] at hrd
      simp only [e14, e11, e12, e13, e1, e2, e7, e8, d1, p0, p1, hrd, Int.toNat_natCast, ↓DD, UU, ↓reduceIte, xA, xB, xC, xD, xE, xF, xG, xH, xI, xJ, xK, xL, xM, xN, xO, xP, xQ, ne_eq, eq_self]
      refine callT_of (c_gvstep hI.ik.wf (fun _ => by rw [hI.ik.es]; exact hI.of) hS.p6.p6.p6.p6.p3.p3) ?_
      rintro v H' ⟨rfl, kp2, hS⟩
      have hS := hS.p6.p6.p6.p6.p6.p4.p4.p4
      have hI2 := hI.gk m1 m4
      have hl1' : (k.step w).1.left ≤ 80 * m + 90 := by have := gk_left (w := w) (m := 80 * m + 90) hI.ik.wf (by omega); omega
      have hl2' := hl2
      have hwn2 : (((k.step w).2.n : Nat) : Int) = words (Gt.sh m).p (Gt.sh m).c (Gt.sh m).m := by rw [hI2.of.n]
      have hwn3 : (k.step w).2.n ≤ 2000 := by have : words (Gt.sh m).p (Gt.sh m).c (Gt.sh m).m = (N : Int) := hN; omega
      simp only [e14, e11, e12, e13, e1, e2, e7, e8, ↓DD, UU, ↓reduceIte, xA, xB, xC, xD, xE, xF, xG, xH, xI, xJ, xK, xL, xM, xN, xO, xP, xQ, ne_eq, eq_self]
      refine callT_of (c_rvfound (t := t) hS) ?_
      rintro v H' ⟨rfl, hS⟩
      have hx1 := hS.lk 8 rfl
      simp only [e14, e11, e12, e13, e1, e2, e7, e8, bkV, ↓DD, UU, ↓reduceIte, xA, xB, xC, xD, xE, xF, xG, xH, xI, xJ, xK, xL, xM, xN, xO, xP, xQ, ne_eq, eq_self]
      refine newB_intro fun q hq f7 f8 => ?_
      have nxq : (x = q) = False := f7 x (by rw [hx1]; rfl)
      have nqx : (q = x) = False := f8 x (by rw [hx1]; rfl)
      have hS := (hS.new f7 (.cells #[.bool t.bk.lg, .int .i64 t.bk.p, .int .i64 t.bk.i, .int .i64 t.bk.k, .int .i64 t.bk.n] 42 (0, 0))).tail
      simp only [e14, e11, e12, e13, e1, e2, e7, e8, nxq, nqx, Ev.upd_upd, ↓DD, UU, ↓reduceIte, xA, xB, xC, xD, xE, xF, xG, xH, xI, xJ, xK, xL, xM, xN, xO, xP, xQ, ne_eq, eq_self]
      refine draw_intro [(x, #[.int .i64 m, .int .i64 2, .int .i64 0], [])] (by simp only [hx1, nxq, nqx, ↓DD, UU, ↓reduceIte, xA, xB, xC, xD, xE, xF, xG, xH, xI, xJ, xK, xL, xM, xN, xO, xP, xQ, ne_eq, eq_self]) ?_
      have hx1 := hS.lk 8 rfl
      have r1 := fun o n => rdn_of hx1 o n
      cases hfd : t.fd
      · simp only [e14, e11, e12, e13, e1, e2, e7, e8, hx1, r1, hfd, ↓DD, UU, ↓reduceIte, xA, xB, xC, xD, xE, xF, xG, xH, xI, xJ, xK, xL, xM, xN, xO, xP, xQ, ne_eq, eq_self]
        refine callT_of (c_all (w := (k.step w).2) (by omega) hS.p4.p4) ?_
        rintro v H' ⟨a3, cap3, h3, rfl, hr3, hS⟩
        have hx1 := hS.lk 9 rfl
        have r1 := fun o n => rdn_of hx1 o n
        simp only [e14, e11, e12, e13, e1, e2, e7, e8, hx1, r1, ↓DD, UU, ↓reduceIte, xA, xB, xC, xD, xE, xF, xG, xH, xI, xJ, xK, xL, xM, xN, xO, xP, xQ, ne_eq, eq_self]
        refine callT_of (c_soundV (sh := Gt.sh m) (Gt.may_ok m1 m4) hwn2 hr3 (fun i _ => hI2.of.u i) hS) ?_
        rintro v H' ⟨sb, rfl, hsb, hS⟩
        have hsb := hsb.2 (hI2.bs.snd (Gt.may_ok m1 m4))
        subst hsb
        have hx1 := hS.lk 9 rfl
        have hS := hS.tail.p4.p4.p4
        simp only [e14, e11, e12, e13, e1, e2, e7, e8, hx1, wrap_w64, wi, ↓DD, UU, ↓reduceIte, xA, xB, xC, xD, xE, xF, xG, xH, xI, xJ, xK, xL, xM, xN, xO, xP, xQ, ne_eq, eq_self]
        exact ⟨⟨i + 1, (k.step w).1, t, (k.step w).2, kp2, kn, hlt, by simp [gt], ⟨by simp [gt, e1], by simp [gt, e2], by simp [gt, e7], by simp [gt, e8]⟩, ⟨by simp [gt, e11], by simp [gt, e12], by simp [gt, e13]⟩, hI2, ⟨hl1', hl2'⟩, hS⟩, by simp [gt, iv, e14]; omega⟩
      · have hgv : (k.step w).1.gv = true := by
          cases hg : (k.step w).1.gv
          · have := hI2.nf m1 m4 hg
            rw [hfd] at this; cases this
          · rfl
        simp only [e14, e11, e12, e13, e1, e2, e7, e8, hx1, r1, hfd, ↓DD, UU, ↓reduceIte, xA, xB, xC, xD, xE, xF, xG, xH, xI, xJ, xK, xL, xM, xN, xO, xP, xQ, ne_eq, eq_self]
        refine callT_of (c_gvgave hS.p5) ?_
        rintro v H' ⟨rfl, hS⟩
        have hS := hS.r5
        have hx1 := hS.lk 8 rfl
        have r1 := fun o n => rdn_of hx1 o n
        simp only [e14, e11, e12, e13, e1, e2, e7, e8, hx1, r1, hgv, ↓DD, UU, ↓reduceIte, xA, xB, xC, xD, xE, xF, xG, xH, xI, xJ, xK, xL, xM, xN, xO, xP, xQ, ne_eq, eq_self]
        refine callT_of (c_all (w := (k.step w).2) (by omega) hS.p4.p4) ?_
        rintro v H' ⟨a3, cap3, h3, rfl, hr3, hS⟩
        have hx1 := hS.lk 9 rfl
        have r1 := fun o n => rdn_of hx1 o n
        simp only [e14, e11, e12, e13, e1, e2, e7, e8, hx1, r1, ↓DD, UU, ↓reduceIte, xA, xB, xC, xD, xE, xF, xG, xH, xI, xJ, xK, xL, xM, xN, xO, xP, xQ, ne_eq, eq_self]
        refine callT_of (c_soundV (sh := Gt.sh m) (Gt.may_ok m1 m4) hwn2 hr3 (fun i _ => hI2.of.u i) hS) ?_
        rintro v H' ⟨sb, rfl, hsb, hS⟩
        have hsb := hsb.2 (hI2.bs.snd (Gt.may_ok m1 m4))
        subst hsb
        have hx1 := hS.lk 9 rfl
        have hS := hS.tail.p4.p4.p4
        simp only [e14, e11, e12, e13, e1, e2, e7, e8, hx1, wrap_w64, wi, ↓DD, UU, ↓reduceIte, xA, xB, xC, xD, xE, xF, xG, xH, xI, xJ, xK, xL, xM, xN, xO, xP, xQ, ne_eq, eq_self]
        exact ⟨⟨i + 1, (k.step w).1, t, (k.step w).2, kp2, kn, hlt, by simp [gt], ⟨by simp [gt, e1], by simp [gt, e2], by simp [gt, e7], by simp [gt, e8]⟩, ⟨by simp [gt, e11], by simp [gt, e12], by simp [gt, e13]⟩, hI2, ⟨hl1', hl2'⟩, hS⟩, by simp [gt, iv, e14]; omega⟩
    · rw [hB] at hrd
      simp only [e14, e11, e12, e13, e1, e2, e7, e8, d1, p0, p1, hrd, Int.toNat_natCast, ↓DD, UU, ↓reduceIte, xA, xB, xC, xD, xE, xF, xG, xH, xI, xJ, xK, xL, xM, xN, xO, xP, xQ, ne_eq, eq_self]
      have wf := hI.it.wf
      have hsh : t.dn = false → w.of t.shp := fun hd => by
        have ho := wf.2
        cases t with
        | sk q => show w.of q.s; rw [ho.1]; exact hI.of
        | rn q => show w.of q.s; rw [ho.1]; exact hI.of
        | no => cases hd
      refine callT_of (c_rvstep wf.1 hsh hS) ?_
      rintro v H' ⟨rfl, kn2, hS⟩
      have hI2 := hI.tk
      have hl1' := hl1
      have hl2' : (t.step w).1.left ≤ 80 * m + 90 := by have := Rv.left_step (w := w) (m := 80 * m + 90) wf.1 (by omega); omega
      have hwn2 : (((t.step w).2.n : Nat) : Int) = words (Gt.sh m).p (Gt.sh m).c (Gt.sh m).m := by rw [hI2.of.n]
      have hwn3 : (t.step w).2.n ≤ 2000 := by have : words (Gt.sh m).p (Gt.sh m).c (Gt.sh m).m = (N : Int) := hN; omega
      simp only [e14, e11, e12, e13, e1, e2, e7, e8, ↓DD, UU, ↓reduceIte, xA, xB, xC, xD, xE, xF, xG, xH, xI, xJ, xK, xL, xM, xN, xO, xP, xQ, ne_eq, eq_self]
      refine callT_of (c_rvfound (t := (t.step w).1) hS) ?_
      rintro v H' ⟨rfl, hS⟩
      have hx1 := hS.lk 8 rfl
      simp only [e14, e11, e12, e13, e1, e2, e7, e8, bkV, ↓DD, UU, ↓reduceIte, xA, xB, xC, xD, xE, xF, xG, xH, xI, xJ, xK, xL, xM, xN, xO, xP, xQ, ne_eq, eq_self]
      refine newB_intro fun q hq f7 f8 => ?_
      have nxq : (x = q) = False := f7 x (by rw [hx1]; rfl)
      have nqx : (q = x) = False := f8 x (by rw [hx1]; rfl)
      have hS := (hS.new f7 (.cells #[.bool (t.step w).1.bk.lg, .int .i64 (t.step w).1.bk.p, .int .i64 (t.step w).1.bk.i, .int .i64 (t.step w).1.bk.k, .int .i64 (t.step w).1.bk.n] 42 (0, 0))).tail
      simp only [e14, e11, e12, e13, e1, e2, e7, e8, nxq, nqx, Ev.upd_upd, ↓DD, UU, ↓reduceIte, xA, xB, xC, xD, xE, xF, xG, xH, xI, xJ, xK, xL, xM, xN, xO, xP, xQ, ne_eq, eq_self]
      refine draw_intro [(x, #[.int .i64 m, .int .i64 2, .int .i64 0], [])] (by simp only [hx1, nxq, nqx, ↓DD, UU, ↓reduceIte, xA, xB, xC, xD, xE, xF, xG, xH, xI, xJ, xK, xL, xM, xN, xO, xP, xQ, ne_eq, eq_self]) ?_
      have hx1 := hS.lk 8 rfl
      have r1 := fun o n => rdn_of hx1 o n
      cases hfd : (t.step w).1.fd
      · simp only [e14, e11, e12, e13, e1, e2, e7, e8, hx1, r1, hfd, ↓DD, UU, ↓reduceIte, xA, xB, xC, xD, xE, xF, xG, xH, xI, xJ, xK, xL, xM, xN, xO, xP, xQ, ne_eq, eq_self]
        refine callT_of (c_all (w := (t.step w).2) (by omega) hS.p4.p4) ?_
        rintro v H' ⟨a3, cap3, h3, rfl, hr3, hS⟩
        have hx1 := hS.lk 9 rfl
        have r1 := fun o n => rdn_of hx1 o n
        simp only [e14, e11, e12, e13, e1, e2, e7, e8, hx1, r1, ↓DD, UU, ↓reduceIte, xA, xB, xC, xD, xE, xF, xG, xH, xI, xJ, xK, xL, xM, xN, xO, xP, xQ, ne_eq, eq_self]
        refine callT_of (c_soundV (sh := Gt.sh m) (Gt.may_ok m1 m4) hwn2 hr3 (fun i _ => hI2.of.u i) hS) ?_
        rintro v H' ⟨sb, rfl, hsb, hS⟩
        have hsb := hsb.2 (hI2.bs.snd (Gt.may_ok m1 m4))
        subst hsb
        have hx1 := hS.lk 9 rfl
        have hS := hS.tail.p4.p4.p4
        simp only [e14, e11, e12, e13, e1, e2, e7, e8, hx1, wrap_w64, wi, ↓DD, UU, ↓reduceIte, xA, xB, xC, xD, xE, xF, xG, xH, xI, xJ, xK, xL, xM, xN, xO, xP, xQ, ne_eq, eq_self]
        exact ⟨⟨i + 1, k, (t.step w).1, (t.step w).2, kp, kn2, hlt, by simp [gt], ⟨by simp [gt, e1], by simp [gt, e2], by simp [gt, e7], by simp [gt, e8]⟩, ⟨by simp [gt, e11], by simp [gt, e12], by simp [gt, e13]⟩, hI2, ⟨hl1', hl2'⟩, hS⟩, by simp [gt, iv, e14]; omega⟩
      · have hgv : k.gv = true := by
          cases hg : k.gv
          · have := hI2.nf m1 m4 hg
            rw [hfd] at this; cases this
          · rfl
        simp only [e14, e11, e12, e13, e1, e2, e7, e8, hx1, r1, hfd, ↓DD, UU, ↓reduceIte, xA, xB, xC, xD, xE, xF, xG, xH, xI, xJ, xK, xL, xM, xN, xO, xP, xQ, ne_eq, eq_self]
        refine callT_of (c_gvgave hS.p5) ?_
        rintro v H' ⟨rfl, hS⟩
        have hS := hS.r5
        have hx1 := hS.lk 8 rfl
        have r1 := fun o n => rdn_of hx1 o n
        simp only [e14, e11, e12, e13, e1, e2, e7, e8, hx1, r1, hgv, ↓DD, UU, ↓reduceIte, xA, xB, xC, xD, xE, xF, xG, xH, xI, xJ, xK, xL, xM, xN, xO, xP, xQ, ne_eq, eq_self]
        refine callT_of (c_all (w := (t.step w).2) (by omega) hS.p4.p4) ?_
        rintro v H' ⟨a3, cap3, h3, rfl, hr3, hS⟩
        have hx1 := hS.lk 9 rfl
        have r1 := fun o n => rdn_of hx1 o n
        simp only [e14, e11, e12, e13, e1, e2, e7, e8, hx1, r1, ↓DD, UU, ↓reduceIte, xA, xB, xC, xD, xE, xF, xG, xH, xI, xJ, xK, xL, xM, xN, xO, xP, xQ, ne_eq, eq_self]
        refine callT_of (c_soundV (sh := Gt.sh m) (Gt.may_ok m1 m4) hwn2 hr3 (fun i _ => hI2.of.u i) hS) ?_
        rintro v H' ⟨sb, rfl, hsb, hS⟩
        have hsb := hsb.2 (hI2.bs.snd (Gt.may_ok m1 m4))
        subst hsb
        have hx1 := hS.lk 9 rfl
        have hS := hS.tail.p4.p4.p4
        simp only [e14, e11, e12, e13, e1, e2, e7, e8, hx1, wrap_w64, wi, ↓DD, UU, ↓reduceIte, xA, xB, xC, xD, xE, xF, xG, xH, xI, xJ, xK, xL, xM, xN, xO, xP, xQ, ne_eq, eq_self]
        exact ⟨⟨i + 1, k, (t.step w).1, (t.step w).2, kp, kn2, hlt, by simp [gt], ⟨by simp [gt, e1], by simp [gt, e2], by simp [gt, e7], by simp [gt, e8]⟩, ⟨by simp [gt, e11], by simp [gt, e12], by simp [gt, e13]⟩, hI2, ⟨hl1', hl2'⟩, hS⟩, by simp [gt, iv, e14]; omega⟩
  have d1 : decide ((i : Int) < (n : Int)) = false := decide_eq_false (by omega)
  simp only [e14, e11, e12, e13, e1, e2, e7, e8, d1, ↓DD, UU, ↓reduceIte, xA, xB, xC, xD, xE, xF, xG, xH, xI, xJ, xK, xL, xM, xN, xO, xP, xQ, ne_eq, eq_self]
  have w8 : w64 (80 * m) = 80 * m := w64_eq (by omega) (by omega)
  have w9 : w64 (80 * m + 90) = 80 * m + 90 := w64_eq (by omega) (by omega)
  refine loop_intro (gkD m g1 n cap a x b kg kr k2 s (sg y (.cells (urow N (Gt.one m)) 29 (0, 0)) :: sg x (.cells #[.int .i64 m, .int .i64 2, .int .i64 0] 26 (0, 0)) :: h :: l)) (fun F' _ => (80 * m + 90 - iv (gt F' 17)).toNat)
    ⟨0, k, t, w, kp, kn, by omega, by omega, by simp [gt], ⟨by simp [gt, e1], by simp [gt, e2], by simp [gt, e7], by simp [gt, e8]⟩, ⟨by simp [gt, e11], by simp [gt, e12], by simp [gt, e13]⟩, hI, ⟨by omega, by omega⟩, hS⟩ ?_
  clear hS hI hx1 r1 e1 e2 e7 e8 e11 e12 e13 e14 hl1 hl2 hi hlt d1 d2
  rintro F' H' ⟨i, k, t, w, kp, kn, i0, i1, e17, ⟨e1, e2, e7, e8⟩, ⟨e11, e12, e13⟩, hI, ⟨hl1, hl2⟩, hS⟩
  have wi : w64 (i + 1) = i + 1 := w64_eq (by omega) (by omega)
  by_cases hlt : i < 80 * m + 90
  · have d1 : decide (i < 80 * m + 90) = true := decide_eq_true hlt
    simp only [e17, e11, e12, e13, e1, e2, e7, e8, wrap_w64, w8, w9, d1, ↓DD, UU, ↓reduceIte, xA, xB, xC, xD, xE, xF, xG, xH, xI, xJ, xK, xL, xM, xN, xO, xP, xQ, ne_eq, eq_self]
    refine callT_of (c_gvstep hI.ik.wf (fun _ => by rw [hI.ik.es]; exact hI.of) hS.p6.p6.p6.p6.p3.p3) ?_
    rintro v H' ⟨rfl, kp2, hS⟩
    have hS := hS.p6.p6.p6.p6.p6.p4.p4.p4
    have hl1' : (k.step w).1.left ≤ max 0 (80 * m + 90 - i - 1) := gk_left hI.ik.wf hl1
    have hI := hI.gk m1 m4
    have wf := hI.it.wf
    have hsh : t.dn = false → (k.step w).2.of t.shp := fun hd => by
      have ho := wf.2
      have hof := hI.of
      cases t with
      | sk q => show (k.step w).2.of q.s; rw [ho.1]; exact hof
      | rn q => show (k.step w).2.of q.s; rw [ho.1]; exact hof
      | no => cases hd
    simp only [e17, e11, e12, e13, e1, e2, e7, e8, ↓DD, UU, ↓reduceIte, xA, xB, xC, xD, xE, xF, xG, xH, xI, xJ, xK, xL, xM, xN, xO, xP, xQ, ne_eq, eq_self]
    refine callT_of (c_rvstep wf.1 hsh hS) ?_
    rintro v H' ⟨rfl, kn2, hS⟩
    have hl2' : (t.step (k.step w).2).1.left ≤ max 0 (80 * m + 90 - i - 1) := Rv.left_step wf.1 hl2
    have hI := hI.tk
    simp only [e17, e11, e12, e13, e1, e2, e7, e8, wrap_w64, wi, ↓DD, UU, ↓reduceIte, xA, xB, xC, xD, xE, xF, xG, xH, xI, xJ, xK, xL, xM, xN, xO, xP, xQ, ne_eq, eq_self]
    exact ⟨⟨i + 1, _, _, _, kp2, kn2, by omega, by omega, by simp [gt], ⟨by simp [gt, e1], by simp [gt, e2], by simp [gt, e7], by simp [gt, e8]⟩, ⟨by simp [gt, e11], by simp [gt, e12], by simp [gt, e13]⟩, hI, ⟨by omega, by omega⟩, hS⟩, by simp [gt, iv, e17]; omega⟩
  have d1 : decide (i < 80 * m + 90) = false := decide_eq_false hlt
  have hkd : k.dn = true := Gv.left_dn hI.ik.wf (by have := Gv.left_nn hI.ik.wf; omega)
  have htd : t.dn = true := Rv.left_dn hI.it.wf.1 (by omega)
  have hgv : k.gv = true := by
    cases hg : k.gv
    · have := (hI.ng hg).2.2.1
      rw [hkd] at this; cases this
    · rfl
  simp only [e17, e11, e12, e13, e1, e2, e7, e8, wrap_w64, w8, w9, d1, ↓DD, UU, ↓reduceIte, xA, xB, xC, xD, xE, xF, xG, xH, xI, xJ, xK, xL, xM, xN, xO, xP, xQ, ne_eq, eq_self]
  refine callT_of (c_rvfound (t := t) hS) ?_
  rintro v H' ⟨rfl, hS⟩
  have hx1 := hS.lk 8 rfl
  simp only [e17, e11, e12, e13, e1, e2, e7, e8, bkV, ↓DD, UU, ↓reduceIte, xA, xB, xC, xD, xE, xF, xG, xH, xI, xJ, xK, xL, xM, xN, xO, xP, xQ, ne_eq, eq_self]
  refine newB_intro fun q hq f7 f8 => ?_
  have nxq : (x = q) = False := f7 x (by rw [hx1]; rfl)
  have nqx : (q = x) = False := f8 x (by rw [hx1]; rfl)
  have hS := (hS.new f7 (.cells #[.bool t.bk.lg, .int .i64 t.bk.p, .int .i64 t.bk.i, .int .i64 t.bk.k, .int .i64 t.bk.n] 42 (0, 0)))
  simp only [e17, e11, e12, e13, e1, e2, e7, e8, nxq, nqx, Ev.upd_upd, ↓DD, UU, ↓reduceIte, xA, xB, xC, xD, xE, xF, xG, xH, xI, xJ, xK, xL, xM, xN, xO, xP, xQ, ne_eq, eq_self]
  have hnW : w.n ≤ 2000 := by have := hI.of.n; have h9 : words (Gt.sh m).p (Gt.sh m).c (Gt.sh m).m = (N : Int) := hN; omega
  have hmS := Gt.may_ok m1 m4
  have haud := hI.audit m1 m4 hgv hkd htd m.toNat (by omega)
  rw [show ((m.toNat : Nat) : Int) = m by omega, Gt.T_all hI.it htd] at haud
  have hx1 := hS.lk 9 rfl
  have r1 := fun o n => rdn_of hx1 o n
  have audC : ∀ (W : World) (a3 : Option Addr) (cap3 : Nat) (h3 : Hp) (H3 : Hp) (L : List Hp), RowU h3 a3 w.n w.ws → Sep (h3 :: L) H3 → CallP Tryz.prog W 17 #[.agg #[.int .i64 m, .int .i64 2, .int .i64 0], .slice a3 w.n cap3] H3 fun v H' => v = cnV ⟨64 * m - (if t.fd then t.bk.len else 0), 0, 0, (if t.fd then t.bk.len else 0)⟩ ∧ Sep (h3 :: L) H' := fun W a3 cap3 h3 H3 L hr3 h3S => by
    have := c_audit (W := W) (cap := cap3) (sh := Gt.sh m) (liv := fun _ => false) (c_lives0 hmS (by rw [hI.of.n]) hr3 fun j hj => hI.st j hj) hmS (by rw [hI.of.n]) hr3 (fun i _ => hI.of.u i) h3S
    rw [show (Gt.sh m).p.toNat = m.toNat from rfl, haud] at this
    exact this
  obtain ⟨cn, hcn⟩ : ∃ cn : Cn, cn = ⟨64 * m - (if t.fd then t.bk.len else 0), 0, 0, (if t.fd then t.bk.len else 0)⟩ := ⟨_, rfl⟩
  rw [← hcn] at audC
  refine draw_cut [(x, #[.int .i64 m, .int .i64 2, .int .i64 0], [])] (gkE m x b kg kr q s t.fd t.bk cn (rvB kr k2 t :: rvA k2 kn t :: rvN kn t :: wB b s w :: wR s w :: gvB kg kp k :: puO kp k.put :: sg y (.cells (urow N (Gt.one m)) 29 (0, 0)) :: sg x (.cells #[.int .i64 m, .int .i64 2, .int .i64 0] 26 (0, 0)) :: h :: l)) (by simp only [hx1, nxq, nqx, ↓DD, UU, ↓reduceIte, xA, xB, xC, xD, xE, xF, xG, xH, xI, xJ, xK, xL, xM, xN, xO, xP, xQ, ne_eq, eq_self]) ?_ ?_
  · simp only [e17, e11, e12, e13, e1, e2, e7, e8, hx1, r1, ↓e_dalt2, ↓DD, UU, ↓reduceIte, xA, xB, xC, xD, xE, xF, xG, xH, xI, xJ, xK, xL, xM, xN, xO, xP, xQ, ne_eq, eq_self]
    refine ⟨?_, ?_⟩
    · refine callT_of (c_all (w := w) hnW hS.p5.p5) ?_
      rintro v H' ⟨a3, cap3, h3, rfl, hr3, hS⟩
      have hx1 := hS.lk 10 rfl
      have r1 := fun o n => rdn_of hx1 o n
      simp only [e17, e11, e12, e13, e1, e2, e7, e8, hx1, r1, ↓e_dalt2, ↓DD, UU, ↓reduceIte, xA, xB, xC, xD, xE, xF, xG, xH, xI, xJ, xK, xL, xM, xN, xO, xP, xQ, ne_eq, eq_self]
      refine ⟨?_, ?_⟩
      · refine callT_of (audC _ _ _ _ _ _ hr3 hS) ?_
        rintro v H' ⟨rfl, hS⟩
        have hx1 := hS.lk 10 rfl
        simp only [e17, e11, e12, e13, e1, e2, e7, e8, hx1, cnV, ↓DD, UU, ↓reduceIte, xA, xB, xC, xD, xE, xF, xG, xH, xI, xJ, xK, xL, xM, xN, xO, xP, xQ, ne_eq, eq_self]
        refine newB_intro fun z hz f9 f0 => ?_
        have nxz : (x = z) = False := f9 x (by rw [hx1]; rfl)
        have nzx : (z = x) = False := f0 x (by rw [hx1]; rfl)
        have hS := hS.tail.p5.p5.p5.p5.new f9 (.cells (auC cn) 48 (0, 0))
        simp only [e17, e11, e12, e13, e1, e2, e7, e8, hx1, nxz, nzx, Ev.upd_upd, ↓DD, UU, ↓reduceIte, xA, xB, xC, xD, xE, xF, xG, xH, xI, xJ, xK, xL, xM, xN, xO, xP, xQ, ne_eq, eq_self]
        exact ⟨by simp [gt, e7], by simp [gt, e8], by simp [gt, e11], by simp [gt, e12], by simp [gt, e13], by simp [gt], by simp [gt], z, by simp [gt], hS⟩
      · refine newB_intro fun z hz f9 f0 => ?_
        have nxz : (x = z) = False := f9 x (by rw [hx1]; rfl)
        have nzx : (z = x) = False := f0 x (by rw [hx1]; rfl)
        have hS := hS.new f9 (.cells (auC Cn.z) 48 (0, 0))
        simp only [e17, e11, e12, e13, e1, e2, e7, e8, hx1, nxz, nzx, Ev.upd_upd, ↓DD, UU, ↓reduceIte, xA, xB, xC, xD, xE, xF, xG, xH, xI, xJ, xK, xL, xM, xN, xO, xP, xQ, ne_eq, eq_self]
        refine callT_of (audC _ _ _ _ _ _ hr3 hS.p1) ?_
        rintro v H' ⟨rfl, hS⟩
        have hx1 := hS.lk 11 rfl
        have hz1 := hS.lk 1 rfl
        simp only [auC, Cn.z] at hz1
        have hS := (hS.p1.set (.cells (auC cn) 48 (0, 0))).p1.tail.p6.p6.p6.p6.p4
        simp only [e17, e11, e12, e13, e1, e2, e7, e8, hx1, hz1, nxz, nzx, cnV, Ev.upd_upd, ↓DD, UU, ↓reduceIte, xA, xB, xC, xD, xE, xF, xG, xH, xI, xJ, xK, xL, xM, xN, xO, xP, xQ, ne_eq, eq_self]
        exact ⟨by simp [gt, e7], by simp [gt, e8], by simp [gt, e11], by simp [gt, e12], by simp [gt, e13], by simp [gt], by simp [gt], z, by simp [gt], hS⟩
    · refine newB_intro fun z hz f9 f0 => ?_
      have nxz : (x = z) = False := f9 x (by rw [hx1]; rfl)
      have nzx : (z = x) = False := f0 x (by rw [hx1]; rfl)
      have hS := hS.new f9 (.cells (auC Cn.z) 48 (0, 0))
      simp only [e17, e11, e12, e13, e1, e2, e7, e8, hx1, nxz, nzx, nxq, nqx, Ev.upd_upd, ↓DD, UU, ↓reduceIte, xA, xB, xC, xD, xE, xF, xG, xH, xI, xJ, xK, xL, xM, xN, xO, xP, xQ, ne_eq, eq_self]
      refine callT_of (c_all (w := w) hnW hS.p6.p6) ?_
      rintro v H' ⟨a3, cap3, h3, rfl, hr3, hS⟩
      have hx1 := hS.lk 11 rfl
      simp only [e17, e11, e12, e13, e1, e2, e7, e8, hx1, nxz, nzx, Ev.upd_upd, ↓DD, UU, ↓reduceIte, xA, xB, xC, xD, xE, xF, xG, xH, xI, xJ, xK, xL, xM, xN, xO, xP, xQ, ne_eq, eq_self]
      refine callT_of (audC _ _ _ _ _ _ hr3 hS) ?_
      rintro v H' ⟨rfl, hS⟩
      have hx1 := hS.lk 11 rfl
      have hz1 := hS.lk 3 rfl
      simp only [auC, Cn.z] at hz1
      have hS := (hS.tail.p2.set (.cells (auC cn) 48 (0, 0))).p6.p6.p6.p6.p4
      simp only [e17, e11, e12, e13, e1, e2, e7, e8, hx1, hz1, nxz, nzx, cnV, Ev.upd_upd, ↓DD, UU, ↓reduceIte, xA, xB, xC, xD, xE, xF, xG, xH, xI, xJ, xK, xL, xM, xN, xO, xP, xQ, ne_eq, eq_self]
      exact ⟨by simp [gt, e7], by simp [gt, e8], by simp [gt, e11], by simp [gt, e12], by simp [gt, e13], by simp [gt], by simp [gt], z, by simp [gt], hS⟩
  clear hS hx1 r1 e1 e2 e7 e8 e11 e12 e13 e17
  rintro F' H' ⟨e7, e8, e11, e12, e13, e18, e19, z, e20, hS⟩
  have hx1 := hS.lk 10 rfl
  have hz1 := hS.look
  have nzx := hS.neq 0 10 (by decide) rfl rfl
  have nxz := hS.qen 0 10 (by decide) rfl rfl
  have r1 := fun o n => rdn_of hx1 o n
  have rz := fun o => rd_of hz1 o
  simp only [e7, e8, e11, e12, e13, e18, e19, e20, ↓DD, UU, ↓reduceIte, xA, xB, xC, xD, xE, xF, xG, xH, xI, xJ, xK, xL, xM, xN, xO, xP, xQ, ne_eq, eq_self]
  refine draw_intro [(x, #[.int .i64 m, .int .i64 2, .int .i64 0], []), (z, auC cn, [])] (by simp only [hx1, hz1, ↓DD, UU, ↓reduceIte, xA, xB, xC, xD, xE, xF, xG, xH, xI, xJ, xK, xL, xM, xN, xO, xP, xQ, ne_eq, eq_self]) ?_
  simp only [e7, e8, e11, e12, e13, e18, e19, e20, hx1, hz1, r1, rz, nxz, nzx, ↓DD, UU, ↓reduceIte, xA, xB, xC, xD, xE, xF, xG, xH, xI, xJ, xK, xL, xM, xN, xO, xP, xQ, ne_eq, eq_self]
  refine callT_of (c_gvdone hS.p7) ?_
  rintro v H' ⟨rfl, hS⟩
  have hx1 := hS.lk 10 rfl
  have hz1 := hS.lk 1 rfl
  simp only [e7, e8, e11, e12, e13, e18, e19, e20, hx1, hz1, hkd, nxz, nzx, ↓DD, UU, ↓reduceIte, xA, xB, xC, xD, xE, xF, xG, xH, xI, xJ, xK, xL, xM, xN, xO, xP, xQ, ne_eq, eq_self]
  refine callT_of (c_gvgave hS) ?_
  rintro v H' ⟨rfl, hS⟩
  have hx1 := hS.lk 10 rfl
  have hz1 := hS.lk 1 rfl
  simp only [e7, e8, e11, e12, e13, e18, e19, e20, hx1, hz1, hgv, nxz, nzx, ↓DD, UU, ↓reduceIte, xA, xB, xC, xD, xE, xF, xG, xH, xI, xJ, xK, xL, xM, xN, xO, xP, xQ, ne_eq, eq_self]
  refine callT_of (c_rvdone (t := t) hS.p5.p5.p5) ?_
  rintro v H' ⟨rfl, hS⟩
  have hx1 := hS.lk 10 rfl
  have hz1 := hS.lk 4 rfl
  have r1 := fun o n => rdn_of hx1 o n
  simp only [e7, e8, e11, e12, e13, e18, e19, e20, hx1, hz1, r1, htd, nxz, nzx, ↓DD, UU, ↓reduceIte, xA, xB, xC, xD, xE, xF, xG, xH, xI, xJ, xK, xL, xM, xN, xO, xP, xQ, ne_eq, eq_self]
  refine callT_of (c_all (w := w) hnW hS.p7.p7) ?_
  rintro v H' ⟨a3, cap3, h3, rfl, hr3, hS⟩
  have hx1 := hS.lk 11 rfl
  have r1 := fun o n => rdn_of hx1 o n
  have hz1 := hS.lk 7 rfl
  simp only [e7, e8, e11, e12, e13, e18, e19, e20, hx1, hz1, r1, nxz, nzx, ↓DD, UU, ↓reduceIte, xA, xB, xC, xD, xE, xF, xG, xH, xI, xJ, xK, xL, xM, xN, xO, xP, xQ, ne_eq, eq_self]
  refine callT_of (c_soundV (sh := Gt.sh m) hmS (by rw [hI.of.n]) hr3 (fun i _ => hI.of.u i) hS) ?_
  rintro v H' ⟨sb, rfl, hsb, hS⟩
  have hsb := hsb.2 (hI.bs.snd hmS)
  subst hsb
  have hx1 := hS.lk 11 rfl
  have hz1 := hS.lk 7 rfl
  have rz := fun o => rd_of hz1 o
  have hta : (cn.ta != 0) = false := by rw [hcn]; rfl
  simp only [e7, e8, e11, e12, e13, e18, e19, e20, hx1, hz1, rz, auC, hta, nxz, nzx, ↓DD, UU, ↓reduceIte, xA, xB, xC, xD, xE, xF, xG, xH, xI, xJ, xK, xL, xM, xN, xO, xP, xQ, ne_eq, eq_self]
  have hbk : t.fd = true → 0 ≤ t.bk.len ∧ t.bk.len ≤ 512 ∧ 0 ≤ t.bk.n ∧ t.bk.n ≤ 64 := fun hf => by
    have hit := hI.it
    cases t with
    | no => cases hf
    | sk q =>
      have hf : q.fd = true := hf
      have e : (Rv.sk q).bk = ⟨false, q.pg, q.sl, q.k, 0⟩ := by unfold Rv.bk; simp only [hf, if_true]
      rw [e]
      have := Cn.size_bd q.k
      show 0 ≤ size q.k ∧ size q.k ≤ 512 ∧ (0 : Int) ≤ 0 ∧ (0 : Int) ≤ 64
      omega
    | rn q =>
      have hf : q.fd = true := hf
      have e : (Rv.rn q).bk = ⟨true, q.hd, 0, 0, q.n⟩ := by unfold Rv.bk; simp only [hf, if_true]
      rw [e]
      obtain ⟨-, n1, n8, -⟩ := Rn.In.fb hit hf
      show 0 ≤ q.n * 64 ∧ q.n * 64 ≤ 512 ∧ 0 ≤ q.n ∧ q.n ≤ 64
      omega
  have hq1 := hS.lk 8 rfl
  have rq := fun o n => rdn_of hq1 o n
  have wm4 : w64 (m * 64) = m * 64 := w64_eq (by omega) (by omega)
  cases hfd : t.fd
  · have g1 : (cn.lo == 0) = true := by rw [hcn, hfd]; rfl
    have wz : w64 (m * 64 - 0) = m * 64 - 0 := w64_eq (by omega) (by omega)
    have g2 : (cn.fr == m * 64 - 0) = true := by rw [hcn, hfd]; simp; omega
    have g3 : (cn.fr == m * 64) = true := by rw [hcn, hfd]; simp; omega
    simp only [e7, e8, e11, e12, e13, e18, e19, e20, hz1, rz, auC, g1, g2, g3, wrap_w64, wm4, wz, Int.sub_zero, ↓DD, UU, ↓reduceIte, xA, xB, xC, xD, xE, xF, xG, xH, xI, xJ, xK, xL, xM, xN, xO, xP, xQ, ne_eq, eq_self]
    exact hS.tail.tail.tail.tail.tail.tail.tail.tail.tail.tail.tail.tail
  · obtain ⟨b1, b2, b3, b4⟩ := hbk hfd
    have wz : w64 (m * 64 - t.bk.len) = m * 64 - t.bk.len := w64_eq (by omega) (by omega)
    have g1 : (cn.lo == t.bk.len) = true := by rw [hcn, hfd]; simp
    have g2 : (cn.fr == m * 64 - t.bk.len) = true := by rw [hcn, hfd]; simp; omega
    simp only [e7, e8, e11, e12, e13, e18, e19, e20, hq1, rq, ↓DD, UU, ↓reduceIte, xA, xB, xC, xD, xE, xF, xG, xH, xI, xJ, xK, xL, xM, xN, xO, xP, xQ, ne_eq, eq_self]
    refine callT_of (c_bklen (B := t.bk) ⟨b3, b4⟩ hS) ?_
    rintro v H' ⟨rfl, hS⟩
    have hz1 := hS.lk 7 rfl
    have rz := fun o => rd_of hz1 o
    simp only [e7, e8, e11, e12, e13, e18, e19, e20, hz1, rz, auC, g1, g2, wrap_w64, wm4, wz, ↓DD, UU, ↓reduceIte, xA, xB, xC, xD, xE, xF, xG, xH, xI, xJ, xK, xL, xM, xN, xO, xP, xQ, ne_eq, eq_self]
    exact hS.tail.tail.tail.tail.tail.tail.tail.tail.tail.tail.tail.tail
end
theorem l_givetakes {W : World} {n cap : Nat} {a : Option Addr} {B : Nat → Bool} (g0 : Int) (h0 : 0 ≤ g0 ∧ g0 ≤ 255) (g1 : Int) (h1 : 0 ≤ g1 ∧ g1 ≤ 65535) (hn : n ≤ 9223372036854775807) (hr : RowV (memOf W) a n (fun i => .bool (B i))) :
    CallP Tryz.prog W 3 #[.int .u8 g0, .int .u16 g1, .slice a n cap] (memOf W) fun v H' => v = .bool true ∧ Sub (memOf W) H' :=
  (c_givetakes h0.1 h0.2 h1.1 h1.2 hr hn (Sep.one _)).mono fun v H' ⟨h1, h2⟩ => ⟨h1, h2.head⟩
end Go.Proofs.YtofcocbgamdghaaGreat
