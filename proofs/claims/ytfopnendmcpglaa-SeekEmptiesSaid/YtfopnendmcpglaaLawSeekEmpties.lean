/-
  SeekEmpties, walked: in a heap bound to other classes a slot is found just where a page is open as a whole. Conditions: none.
-/
import Derived.Test.YtfopnendmcpglaaCodeAllotmentlaw13
import Derived.Test.YtfopnendmcpglaaSeekK
import Derived.Test.YtfopnendmcpglaaMaEmpties
import Derived.Test.YtfopnendmcpglaaRowV
import Derived.Test.YtfopnendmcpglaaCut
set_option linter.unusedVariables false
set_option linter.unusedSectionVars false
set_option linter.unusedSimpArgs false
set_option maxRecDepth 8000
namespace Go.Proofs.Ytfopnendmcpglaa
open Go Go.Ev Go.Pl Go.Ma

/-- The pages' classes; which of them have a taken slot. -/
def seK (K : Int) (ks : Nat → Int) (q : Nat) : Int := (K + 1 + ks q % 3) % 4
def seF (m2 : Nat) (B : Nat → Bool) (q : Nat) : Bool := decide (q < m2) && B q
section
variable {W : World} {H h : Hp} {l : List Hp} {m cap m2 cap2 : Nat} {a a2 : Option Addr} {ks : Nat → Int} {B : Nat → Bool}
def seG (K F : Int) (m cap m2 cap2 N x y : Nat) (a a2 : Option Addr) (F' : Fr) : Prop := gt F' 0 = .slice a m cap ∧ gt F' 1 = .slice a2 m2 cap2 ∧ gt F' 2 = .int .i64 K ∧ gt F' 3 = .int .i64 F ∧ gt F' 9 = .pointer (some ⟨x, 0, none⟩) ∧ gt F' 10 = .slice (some ⟨y, 0, none⟩) N N
def seA (kq : Nat → Int) (fu : Nat → Bool) (K F : Int) (m cap m2 cap2 N x y : Nat) (a a2 : Option Addr) (L : List Hp) (F' : Fr) (H' : Hp) : Prop :=
  ∃ (p : Nat) (f : Nat → Int), p ≤ m ∧ gt F' 11 = .int .i64 (p : Int) ∧ seG K F m cap m2 cap2 N x y a a2 F' ∧ Em.LE m kq fu p f ∧ Sep (sg y (.cells (urow N f) 46 (0, 0)) :: L) H'
def seB (p : Nat) (kq : Nat → Int) (fu : Nat → Bool) (K F : Int) (m cap m2 cap2 N x y : Nat) (a a2 : Option Addr) (L : List Hp) (F' : Fr) (H' : Hp) : Prop :=
  ∃ (i : Nat) (f : Nat → Int), (i : Int) ≤ slots (kq p) ∧ gt F' 13 = .int .i64 (i : Int) ∧ gt F' 12 = .int .i64 (kq p) ∧ gt F' 11 = .int .i64 (p : Int) ∧ seG K F m cap m2 cap2 N x y a a2 F' ∧ Em.LJ m kq fu p i f ∧ Sep (sg y (.cells (urow N f) 46 (0, 0)) :: L) H'
def seC (ws0 : Nat → Int) (f0 K F : Int) (b k s m cap m2 cap2 N x y : Nat) (a a2 : Option Addr) (L : List Hp) (F' : Fr) (H' : Hp) : Prop :=
  ∃ (i kn : Nat) (t : Sk) (w : Wd), i ≤ 1000 ∧ gt F' 17 = .int .i64 (i : Int) ∧ gt F' 15 = .pointer (some ⟨b, 0, none⟩) ∧ gt F' 16 = .pointer (some ⟨k, 0, none⟩) ∧ seG K F m cap m2 cap2 N x y a a2 F' ∧
    Sa.Al ⟨m, 1, 0⟩ ws0 0 K f0 t w ∧ t.left ≤ max 0 ((1000 : Int) - (i : Int)) ∧ Sep (skB k kn t :: nwB kn t.nw :: wB b s w :: wR s w :: L) H'
def seW (m : Nat) (fu : Nat → Bool) (f0 : Int) (i : Nat) (want : Int) : Prop :=
  (want = -1 ∧ ∀ j : Int, (i : Int) ≤ j → j < m → fu ((f0 + j) % m).toNat = true) ∨ ∃ j : Int, (i : Int) ≤ j ∧ j < m ∧ want = (f0 + j) % m ∧ fu ((f0 + j) % m).toNat = false ∧ ∀ q : Int, (i : Int) ≤ q → q < j → fu ((f0 + q) % m).toNat = true
def seD (fu : Nat → Bool) (f0 K F : Int) (b k m cap m2 cap2 N x y : Nat) (a a2 : Option Addr) (L : List Hp) (F' : Fr) (H' : Hp) : Prop :=
  ∃ (i : Nat) (want : Int), i ≤ m ∧ gt F' 19 = .int .i64 ((i : Int) - 1) ∧ gt F' 18 = .int .i64 want ∧ gt F' 15 = .pointer (some ⟨b, 0, none⟩) ∧ gt F' 16 = .pointer (some ⟨k, 0, none⟩) ∧ seG K F m cap m2 cap2 N x y a a2 F' ∧ seW m fu f0 i want ∧ Sep L H'
def seE (ok : Bool) (want pg sl K F : Int) (b m cap m2 cap2 N x y : Nat) (a a2 : Option Addr) (L : List Hp) (F' : Fr) (H' : Hp) : Prop :=
  ∃ i : Nat, i ≤ N ∧ gt F' 24 = .int .i64 (i : Int) ∧ gt F' 18 = .int .i64 want ∧ gt F' 21 = .int .i64 pg ∧ gt F' 22 = .int .i64 sl ∧ gt F' 23 = .bool ok ∧ gt F' 15 = .pointer (some ⟨b, 0, none⟩) ∧ seG K F m cap m2 cap2 N x y a a2 F' ∧ Sep L H'
set_option maxHeartbeats 8000000 in
theorem c_empties {K F : Int} (hK : 0 ≤ K ∧ K ≤ 3) (hF : 0 ≤ F ∧ F ≤ 255) (hm : m ≤ 9223372036854775807) (hm2 : m2 ≤ 9223372036854775807) (hr : RowV h a m (fun i => .int .u8 (ks i))) (hks : ∀ i, i < m → 0 ≤ ks i ∧ ks i ≤ 255) (hr2 : RowV h a2 m2 (fun i => .bool (B i))) (hS : Sep (h :: l) H) :
    CallP Try.prog W 46 #[.slice a m cap, .slice a2 m2 cap2, .int .i64 K, .int .i64 F] H fun v H' => v = .bool true ∧ Sep (h :: l) H' := by
  refine CallP.of mixed Try.func46 tr46 (by show 4 ≤ _; decide) fun W _ => ?_
  by_cases h0 : m = 0
  · subst h0
    have g0 : (((0 : Nat) : Int) == 0) = true := rfl
    simp only [g0, ↓D0, ↓D1, ↓D2, ↓D3, ↓D4, ↓D5, ↓D6, ↓D7, ↓D8, ↓D9, ↓D10, U0, U1, U2, U3, U4, U5, U6, U7, U8, U9, U10, ↓reduceIte, Nat.reduceAdd, Nat.reduceMul, Nat.reduceSub, Nat.reduceEqDiff, Nat.reduceBEq, Nat.reduceLeDiff, Nat.reduceLT, Int.reduceAdd, Int.reduceMul, Int.reduceSub, Int.reduceLT, Int.reduceLE, Int.reduceToNat, Int.reduceEq, Int.reduceNe, Int.reduceBEq, Int.reduceBNe, ne_eq, eq_self]
    refine callT_of (c_awake13 hS) ?_
    rintro v H' ⟨rfl, hS⟩
    simp only [↓D0, ↓D1, ↓D2, ↓D3, ↓D4, ↓D5, ↓D6, ↓D7, ↓D8, ↓D9, ↓D10, U0, U1, U2, U3, U4, U5, U6, U7, U8, U9, U10, ↓reduceIte, Nat.reduceAdd, Nat.reduceMul, Nat.reduceSub, Nat.reduceEqDiff, Nat.reduceBEq, Nat.reduceLeDiff, Nat.reduceLT, Int.reduceAdd, Int.reduceMul, Int.reduceSub, Int.reduceLT, Int.reduceLE, Int.reduceToNat, Int.reduceEq, Int.reduceNe, Int.reduceBEq, Int.reduceBNe, ne_eq, eq_self]
    exact hS
  have g0 : ((m : Int) == 0) = false := beq_eq_false_iff_ne.2 (by omega)
  by_cases h8 : (8 : Int) < (m : Int)
  · have g8 : decide ((8 : Int) < (m : Int)) = true := decide_eq_true h8
    simp only [g0, g8, ↓D0, ↓D1, ↓D2, ↓D3, ↓D4, ↓D5, ↓D6, ↓D7, ↓D8, ↓D9, ↓D10, U0, U1, U2, U3, U4, U5, U6, U7, U8, U9, U10, ↓reduceIte, Nat.reduceAdd, Nat.reduceMul, Nat.reduceSub, Nat.reduceEqDiff, Nat.reduceBEq, Nat.reduceLeDiff, Nat.reduceLT, Int.reduceAdd, Int.reduceMul, Int.reduceSub, Int.reduceLT, Int.reduceLE, Int.reduceToNat, Int.reduceEq, Int.reduceNe, Int.reduceBEq, Int.reduceBNe, ne_eq, eq_self]
    refine callT_of (c_awake13 hS) ?_
    rintro v H' ⟨rfl, hS⟩
    simp only [↓D0, ↓D1, ↓D2, ↓D3, ↓D4, ↓D5, ↓D6, ↓D7, ↓D8, ↓D9, ↓D10, U0, U1, U2, U3, U4, U5, U6, U7, U8, U9, U10, ↓reduceIte, Nat.reduceAdd, Nat.reduceMul, Nat.reduceSub, Nat.reduceEqDiff, Nat.reduceBEq, Nat.reduceLeDiff, Nat.reduceLT, Int.reduceAdd, Int.reduceMul, Int.reduceSub, Int.reduceLT, Int.reduceLE, Int.reduceToNat, Int.reduceEq, Int.reduceNe, Int.reduceBEq, Int.reduceBNe, ne_eq, eq_self]
    exact hS
  have g8 : decide ((8 : Int) < (m : Int)) = false := decide_eq_false h8
  simp only [g0, g8, ↓D0, ↓D1, ↓D2, ↓D3, ↓D4, ↓D5, ↓D6, ↓D7, ↓D8, ↓D9, ↓D10, U0, U1, U2, U3, U4, U5, U6, U7, U8, U9, U10, ↓reduceIte, Nat.reduceAdd, Nat.reduceMul, Nat.reduceSub, Nat.reduceEqDiff, Nat.reduceBEq, Nat.reduceLeDiff, Nat.reduceLT, Int.reduceAdd, Int.reduceMul, Int.reduceSub, Int.reduceLT, Int.reduceLE, Int.reduceToNat, Int.reduceEq, Int.reduceNe, Int.reduceBEq, Int.reduceBNe, ne_eq, eq_self]
  refine newB_intro fun x hx f1 f2 => ?_
  have hS := hS.new f1 (.cells #[.int .i64 0, .int .i64 0, .int .i64 0] 23 (0, 0))
  have hS := hS.set (.cells #[.int .i64 (m : Int), .int .i64 1, .int .i64 0] 23 (0, 0))
  rw [Ev.upd_upd] at hS
  have hx1 := hS.look
  have r1 := fun o n => rdn_of hx1 o n
  have hmay : may (m : Int) 1 0 = true := Em.may_p (by omega)
  obtain ⟨N, hN⟩ : ∃ N : Nat, 1 + m + m * 16 = N := ⟨_, rfl⟩
  have hNw : words (m : Int) 1 0 = (N : Int) := by unfold words; rw [if_pos hmay]; omega
  simp only [Ev.upd_upd, hx1, r1, ↓D0, ↓D1, ↓D2, ↓D3, ↓D4, ↓D5, ↓D6, ↓D7, ↓D8, ↓D9, ↓D10, U0, U1, U2, U3, U4, U5, U6, U7, U8, U9, U10, ↓reduceIte, Nat.reduceAdd, Nat.reduceMul, Nat.reduceSub, Nat.reduceEqDiff, Nat.reduceBEq, Nat.reduceLeDiff, Nat.reduceLT, Int.reduceAdd, Int.reduceMul, Int.reduceSub, Int.reduceLT, Int.reduceLE, Int.reduceToNat, Int.reduceEq, Int.reduceNe, Int.reduceBEq, Int.reduceBNe, ne_eq, eq_self]
  refine callT_of (c_blank (sh := ⟨m, 1, 0⟩) hNw (by omega) hS) ?_
  rintro v H' ⟨y, rfl, hS⟩
  have hkq : ∀ q, q < m → 0 ≤ seK K ks q ∧ seK K ks q ≤ 3 ∧ seK K ks q ≠ K := fun q hq => by
    have := hks q hq
    unfold seK; omega
  obtain ⟨kq, hkqe⟩ : ∃ kq, kq = seK K ks := ⟨_, rfl⟩
  obtain ⟨fu, hfue⟩ : ∃ fu, fu = seF m2 B := ⟨_, rfl⟩
  rw [← hkqe] at hkq
  simp only [↓D0, ↓D1, ↓D2, ↓D3, ↓D4, ↓D5, ↓D6, ↓D7, ↓D8, ↓D9, ↓D10, U0, U1, U2, U3, U4, U5, U6, U7, U8, U9, U10, ↓reduceIte, Nat.reduceAdd, Nat.reduceMul, Nat.reduceSub, Nat.reduceEqDiff, Nat.reduceBEq, Nat.reduceLeDiff, Nat.reduceLT, Int.reduceAdd, Int.reduceMul, Int.reduceSub, Int.reduceLT, Int.reduceLE, Int.reduceToNat, Int.reduceEq, Int.reduceNe, Int.reduceBEq, Int.reduceBNe, ne_eq, eq_self]
  refine loop_intro (seA kq fu K F m cap m2 cap2 N x y a a2 (sg x (.cells #[.int .i64 (m : Int), .int .i64 1, .int .i64 0] 23 (0, 0)) :: h :: l)) (fun F' _ => (m - iv (gt F' 11)).toNat)
    ⟨0, _, Nat.zero_le _, by simp [gt], ⟨by simp [gt], by simp [gt], by simp [gt], by simp [gt], by simp [gt], by simp [gt]⟩, Em.LE.zero, hS⟩ ?_
  clear hS hx1 r1
  rintro F' H' ⟨p, f, hp, e11, ⟨e0, e1, e2, e3, e9, e10⟩, hLE, hS⟩
  have hx1 := hS.lk 1 rfl
  have r1 := fun o n => rdn_of hx1 o n
  have r0 := fun o => rd_of hx1 o
  by_cases hlt : p < m
  · have d1 : decide ((p : Int) < (m : Int)) = true := decide_eq_true (by omega)
    have p0 : (0 : Int) ≤ (p : Int) := by omega
    have p1 : (p : Int) < (m : Int) := by omega
    have wi : w64 ((p : Int) + 1) = ((p + 1 : Nat) : Int) := by rw [w64_eq (by omega) (by omega)]; omega
    have hy1 := hS.look
    obtain ⟨b1, o1, rfl, hrd⟩ := (hr.sub (hS.sb h (by simp))).at' hlt
    have hkv := hks p hlt
    have wK : w64 (K + 1) = K + 1 := w64_eq (by omega) (by omega)
    have wc : w64 (ks p) = ks p := w64_eq (by omega) (by omega)
    have t3 : (ks p).tmod 3 = ks p % 3 := Int.tmod_eq_emod_of_nonneg hkv.1
    have wa : w64 (K + 1 + ks p % 3) = K + 1 + ks p % 3 := w64_eq (by omega) (by omega)
    have t4 : (K + 1 + ks p % 3).tmod 4 = kq p := by rw [Int.tmod_eq_emod_of_nonneg (by omega), hkqe]; rfl
    have hpg : page (m : Int) 1 0 (p : Int) = 1 + (p : Int) := page_yes hmay p0 p1
    have b0 : (0 : Int) ≤ 1 + (p : Int) := by omega
    have b2 : 1 + (p : Int) < (N : Int) := by omega
    have b3 : (1 + (p : Int)).toNat = 1 + p := by omega
    have b4 : 1 + p < N := by omega
    have nyx := hS.neq 0 1 (by decide) rfl rfl
    have nxy := hS.qen 0 1 (by decide) rfl rfl
    have hS3 := hS.set (.cells (urow N (fun j => if j = 1 + p then putPg 2 (kq p) 0 else f j)) 46 (0, 0))
    have hLJ := hLE.page hlt
    have hk := hkq p hlt
    have hs4 := slots_four hk.1 hk.2.1
    simp only [e11, e0, e1, e2, e3, e9, e10, hx1, r1, r0, hy1, d1, p0, p1, hrd, Int.toNat_natCast, wrap_w64, wK, wc, t3, wa, t4, u_page, hpg, b0, b2, b3, b4, urow_size, urow_set, u_putpg, nyx, nxy, ↓D0, ↓D1, ↓D2, ↓D3, ↓D4, ↓D5, ↓D6, ↓D7, ↓D8, ↓D9, ↓D10, U0, U1, U2, U3, U4, U5, U6, U7, U8, U9, U10, ↓reduceIte, Nat.reduceAdd, Nat.reduceMul, Nat.reduceSub, Nat.reduceEqDiff, Nat.reduceBEq, Nat.reduceLeDiff, Nat.reduceLT, Int.reduceAdd, Int.reduceMul, Int.reduceSub, Int.reduceLT, Int.reduceLE, Int.reduceToNat, Int.reduceEq, Int.reduceNe, Int.reduceBEq, Int.reduceBNe, ne_eq, eq_self]
    refine loop_intro (seB p kq fu K F m cap m2 cap2 N x y (some ⟨b1, o1, none⟩) a2 (sg x (.cells #[.int .i64 (m : Int), .int .i64 1, .int .i64 0] 23 (0, 0)) :: h :: l)) (fun F' _ => (slots (kq p) - iv (gt F' 13)).toNat)
      ⟨0, _, by omega, by simp [gt], by simp [gt, wK, wc, t3, wa, t4], by simp [gt, e11], ⟨by simp [gt, e0], by simp [gt, e1], by simp [gt, e2], by simp [gt, e3], by simp [gt, e9], by simp [gt, e10]⟩, hLJ, hS3⟩ ?_
    clear hS hS3 hx1 r1 r0 hy1 hrd hLE hLJ e0 e1 e2 e3 e9 e10 nyx nxy
    have e11o := e11
    clear e11 f
    rintro F'' H' ⟨i, f, hi, e13, e12, e11, ⟨e0, e1, e2, e3, e9, e10⟩, hLJ, hS⟩
    by_cases hil : (i : Int) < slots (kq p)
    rotate_left
    · have d2 : decide ((i : Int) < slots (kq p)) = false := decide_eq_false hil
      simp only [e13, e12, e11, e0, e1, e2, e3, e9, e10, u_slots, d2, wrap_w64, wi, ↓D0, ↓D1, ↓D2, ↓D3, ↓D4, ↓D5, ↓D6, ↓D7, ↓D8, ↓D9, ↓D10, U0, U1, U2, U3, U4, U5, U6, U7, U8, U9, U10, ↓reduceIte, Nat.reduceAdd, Nat.reduceMul, Nat.reduceSub, Nat.reduceEqDiff, Nat.reduceBEq, Nat.reduceLeDiff, Nat.reduceLT, Int.reduceAdd, Int.reduceMul, Int.reduceSub, Int.reduceLT, Int.reduceLE, Int.reduceToNat, Int.reduceEq, Int.reduceNe, Int.reduceBEq, Int.reduceBNe, ne_eq, eq_self]
      exact ⟨⟨p + 1, f, hlt, by simp [gt], ⟨by simp [gt, e0], by simp [gt, e1], by simp [gt, e2], by simp [gt, e3], by simp [gt, e9], by simp [gt, e10]⟩, hLJ.fin (by omega), hS⟩, by simp [gt, iv, e11o]; omega⟩
    have d2 : decide ((i : Int) < slots (kq p)) = true := decide_eq_true hil
    simp only [e13, e12, e11, e0, e1, e2, e3, e9, e10, u_slots, d2, ↓D0, ↓D1, ↓D2, ↓D3, ↓D4, ↓D5, ↓D6, ↓D7, ↓D8, ↓D9, ↓D10, U0, U1, U2, U3, U4, U5, U6, U7, U8, U9, U10, ↓reduceIte, Nat.reduceAdd, Nat.reduceMul, Nat.reduceSub, Nat.reduceEqDiff, Nat.reduceBEq, Nat.reduceLeDiff, Nat.reduceLT, Int.reduceAdd, Int.reduceMul, Int.reduceSub, Int.reduceLT, Int.reduceLE, Int.reduceToNat, Int.reduceEq, Int.reduceNe, Int.reduceBEq, Int.reduceBNe, ne_eq, eq_self]
    have hx1 := hS.lk 1 rfl
    have r1 := fun o n => rdn_of hx1 o n
    have hy1 := hS.look
    have nyx := hS.neq 0 1 (by decide) rfl rfl
    have nxy := hS.qen 0 1 (by decide) rfl rfl
    have hsl : slot (m : Int) 1 0 (p : Int) (i : Int) = 1 + (m : Int) + (p : Int) * 16 + (i : Int) := slot_yes hmay p0 p1 (by omega) (by omega)
    have c0 : (0 : Int) ≤ 1 + (m : Int) + (p : Int) * 16 + (i : Int) := by omega
    have c1 : 1 + (m : Int) + (p : Int) * 16 + (i : Int) < (N : Int) := by omega
    have c2 : (1 + (m : Int) + (p : Int) * 16 + (i : Int)).toNat = 1 + m + p * 16 + i := by omega
    have c3 : 1 + m + p * 16 + i < N := by omega
    have wj : w64 ((i : Int) + 1) = ((i + 1 : Nat) : Int) := by rw [w64_eq (by omega) (by omega)]; omega
    refine newB_intro fun z hz f3 f4 => ?_
    have nxz : (x = z) = False := f3 x (by rw [hx1]; rfl)
    have nzx : (z = x) = False := f4 x (by rw [hx1]; rfl)
    have nyz : (y = z) = False := f3 y (by rw [hy1]; rfl)
    have nzy : (z = y) = False := f4 y (by rw [hy1]; rfl)
    have leaf : ∀ (v : Int) (F3 : Fr), v = Em.emS kq fu p i → gt F3 13 = .int .i64 ((i + 1 : Nat) : Int) → gt F3 12 = .int .i64 (kq p) → gt F3 11 = .int .i64 (p : Int) → seG K F m cap m2 cap2 N x y (some ⟨b1, o1, none⟩) a2 F3 → ∀ H3, Sep (sg y (.cells (urow N (fun j => if j = 1 + m + p * 16 + i then v else f j)) 46 (0, 0)) :: sg x (.cells #[.int .i64 (m : Int), .int .i64 1, .int .i64 0] 23 (0, 0)) :: h :: l) H3 →
        seB p kq fu K F m cap m2 cap2 N x y (some ⟨b1, o1, none⟩) a2 (sg x (.cells #[.int .i64 (m : Int), .int .i64 1, .int .i64 0] 23 (0, 0)) :: h :: l) F3 H3 := fun v F3 hv g1 g2 g3 g4 H3 hS3 =>
      ⟨i + 1, _, by omega, g1, g2, g3, g4, hLJ.next hlt (by omega) hv, hS3⟩
    have fin1 : ∀ k' : Int, ∀ v : Int, Sep (sg y (.cells (urow N (fun j => if j = 1 + m + p * 16 + i then v else f j)) 46 (0, 0)) :: sg x (.cells #[.int .i64 (m : Int), .int .i64 1, .int .i64 0] 23 (0, 0)) :: h :: l)
        (upd (upd H' z (.cells #[.int .i64 k', .int .i64 (kq p)] 64 (0, 0))) y (.cells (urow N (fun j => if j = 1 + m + p * 16 + i then v else f j)) 46 (0, 0))) := fun k' v =>
      ((hS.new f3 (.cells #[.int .i64 k', .int .i64 (kq p)] 64 (0, 0))).p1.set _).p1.tail
    cases eI : ((i : Int) == 1)
    · have hi1 : i ≠ 1 := by
        have : (i : Int) ≠ 1 := by simpa using eI
        omega
      have hv : putSl 1 (kq p) = Em.emS kq fu p i := by unfold Em.emS; rw [if_pos hil, if_neg (fun g => hi1 g.1)]; rfl
      simp only [e13, e12, e11, e0, e1, e2, e3, e9, e10, eI, nxz, nzx, nyz, nzy, Ev.upd_upd, ↓D0, ↓D1, ↓D2, ↓D3, ↓D4, ↓D5, ↓D6, ↓D7, ↓D8, ↓D9, ↓D10, U0, U1, U2, U3, U4, U5, U6, U7, U8, U9, U10, ↓reduceIte, Nat.reduceAdd, Nat.reduceMul, Nat.reduceSub, Nat.reduceEqDiff, Nat.reduceBEq, Nat.reduceLeDiff, Nat.reduceLT, Int.reduceAdd, Int.reduceMul, Int.reduceSub, Int.reduceLT, Int.reduceLE, Int.reduceToNat, Int.reduceEq, Int.reduceNe, Int.reduceBEq, Int.reduceBNe, ne_eq, eq_self]
      refine draw_intro [(x, #[.int .i64 (m : Int), .int .i64 1, .int .i64 0], []), (z, #[.int .i64 1, .int .i64 (kq p)], [])] (by simp only [hx1, nxz, nzx, ↓D0, ↓D1, ↓D2, ↓D3, ↓D4, ↓D5, ↓D6, ↓D7, ↓D8, ↓D9, ↓D10, U0, U1, U2, U3, U4, U5, U6, U7, U8, U9, U10, ↓reduceIte, Nat.reduceAdd, Nat.reduceMul, Nat.reduceSub, Nat.reduceEqDiff, Nat.reduceBEq, Nat.reduceLeDiff, Nat.reduceLT, Int.reduceAdd, Int.reduceMul, Int.reduceSub, Int.reduceLT, Int.reduceLE, Int.reduceToNat, Int.reduceEq, Int.reduceNe, Int.reduceBEq, Int.reduceBNe, ne_eq, eq_self]) ?_
      simp only [e13, e12, e11, e0, e1, e2, e3, e9, e10, hx1, r1, hy1, nxz, nzx, nyz, nzy, nyx, nxy, u_slot, hsl, u_putsl, c0, c1, c2, c3, urow_size, urow_set, wrap_w64, wj, ↓D0, ↓D1, ↓D2, ↓D3, ↓D4, ↓D5, ↓D6, ↓D7, ↓D8, ↓D9, ↓D10, U0, U1, U2, U3, U4, U5, U6, U7, U8, U9, U10, ↓reduceIte, Nat.reduceAdd, Nat.reduceMul, Nat.reduceSub, Nat.reduceEqDiff, Nat.reduceBEq, Nat.reduceLeDiff, Nat.reduceLT, Int.reduceAdd, Int.reduceMul, Int.reduceSub, Int.reduceLT, Int.reduceLE, Int.reduceToNat, Int.reduceEq, Int.reduceNe, Int.reduceBEq, Int.reduceBNe, ne_eq, eq_self]
      refine ⟨leaf _ _ hv ?_ ?_ ?_ ?_ _ (fin1 1 _), by simp [gt, iv, e13]; omega⟩
      · simp [gt]
      · simp [gt, e12]
      · simp [gt, e11]
      · exact ⟨by simp [gt, e0], by simp [gt, e1], by simp [gt, e2], by simp [gt, e3], by simp [gt, e9], by simp [gt, e10]⟩
    · have hi1 : i = 1 := by
        have : (i : Int) = 1 := by simpa using eI
        omega
      by_cases hp2 : p < m2
      rotate_left
      · have dp : decide ((p : Int) < (m2 : Int)) = false := decide_eq_false (by omega)
        have hff : fu p = false := by rw [hfue]; unfold seF; rw [decide_eq_false hp2]; rfl
        have hv : putSl 1 (kq p) = Em.emS kq fu p i := by unfold Em.emS; rw [if_pos hil, if_neg (fun g => by rw [hff] at g; cases g.2)]; rfl
        simp only [e13, e12, e11, e0, e1, e2, e3, e9, e10, eI, dp, nxz, nzx, nyz, nzy, Ev.upd_upd, ↓D0, ↓D1, ↓D2, ↓D3, ↓D4, ↓D5, ↓D6, ↓D7, ↓D8, ↓D9, ↓D10, U0, U1, U2, U3, U4, U5, U6, U7, U8, U9, U10, ↓reduceIte, Nat.reduceAdd, Nat.reduceMul, Nat.reduceSub, Nat.reduceEqDiff, Nat.reduceBEq, Nat.reduceLeDiff, Nat.reduceLT, Int.reduceAdd, Int.reduceMul, Int.reduceSub, Int.reduceLT, Int.reduceLE, Int.reduceToNat, Int.reduceEq, Int.reduceNe, Int.reduceBEq, Int.reduceBNe, ne_eq, eq_self]
        refine draw_intro [(x, #[.int .i64 (m : Int), .int .i64 1, .int .i64 0], []), (z, #[.int .i64 1, .int .i64 (kq p)], [])] (by simp only [hx1, nxz, nzx, ↓D0, ↓D1, ↓D2, ↓D3, ↓D4, ↓D5, ↓D6, ↓D7, ↓D8, ↓D9, ↓D10, U0, U1, U2, U3, U4, U5, U6, U7, U8, U9, U10, ↓reduceIte, Nat.reduceAdd, Nat.reduceMul, Nat.reduceSub, Nat.reduceEqDiff, Nat.reduceBEq, Nat.reduceLeDiff, Nat.reduceLT, Int.reduceAdd, Int.reduceMul, Int.reduceSub, Int.reduceLT, Int.reduceLE, Int.reduceToNat, Int.reduceEq, Int.reduceNe, Int.reduceBEq, Int.reduceBNe, ne_eq, eq_self]) ?_
        simp only [e13, e12, e11, e0, e1, e2, e3, e9, e10, hx1, r1, hy1, nxz, nzx, nyz, nzy, nyx, nxy, u_slot, hsl, u_putsl, c0, c1, c2, c3, urow_size, urow_set, wrap_w64, wj, ↓D0, ↓D1, ↓D2, ↓D3, ↓D4, ↓D5, ↓D6, ↓D7, ↓D8, ↓D9, ↓D10, U0, U1, U2, U3, U4, U5, U6, U7, U8, U9, U10, ↓reduceIte, Nat.reduceAdd, Nat.reduceMul, Nat.reduceSub, Nat.reduceEqDiff, Nat.reduceBEq, Nat.reduceLeDiff, Nat.reduceLT, Int.reduceAdd, Int.reduceMul, Int.reduceSub, Int.reduceLT, Int.reduceLE, Int.reduceToNat, Int.reduceEq, Int.reduceNe, Int.reduceBEq, Int.reduceBNe, ne_eq, eq_self]
        refine ⟨leaf _ _ hv ?_ ?_ ?_ ?_ _ (fin1 1 _), by simp [gt, iv, e13]; omega⟩
        · simp [gt]
        · simp [gt, e12]
        · simp [gt, e11]
        · exact ⟨by simp [gt, e0], by simp [gt, e1], by simp [gt, e2], by simp [gt, e3], by simp [gt, e9], by simp [gt, e10]⟩
      · have dp : decide ((p : Int) < (m2 : Int)) = true := decide_eq_true (by omega)
        have p2 : (p : Int) < (m2 : Int) := by omega
        rcases hr2 with hr0 | ⟨b2, o2, rfl, hq2⟩
        · omega
        obtain ⟨cc, T, ff, hc, hco, hfar⟩ := part_cell hS 2 rfl (hq2 p hp2)
        have nbz : (b2 = z) = False := f3 b2 (by rw [hc]; rfl)
        have nzb : (z = b2) = False := f4 b2 (by rw [hc]; rfl)
        have r2 := fun o => rd_of hc o
        have hco : cc[o2 + p]? = some (.bool (B p)) := hco
        have hff : fu p = B p := by rw [hfue]; unfold seF; rw [decide_eq_true hp2]; simp
        cases hB : B p
        · have hv : putSl 1 (kq p) = Em.emS kq fu p i := by unfold Em.emS; rw [if_pos hil, if_neg (fun g => by rw [hff, hB] at g; cases g.2)]; rfl
          rw [hB] at hco
          simp only [e13, e12, e11, e0, e1, e2, e3, e9, e10, eI, dp, p0, p2, Int.toNat_natCast, hc, r2, hco, nbz, nzb, nxz, nzx, nyz, nzy, Ev.upd_upd, ↓D0, ↓D1, ↓D2, ↓D3, ↓D4, ↓D5, ↓D6, ↓D7, ↓D8, ↓D9, ↓D10, U0, U1, U2, U3, U4, U5, U6, U7, U8, U9, U10, ↓reduceIte, Nat.reduceAdd, Nat.reduceMul, Nat.reduceSub, Nat.reduceEqDiff, Nat.reduceBEq, Nat.reduceLeDiff, Nat.reduceLT, Int.reduceAdd, Int.reduceMul, Int.reduceSub, Int.reduceLT, Int.reduceLE, Int.reduceToNat, Int.reduceEq, Int.reduceNe, Int.reduceBEq, Int.reduceBNe, ne_eq, eq_self]
          refine draw_intro [(x, #[.int .i64 (m : Int), .int .i64 1, .int .i64 0], []), (z, #[.int .i64 1, .int .i64 (kq p)], [])] (by simp only [hx1, nxz, nzx, ↓D0, ↓D1, ↓D2, ↓D3, ↓D4, ↓D5, ↓D6, ↓D7, ↓D8, ↓D9, ↓D10, U0, U1, U2, U3, U4, U5, U6, U7, U8, U9, U10, ↓reduceIte, Nat.reduceAdd, Nat.reduceMul, Nat.reduceSub, Nat.reduceEqDiff, Nat.reduceBEq, Nat.reduceLeDiff, Nat.reduceLT, Int.reduceAdd, Int.reduceMul, Int.reduceSub, Int.reduceLT, Int.reduceLE, Int.reduceToNat, Int.reduceEq, Int.reduceNe, Int.reduceBEq, Int.reduceBNe, ne_eq, eq_self]) ?_
          simp only [e13, e12, e11, e0, e1, e2, e3, e9, e10, hx1, r1, hy1, nxz, nzx, nyz, nzy, nyx, nxy, u_slot, hsl, u_putsl, c0, c1, c2, c3, urow_size, urow_set, wrap_w64, wj, ↓D0, ↓D1, ↓D2, ↓D3, ↓D4, ↓D5, ↓D6, ↓D7, ↓D8, ↓D9, ↓D10, U0, U1, U2, U3, U4, U5, U6, U7, U8, U9, U10, ↓reduceIte, Nat.reduceAdd, Nat.reduceMul, Nat.reduceSub, Nat.reduceEqDiff, Nat.reduceBEq, Nat.reduceLeDiff, Nat.reduceLT, Int.reduceAdd, Int.reduceMul, Int.reduceSub, Int.reduceLT, Int.reduceLE, Int.reduceToNat, Int.reduceEq, Int.reduceNe, Int.reduceBEq, Int.reduceBNe, ne_eq, eq_self]
          refine ⟨leaf _ _ hv ?_ ?_ ?_ ?_ _ (fin1 1 _), by simp [gt, iv, e13]; omega⟩
          · simp [gt]
          · simp [gt, e12]
          · simp [gt, e11]
          · exact ⟨by simp [gt, e0], by simp [gt, e1], by simp [gt, e2], by simp [gt, e3], by simp [gt, e9], by simp [gt, e10]⟩
        · have hv : putSl 3 (kq p) = Em.emS kq fu p i := by unfold Em.emS; rw [if_pos hil, if_pos ⟨hi1, by rw [hff, hB]⟩]; rfl
          rw [hB] at hco
          simp only [e13, e12, e11, e0, e1, e2, e3, e9, e10, eI, dp, p0, p2, Int.toNat_natCast, hc, r2, hco, nbz, nzb, nxz, nzx, nyz, nzy, Ev.upd_upd, ↓D0, ↓D1, ↓D2, ↓D3, ↓D4, ↓D5, ↓D6, ↓D7, ↓D8, ↓D9, ↓D10, U0, U1, U2, U3, U4, U5, U6, U7, U8, U9, U10, ↓reduceIte, Nat.reduceAdd, Nat.reduceMul, Nat.reduceSub, Nat.reduceEqDiff, Nat.reduceBEq, Nat.reduceLeDiff, Nat.reduceLT, Int.reduceAdd, Int.reduceMul, Int.reduceSub, Int.reduceLT, Int.reduceLE, Int.reduceToNat, Int.reduceEq, Int.reduceNe, Int.reduceBEq, Int.reduceBNe, ne_eq, eq_self]
          refine draw_intro [(x, #[.int .i64 (m : Int), .int .i64 1, .int .i64 0], []), (z, #[.int .i64 3, .int .i64 (kq p)], [])] (by simp only [hx1, nxz, nzx, ↓D0, ↓D1, ↓D2, ↓D3, ↓D4, ↓D5, ↓D6, ↓D7, ↓D8, ↓D9, ↓D10, U0, U1, U2, U3, U4, U5, U6, U7, U8, U9, U10, ↓reduceIte, Nat.reduceAdd, Nat.reduceMul, Nat.reduceSub, Nat.reduceEqDiff, Nat.reduceBEq, Nat.reduceLeDiff, Nat.reduceLT, Int.reduceAdd, Int.reduceMul, Int.reduceSub, Int.reduceLT, Int.reduceLE, Int.reduceToNat, Int.reduceEq, Int.reduceNe, Int.reduceBEq, Int.reduceBNe, ne_eq, eq_self]) ?_
          simp only [e13, e12, e11, e0, e1, e2, e3, e9, e10, hx1, r1, hy1, nxz, nzx, nyz, nzy, nyx, nxy, u_slot, hsl, u_putsl, c0, c1, c2, c3, urow_size, urow_set, wrap_w64, wj, ↓D0, ↓D1, ↓D2, ↓D3, ↓D4, ↓D5, ↓D6, ↓D7, ↓D8, ↓D9, ↓D10, U0, U1, U2, U3, U4, U5, U6, U7, U8, U9, U10, ↓reduceIte, Nat.reduceAdd, Nat.reduceMul, Nat.reduceSub, Nat.reduceEqDiff, Nat.reduceBEq, Nat.reduceLeDiff, Nat.reduceLT, Int.reduceAdd, Int.reduceMul, Int.reduceSub, Int.reduceLT, Int.reduceLE, Int.reduceToNat, Int.reduceEq, Int.reduceNe, Int.reduceBEq, Int.reduceBNe, ne_eq, eq_self]
          refine ⟨leaf _ _ hv ?_ ?_ ?_ ?_ _ (fin1 3 _), by simp [gt, iv, e13]; omega⟩
          · simp [gt]
          · simp [gt, e12]
          · simp [gt, e11]
          · exact ⟨by simp [gt, e0], by simp [gt, e1], by simp [gt, e2], by simp [gt, e3], by simp [gt, e9], by simp [gt, e10]⟩
  have hpm : m = p := by omega
  subst hpm
  have d1 : decide ((m : Int) < (m : Int)) = false := decide_eq_false (by omega)
  have mpos : (m : Int) ≠ 0 := by omega
  have tF : F.tmod (m : Int) = F % (m : Int) := Int.tmod_eq_emod_of_nonneg hF.1
  obtain ⟨f0, hf0⟩ : ∃ f0, F % (m : Int) = f0 := ⟨_, rfl⟩
  have hfb : 0 ≤ f0 ∧ f0 < m := by rw [← hf0]; exact ⟨Int.emod_nonneg _ mpos, Int.emod_lt_of_pos _ (by omega)⟩
  have hfU : ∀ i, i < N → U (f i) := fun i _ => hLE.u i
  have hof : (rowW N f).of ⟨m, 1, 0⟩ := rowW_of hNw.symm hfU
  have hHp : Em.Hp' m kq fu K (rowW N f).ws := by
    refine ⟨by omega, hkq, fun q hq => ?_, fun q j hq hj => ?_⟩
    · show (if 1 + q < N then f (1 + q) else 0) = _
      rw [if_pos (by omega), hLE.pg q hq, if_pos hq]; rfl
    · show (if 1 + m + q * 16 + j < N then f (1 + m + q * 16 + j) else 0) = _
      rw [if_pos (by omega), hLE.sl q j hq hj, if_pos hq]
  have hAl := Sa.Al.init (s := ⟨m, 1, 0⟩) (c := 0) (k := K) (f := f0) (w := rowW N f) hmay hof (Int.le_refl 0) (by show (0 : Int) < 1; decide) hK.1 hK.2 hfb.1 (by show f0 < (m : Int); exact hfb.2) hHp.snd
  have hl0 : (Sk.new ⟨m, 1, 0⟩ 0 K f0).left ≤ 0 + 70 * (m : Int) + 36 := Sk.new_left ⟨m, 1, 0⟩ 0 K f0 hmay
  simp only [e11, e0, e1, e2, e3, e9, e10, hx1, r1, r0, d1, ↓D0, ↓D1, ↓D2, ↓D3, ↓D4, ↓D5, ↓D6, ↓D7, ↓D8, ↓D9, ↓D10, U0, U1, U2, U3, U4, U5, U6, U7, U8, U9, U10, ↓reduceIte, Nat.reduceAdd, Nat.reduceMul, Nat.reduceSub, Nat.reduceEqDiff, Nat.reduceBEq, Nat.reduceLeDiff, Nat.reduceLT, Int.reduceAdd, Int.reduceMul, Int.reduceSub, Int.reduceLT, Int.reduceLE, Int.reduceToNat, Int.reduceEq, Int.reduceNe, Int.reduceBEq, Int.reduceBNe, ne_eq, eq_self]
  refine callT_of (c_fill (n := N) (by omega) (RowU.own y N f _ _) hS) ?_
  rintro v H' ⟨b, s, rfl, hS⟩
  have hx1 := hS.lk 3 rfl
  have r1 := fun o n => rdn_of hx1 o n
  have r0 := fun o => rd_of hx1 o
  simp only [e11, e0, e1, e2, e3, e9, e10, hx1, r1, r0, mpos, tF, hf0, ↓D0, ↓D1, ↓D2, ↓D3, ↓D4, ↓D5, ↓D6, ↓D7, ↓D8, ↓D9, ↓D10, U0, U1, U2, U3, U4, U5, U6, U7, U8, U9, U10, ↓reduceIte, Nat.reduceAdd, Nat.reduceMul, Nat.reduceSub, Nat.reduceEqDiff, Nat.reduceBEq, Nat.reduceLeDiff, Nat.reduceLT, Int.reduceAdd, Int.reduceMul, Int.reduceSub, Int.reduceLT, Int.reduceLE, Int.reduceToNat, Int.reduceEq, Int.reduceNe, Int.reduceBEq, Int.reduceBNe, ne_eq, eq_self]
  refine draw_intro [(x, #[.int .i64 (m : Int), .int .i64 1, .int .i64 0], [])] (by simp only [hx1, ↓D0, ↓D1, ↓D2, ↓D3, ↓D4, ↓D5, ↓D6, ↓D7, ↓D8, ↓D9, ↓D10, U0, U1, U2, U3, U4, U5, U6, U7, U8, U9, U10, ↓reduceIte, Nat.reduceAdd, Nat.reduceMul, Nat.reduceSub, Nat.reduceEqDiff, Nat.reduceBEq, Nat.reduceLeDiff, Nat.reduceLT, Int.reduceAdd, Int.reduceMul, Int.reduceSub, Int.reduceLT, Int.reduceLE, Int.reduceToNat, Int.reduceEq, Int.reduceNe, Int.reduceBEq, Int.reduceBNe, ne_eq, eq_self]) ?_
  simp only [e11, e0, e1, e2, e3, e9, e10, hx1, r1, r0, mpos, tF, hf0, ↓D0, ↓D1, ↓D2, ↓D3, ↓D4, ↓D5, ↓D6, ↓D7, ↓D8, ↓D9, ↓D10, U0, U1, U2, U3, U4, U5, U6, U7, U8, U9, U10, ↓reduceIte, Nat.reduceAdd, Nat.reduceMul, Nat.reduceSub, Nat.reduceEqDiff, Nat.reduceBEq, Nat.reduceLeDiff, Nat.reduceLT, Int.reduceAdd, Int.reduceMul, Int.reduceSub, Int.reduceLT, Int.reduceLE, Int.reduceToNat, Int.reduceEq, Int.reduceNe, Int.reduceBEq, Int.reduceBNe, ne_eq, eq_self]
  refine callT_of (c_sknew (sh := ⟨m, 1, 0⟩) hS) ?_
  rintro v H' ⟨k, kn, rfl, hS⟩
  have hx1 := hS.lk 5 rfl
  simp only [e11, e0, e1, e2, e3, e9, e10, hx1, ↓D0, ↓D1, ↓D2, ↓D3, ↓D4, ↓D5, ↓D6, ↓D7, ↓D8, ↓D9, ↓D10, U0, U1, U2, U3, U4, U5, U6, U7, U8, U9, U10, ↓reduceIte, Nat.reduceAdd, Nat.reduceMul, Nat.reduceSub, Nat.reduceEqDiff, Nat.reduceBEq, Nat.reduceLeDiff, Nat.reduceLT, Int.reduceAdd, Int.reduceMul, Int.reduceSub, Int.reduceLT, Int.reduceLE, Int.reduceToNat, Int.reduceEq, Int.reduceNe, Int.reduceBEq, Int.reduceBNe, ne_eq, eq_self]
  refine callT_of (c_awake13 hS) ?_
  rintro v H' ⟨rfl, hS⟩
  simp only [e11, e0, e1, e2, e3, e9, e10, ↓D0, ↓D1, ↓D2, ↓D3, ↓D4, ↓D5, ↓D6, ↓D7, ↓D8, ↓D9, ↓D10, U0, U1, U2, U3, U4, U5, U6, U7, U8, U9, U10, ↓reduceIte, Nat.reduceAdd, Nat.reduceMul, Nat.reduceSub, Nat.reduceEqDiff, Nat.reduceBEq, Nat.reduceLeDiff, Nat.reduceLT, Int.reduceAdd, Int.reduceMul, Int.reduceSub, Int.reduceLT, Int.reduceLE, Int.reduceToNat, Int.reduceEq, Int.reduceNe, Int.reduceBEq, Int.reduceBNe, ne_eq, eq_self]
  refine loop_intro (seC (rowW N f).ws f0 K F b k s m cap m2 cap2 N x y a a2 (sg y (.cells (urow N f) 46 (0, 0)) :: sg x (.cells #[.int .i64 (m : Int), .int .i64 1, .int .i64 0] 23 (0, 0)) :: h :: l)) (fun F' _ => (1000 - iv (gt F' 17)).toNat)
    ⟨0, kn, _, _, by decide, by simp [gt], by simp [gt], by simp [gt], ⟨by simp [gt, e0], by simp [gt, e1], by simp [gt, e2], by simp [gt, e3], by simp [gt, e9], by simp [gt, e10]⟩, hAl, by omega, hS⟩ ?_
  clear hS hx1 r1 r0 e11 e0 e1 e2 e3 e9 e10 hAl hl0
  rintro F' H' ⟨i, kn, t, w, hi, e17, e15, e16, ⟨e0, e1, e2, e3, e9, e10⟩, hAl, hl, hS⟩
  by_cases hlt2 : i < 1000
  · have d2 : decide ((i : Int) < 1000) = true := decide_eq_true (by omega)
    have wi : w64 ((i : Int) + 1) = ((i + 1 : Nat) : Int) := by rw [w64_eq (by omega) (by omega)]; omega
    have hts := hAl.es
    simp only [e17, e15, e16, e0, e1, e2, e3, e9, e10, d2, ↓D0, ↓D1, ↓D2, ↓D3, ↓D4, ↓D5, ↓D6, ↓D7, ↓D8, ↓D9, ↓D10, U0, U1, U2, U3, U4, U5, U6, U7, U8, U9, U10, ↓reduceIte, Nat.reduceAdd, Nat.reduceMul, Nat.reduceSub, Nat.reduceEqDiff, Nat.reduceBEq, Nat.reduceLeDiff, Nat.reduceLT, Int.reduceAdd, Int.reduceMul, Int.reduceSub, Int.reduceLT, Int.reduceLE, Int.reduceToNat, Int.reduceEq, Int.reduceNe, Int.reduceBEq, Int.reduceBNe, ne_eq, eq_self]
    refine callT_of (c_skstep hAl.wf (fun _ => by rw [hts]; exact hAl.of) hS) ?_
    rintro v H' ⟨rfl, kn2, hS⟩
    have hl2 := Sk.left_step (w := w) hAl.wf hl
    simp only [e17, e15, e16, e0, e1, e2, e3, e9, e10, wrap_w64, wi, ↓D0, ↓D1, ↓D2, ↓D3, ↓D4, ↓D5, ↓D6, ↓D7, ↓D8, ↓D9, ↓D10, U0, U1, U2, U3, U4, U5, U6, U7, U8, U9, U10, ↓reduceIte, Nat.reduceAdd, Nat.reduceMul, Nat.reduceSub, Nat.reduceEqDiff, Nat.reduceBEq, Nat.reduceLeDiff, Nat.reduceLT, Int.reduceAdd, Int.reduceMul, Int.reduceSub, Int.reduceLT, Int.reduceLE, Int.reduceToNat, Int.reduceEq, Int.reduceNe, Int.reduceBEq, Int.reduceBNe, ne_eq, eq_self]
    exact ⟨⟨i + 1, kn2, _, _, by omega, by simp [gt], by simp [gt, e15], by simp [gt, e16], ⟨by simp [gt, e0], by simp [gt, e1], by simp [gt, e2], by simp [gt, e3], by simp [gt, e9], by simp [gt, e10]⟩, hAl.step, by omega, hS⟩, by simp [gt, iv, e17]; omega⟩
  have hi1000 : i = 1000 := by omega
  subst hi1000
  have d2 : decide ((((1000 : Nat) : Int)) < 1000) = false := by decide
  have hd : t.dn = true := Sk.left_dn hAl.wf (by omega)
  have hends := Em.ends hHp hAl hd
  have hx1 := hS.lk 5 rfl
  have r1 := fun o n => rdn_of hx1 o n
  have r0 := fun o => rd_of hx1 o
  have wm1 : w64 ((m : Int) - 1) = (m : Int) - 1 := w64_eq (by omega) (by omega)
  obtain ⟨L, hL⟩ : ∃ L, skB k kn t :: nwB kn t.nw :: wB b s w :: wR s w :: sg y (.cells (urow N f) 46 (0, 0)) :: sg x (.cells #[.int .i64 (m : Int), .int .i64 1, .int .i64 0] 23 (0, 0)) :: h :: l = L := ⟨_, rfl⟩
  have L5 : L[5]? = some (sg x (.cells #[.int .i64 (m : Int), .int .i64 1, .int .i64 0] 23 (0, 0))) := by subst hL; rfl
  have Lh : h ∈ L := by subst hL; simp
  rw [hL] at hS
  have hwn : (w.n : Int) = (N : Int) := by
    have := hAl.of.n
    rw [← hNw]; exact this
  simp only [e17, e15, e16, e0, e1, e2, e3, e9, e10, hx1, r0, d2, wrap_w64, wm1, ↓D0, ↓D1, ↓D2, ↓D3, ↓D4, ↓D5, ↓D6, ↓D7, ↓D8, ↓D9, ↓D10, U0, U1, U2, U3, U4, U5, U6, U7, U8, U9, U10, ↓reduceIte, Nat.reduceAdd, Nat.reduceMul, Nat.reduceSub, Nat.reduceEqDiff, Nat.reduceBEq, Nat.reduceLeDiff, Nat.reduceLT, Int.reduceAdd, Int.reduceMul, Int.reduceSub, Int.reduceLT, Int.reduceLE, Int.reduceToNat, Int.reduceEq, Int.reduceNe, Int.reduceBEq, Int.reduceBNe, ne_eq, eq_self]
  refine loop_intro (seD fu f0 K F b k m cap m2 cap2 N x y a a2 L) (fun F' _ => (iv (gt F' 19) + 1).toNat)
    ⟨m, -1, Nat.le_refl _, by simp [gt, wm1], by simp [gt], by simp [gt, e15], by simp [gt, e16], ⟨by simp [gt, e0], by simp [gt, e1], by simp [gt, e2], by simp [gt, e3], by simp [gt, e9], by simp [gt, e10]⟩, .inl ⟨rfl, fun j j0 j1 => by omega⟩, hS⟩ ?_
  clear hS hx1 r1 r0 e17 e15 e16 e0 e1 e2 e3 e9 e10
  rintro F' H' ⟨i, want, hi2, e19, e18, e15, e16, ⟨e0, e1, e2, e3, e9, e10⟩, hW, hS⟩
  have hx1 := hS.lk 5 L5
  have r1 := fun o n => rdn_of hx1 o n
  have r0 := fun o => rd_of hx1 o
  by_cases hi0 : (0 : Int) ≤ (i : Int) - 1
  · obtain ⟨i', rfl⟩ : ∃ i', i = i' + 1 := ⟨i - 1, by omega⟩
    have ei : ((i' + 1 : Nat) : Int) - 1 = (i' : Int) := by omega
    rw [ei] at e19
    have d3 : decide ((0 : Int) ≤ (i' : Int)) = true := decide_eq_true (by omega)
    have wi : w64 ((i' : Int) - 1) = (i' : Int) - 1 := w64_eq (by omega) (by omega)
    have wa : w64 (f0 + (i' : Int)) = f0 + (i' : Int) := w64_eq (by omega) (by omega)
    have tp : (f0 + (i' : Int)).tmod (m : Int) = (f0 + (i' : Int)) % (m : Int) := Int.tmod_eq_emod_of_nonneg (by omega)
    obtain ⟨q, hq⟩ : ∃ q : Nat, (f0 + (i' : Int)) % (m : Int) = (q : Int) := ⟨((f0 + (i' : Int)) % (m : Int)).toNat, by have := Int.emod_nonneg (f0 + (i' : Int)) mpos; omega⟩
    have hqm : q < m := by have := Int.emod_lt_of_pos (f0 + (i' : Int)) (by omega : (0 : Int) < m); omega
    have hqn : ((f0 + (i' : Int)) % (m : Int)).toNat = q := by omega
    have hWf : fu q = false → seW m fu f0 i' q := fun g => .inr ⟨i', Int.le_refl _, by omega, hq.symm, by rw [hqn]; exact g, fun j j0 j1 => by omega⟩
    have hWt : fu q = true → seW m fu f0 i' want := fun g => by
      rcases hW with ⟨w1, w2⟩ | ⟨j, w1, w2, w3, w4, w5⟩
      · refine .inl ⟨w1, fun j j0 j1 => ?_⟩
        by_cases ej : j = i'
        · rw [ej, hqn]; exact g
        · exact w2 j (by omega) j1
      · refine .inr ⟨j, by omega, w2, w3, w4, fun j' j0 j1 => ?_⟩
        by_cases ej : j' = i'
        · rw [ej, hqn]; exact g
        · exact w5 j' (by omega) j1
    by_cases hq2 : q < m2
    rotate_left
    · have dq : decide ((m2 : Int) ≤ (q : Int)) = true := decide_eq_true (by omega)
      have hff : fu q = false := by rw [hfue]; unfold seF; rw [decide_eq_false hq2]; rfl
      simp only [e19, e18, e15, e16, e0, e1, e2, e3, e9, e10, hx1, r0, d3, mpos, tF, hf0, wrap_w64, wa, tp, hq, dq, wi, ↓D0, ↓D1, ↓D2, ↓D3, ↓D4, ↓D5, ↓D6, ↓D7, ↓D8, ↓D9, ↓D10, U0, U1, U2, U3, U4, U5, U6, U7, U8, U9, U10, ↓reduceIte, Nat.reduceAdd, Nat.reduceMul, Nat.reduceSub, Nat.reduceEqDiff, Nat.reduceBEq, Nat.reduceLeDiff, Nat.reduceLT, Int.reduceAdd, Int.reduceMul, Int.reduceSub, Int.reduceLT, Int.reduceLE, Int.reduceToNat, Int.reduceEq, Int.reduceNe, Int.reduceBEq, Int.reduceBNe, ne_eq, eq_self]
      exact ⟨⟨i', q, by omega, by simp [gt, wi], by simp [gt], by simp [gt, e15], by simp [gt, e16], ⟨by simp [gt, e0], by simp [gt, e1], by simp [gt, e2], by simp [gt, e3], by simp [gt, e9], by simp [gt, e10]⟩, hWf hff, hS⟩, by simp [gt, iv, e19, wi]⟩
    · have dq : decide ((m2 : Int) ≤ (q : Int)) = false := decide_eq_false (by omega)
      have q0 : (0 : Int) ≤ (q : Int) := by omega
      have q2 : (q : Int) < (m2 : Int) := by omega
      have hff : fu q = B q := by rw [hfue]; unfold seF; rw [decide_eq_true hq2]; simp
      obtain ⟨b2, o2, rfl, hrd⟩ := (hr2.sub (hS.sb h Lh)).at' hq2
      have hrd : rd H' b2 (o2 + q) = some (.bool (B q)) := hrd
      cases hB : B q
      · rw [hB] at hrd
        simp only [e19, e18, e15, e16, e0, e1, e2, e3, e9, e10, hx1, r0, d3, mpos, tF, hf0, wrap_w64, wa, tp, hq, dq, q0, q2, Int.toNat_natCast, hrd, wi, ↓D0, ↓D1, ↓D2, ↓D3, ↓D4, ↓D5, ↓D6, ↓D7, ↓D8, ↓D9, ↓D10, U0, U1, U2, U3, U4, U5, U6, U7, U8, U9, U10, ↓reduceIte, Nat.reduceAdd, Nat.reduceMul, Nat.reduceSub, Nat.reduceEqDiff, Nat.reduceBEq, Nat.reduceLeDiff, Nat.reduceLT, Int.reduceAdd, Int.reduceMul, Int.reduceSub, Int.reduceLT, Int.reduceLE, Int.reduceToNat, Int.reduceEq, Int.reduceNe, Int.reduceBEq, Int.reduceBNe, ne_eq, eq_self]
        exact ⟨⟨i', q, by omega, by simp [gt, wi], by simp [gt], by simp [gt, e15], by simp [gt, e16], ⟨by simp [gt, e0], by simp [gt, e1], by simp [gt, e2], by simp [gt, e3], by simp [gt, e9], by simp [gt, e10]⟩, hWf (by rw [hff, hB]), hS⟩, by simp [gt, iv, e19, wi]⟩
      · rw [hB] at hrd
        simp only [e19, e18, e15, e16, e0, e1, e2, e3, e9, e10, hx1, r0, d3, mpos, tF, hf0, wrap_w64, wa, tp, hq, dq, q0, q2, Int.toNat_natCast, hrd, wi, ↓D0, ↓D1, ↓D2, ↓D3, ↓D4, ↓D5, ↓D6, ↓D7, ↓D8, ↓D9, ↓D10, U0, U1, U2, U3, U4, U5, U6, U7, U8, U9, U10, ↓reduceIte, Nat.reduceAdd, Nat.reduceMul, Nat.reduceSub, Nat.reduceEqDiff, Nat.reduceBEq, Nat.reduceLeDiff, Nat.reduceLT, Int.reduceAdd, Int.reduceMul, Int.reduceSub, Int.reduceLT, Int.reduceLE, Int.reduceToNat, Int.reduceEq, Int.reduceNe, Int.reduceBEq, Int.reduceBNe, ne_eq, eq_self]
        exact ⟨⟨i', want, by omega, by simp [gt, wi], by simp [gt, e18], by simp [gt, e15], by simp [gt, e16], ⟨by simp [gt, e0], by simp [gt, e1], by simp [gt, e2], by simp [gt, e3], by simp [gt, e9], by simp [gt, e10]⟩, hWt (by rw [hff, hB]), hS⟩, by simp [gt, iv, e19, wi]⟩
  have hi00 : i = 0 := by omega
  subst hi00
  have d3 : decide ((0 : Int) ≤ ((0 : Nat) : Int) - 1) = false := by decide
  subst hL
  simp only [e19, e18, e15, e16, e0, e1, e2, e3, e9, e10, d3, ↓D0, ↓D1, ↓D2, ↓D3, ↓D4, ↓D5, ↓D6, ↓D7, ↓D8, ↓D9, ↓D10, U0, U1, U2, U3, U4, U5, U6, U7, U8, U9, U10, ↓reduceIte, Nat.reduceAdd, Nat.reduceMul, Nat.reduceSub, Nat.reduceEqDiff, Nat.reduceBEq, Nat.reduceLeDiff, Nat.reduceLT, Int.reduceAdd, Int.reduceMul, Int.reduceSub, Int.reduceLT, Int.reduceLE, Int.reduceToNat, Int.reduceEq, Int.reduceNe, Int.reduceBEq, Int.reduceBNe, ne_eq, eq_self]
  refine callT_of (c_skfound hS) ?_
  rintro v H' ⟨rfl, hS⟩
  simp only [e19, e18, e15, e16, e0, e1, e2, e3, e9, e10, ↓D0, ↓D1, ↓D2, ↓D3, ↓D4, ↓D5, ↓D6, ↓D7, ↓D8, ↓D9, ↓D10, U0, U1, U2, U3, U4, U5, U6, U7, U8, U9, U10, ↓reduceIte, Nat.reduceAdd, Nat.reduceMul, Nat.reduceSub, Nat.reduceEqDiff, Nat.reduceBEq, Nat.reduceLeDiff, Nat.reduceLT, Int.reduceAdd, Int.reduceMul, Int.reduceSub, Int.reduceLT, Int.reduceLE, Int.reduceToNat, Int.reduceEq, Int.reduceNe, Int.reduceBEq, Int.reduceBNe, ne_eq, eq_self]
  refine callT_of (c_skdone hS) ?_
  rintro v H' ⟨rfl, hS⟩
  have hS := hS.p3.p3
  have m0 : (1 : Int) ≤ (m : Int) := by omega
  have hNN : (N : Int) = 1 + (m : Int) + (m : Int) * 16 := by omega
  have hrow : ∀ i : Nat, i < N → (rowW N f).ws i = f i := fun i hi => if_pos hi
  rcases hends with ⟨hfd, hws, hall⟩ | ⟨hfd, hsl0, hoff, hpgw, j, hfst, hpgj⟩
  · have hwant : want = -1 := by
      rcases hW with ⟨w1, -⟩ | ⟨j, w1, w2, w3, w4, -⟩
      · exact w1
      · rw [hall j (by omega) w2] at w4; cases w4
    subst hwant
    have dl : decide ((0 : Int) ≤ -1) = false := by decide
    simp only [e19, e18, e15, e16, e0, e1, e2, e3, e9, e10, hd, hfd, dl, ↓D0, ↓D1, ↓D2, ↓D3, ↓D4, ↓D5, ↓D6, ↓D7, ↓D8, ↓D9, ↓D10, U0, U1, U2, U3, U4, U5, U6, U7, U8, U9, U10, ↓reduceIte, Nat.reduceAdd, Nat.reduceMul, Nat.reduceSub, Nat.reduceEqDiff, Nat.reduceBEq, Nat.reduceLeDiff, Nat.reduceLT, Int.reduceAdd, Int.reduceMul, Int.reduceSub, Int.reduceLT, Int.reduceLE, Int.reduceToNat, Int.reduceEq, Int.reduceNe, Int.reduceBEq, Int.reduceBNe, ne_eq, eq_self]
    refine loop_intro (seE false (-1) 0 0 K F b m cap m2 cap2 N x y a a2 (wB b s w :: wR s w :: skB k kn t :: nwB kn t.nw :: sg y (.cells (urow N f) 46 (0, 0)) :: sg x (.cells #[.int .i64 (m : Int), .int .i64 1, .int .i64 0] 23 (0, 0)) :: h :: l)) (fun F' _ => (N - iv (gt F' 24)).toNat)
      ⟨0, Nat.zero_le _, by simp [gt], by simp [gt, e18], by simp [gt, hfd], by simp [gt, hfd], by simp [gt, hfd], by simp [gt, e15], ⟨by simp [gt, e0], by simp [gt, e1], by simp [gt, e2], by simp [gt, e3], by simp [gt, e9], by simp [gt, e10]⟩, hS⟩ ?_
    clear hS hx1 r1 r0 e19 e18 e15 e16 e0 e1 e2 e3 e9 e10
    rintro F' H' ⟨i, hiN, e24, e18, e21, e22, e23, e15, ⟨e0, e1, e2, e3, e9, e10⟩, hS⟩
    by_cases hlt3 : i < N
    · have d4 : decide ((i : Int) < (N : Int)) = true := decide_eq_true (by omega)
      have p0 : (0 : Int) ≤ (i : Int) := by omega
      have p1 : (i : Int) < (N : Int) := by omega
      have wi : w64 ((i : Int) + 1) = ((i + 1 : Nat) : Int) := by rw [w64_eq (by omega) (by omega)]; omega
      have hy1 := hS.lk 4 rfl
      have r2 := fun o => rd_of hy1 o
      have hgi : w.get (i : Int) = f i := by
        show w.ws (i : Int).toNat = _
        rw [hws, Int.toNat_natCast]; exact hrow i hlt3
      have gne : (f i != f i) = false := by simp
      simp only [e24, e18, e21, e22, e23, e15, e0, e1, e2, e3, e9, e10, d4, ↓D0, ↓D1, ↓D2, ↓D3, ↓D4, ↓D5, ↓D6, ↓D7, ↓D8, ↓D9, ↓D10, U0, U1, U2, U3, U4, U5, U6, U7, U8, U9, U10, ↓reduceIte, Nat.reduceAdd, Nat.reduceMul, Nat.reduceSub, Nat.reduceEqDiff, Nat.reduceBEq, Nat.reduceLeDiff, Nat.reduceLT, Int.reduceAdd, Int.reduceMul, Int.reduceSub, Int.reduceLT, Int.reduceLE, Int.reduceToNat, Int.reduceEq, Int.reduceNe, Int.reduceBEq, Int.reduceBNe, ne_eq, eq_self]
      refine draw_intro [(y, urow N f, [])] (by simp only [hy1, ↓D0, ↓D1, ↓D2, ↓D3, ↓D4, ↓D5, ↓D6, ↓D7, ↓D8, ↓D9, ↓D10, U0, U1, U2, U3, U4, U5, U6, U7, U8, U9, U10, ↓reduceIte, Nat.reduceAdd, Nat.reduceMul, Nat.reduceSub, Nat.reduceEqDiff, Nat.reduceBEq, Nat.reduceLeDiff, Nat.reduceLT, Int.reduceAdd, Int.reduceMul, Int.reduceSub, Int.reduceLT, Int.reduceLE, Int.reduceToNat, Int.reduceEq, Int.reduceNe, Int.reduceBEq, Int.reduceBNe, ne_eq, eq_self]) ?_
      simp only [e24, e18, e21, e22, e23, e15, e0, e1, e2, e3, e9, e10, d4, hy1, r2, p0, p1, urow_size, urow_at hlt3, Int.toNat_natCast, ↓D0, ↓D1, ↓D2, ↓D3, ↓D4, ↓D5, ↓D6, ↓D7, ↓D8, ↓D9, ↓D10, U0, U1, U2, U3, U4, U5, U6, U7, U8, U9, U10, ↓reduceIte, Nat.reduceAdd, Nat.reduceMul, Nat.reduceSub, Nat.reduceEqDiff, Nat.reduceBEq, Nat.reduceLeDiff, Nat.reduceLT, Int.reduceAdd, Int.reduceMul, Int.reduceSub, Int.reduceLT, Int.reduceLE, Int.reduceToNat, Int.reduceEq, Int.reduceNe, Int.reduceBEq, Int.reduceBNe, ne_eq, eq_self]
      refine callT_of (c_look (i : Int) p0 (by omega) hS) ?_
      rintro v H' ⟨rfl, hS⟩
      have hy1 := hS.lk 4 rfl
      have r2 := fun o => rd_of hy1 o
      simp only [e24, e18, e21, e22, e23, e15, e0, e1, e2, e3, e9, e10, hy1, r2, p0, p1, urow_size, urow_at hlt3, Int.toNat_natCast, hgi, gne, wrap_w64, wi, ↓D0, ↓D1, ↓D2, ↓D3, ↓D4, ↓D5, ↓D6, ↓D7, ↓D8, ↓D9, ↓D10, U0, U1, U2, U3, U4, U5, U6, U7, U8, U9, U10, ↓reduceIte, Nat.reduceAdd, Nat.reduceMul, Nat.reduceSub, Nat.reduceEqDiff, Nat.reduceBEq, Nat.reduceLeDiff, Nat.reduceLT, Int.reduceAdd, Int.reduceMul, Int.reduceSub, Int.reduceLT, Int.reduceLE, Int.reduceToNat, Int.reduceEq, Int.reduceNe, Int.reduceBEq, Int.reduceBNe, ne_eq, eq_self]
      exact ⟨⟨i + 1, hlt3, by simp [gt], by simp [gt, e18], by simp [gt, e21], by simp [gt, e22], by simp [gt, e23], by simp [gt, e15], ⟨by simp [gt, e0], by simp [gt, e1], by simp [gt, e2], by simp [gt, e3], by simp [gt, e9], by simp [gt, e10]⟩, hS⟩, by simp [gt, iv, e24]; omega⟩
    have d4 : decide ((i : Int) < (N : Int)) = false := decide_eq_false (by omega)
    simp only [e24, e18, e21, e22, e23, e15, e0, e1, e2, e3, e9, e10, d4, ↓D0, ↓D1, ↓D2, ↓D3, ↓D4, ↓D5, ↓D6, ↓D7, ↓D8, ↓D9, ↓D10, U0, U1, U2, U3, U4, U5, U6, U7, U8, U9, U10, ↓reduceIte, Nat.reduceAdd, Nat.reduceMul, Nat.reduceSub, Nat.reduceEqDiff, Nat.reduceBEq, Nat.reduceLeDiff, Nat.reduceLT, Int.reduceAdd, Int.reduceMul, Int.reduceSub, Int.reduceLT, Int.reduceLE, Int.reduceToNat, Int.reduceEq, Int.reduceNe, Int.reduceBEq, Int.reduceBNe, ne_eq, eq_self]
    exact hS.tail.tail.tail.tail.tail.tail
  · have hpb : 0 ≤ t.pg ∧ t.pg < (m : Int) := by rw [hpgj]; exact ⟨Int.emod_nonneg _ mpos, Int.emod_lt_of_pos _ (by omega)⟩
    have hwant : want = t.pg := by
      rcases hW with ⟨-, w2⟩ | ⟨j', w1, w2, w3, w4, w5⟩
      · have := w2 j (by have := hfst.1; omega) hfst.2.1
        rw [hfst.2.2.1] at this; cases this
      · have hj' : Em.First m fu f0 j' := ⟨by omega, w2, w4, fun q q0 q1 => w5 q (by omega) q1⟩
        rw [w3, hpgj, hfst.uniq hj']
    rw [← hwant] at hpb hoff hpgw
    have dl : decide ((0 : Int) ≤ want) = true := decide_eq_true hpb.1
    simp only [e19, e18, e15, e16, e0, e1, e2, e3, e9, e10, hd, hfd, dl, ↓D0, ↓D1, ↓D2, ↓D3, ↓D4, ↓D5, ↓D6, ↓D7, ↓D8, ↓D9, ↓D10, U0, U1, U2, U3, U4, U5, U6, U7, U8, U9, U10, ↓reduceIte, Nat.reduceAdd, Nat.reduceMul, Nat.reduceSub, Nat.reduceEqDiff, Nat.reduceBEq, Nat.reduceLeDiff, Nat.reduceLT, Int.reduceAdd, Int.reduceMul, Int.reduceSub, Int.reduceLT, Int.reduceLE, Int.reduceToNat, Int.reduceEq, Int.reduceNe, Int.reduceBEq, Int.reduceBNe, ne_eq, eq_self]
    refine loop_intro (seE true want want 0 K F b m cap m2 cap2 N x y a a2 (wB b s w :: wR s w :: skB k kn t :: nwB kn t.nw :: sg y (.cells (urow N f) 46 (0, 0)) :: sg x (.cells #[.int .i64 (m : Int), .int .i64 1, .int .i64 0] 23 (0, 0)) :: h :: l)) (fun F' _ => (N - iv (gt F' 24)).toNat)
      ⟨0, Nat.zero_le _, by simp [gt], by simp [gt, e18], by simp [gt, hfd, hwant], by simp [gt, hfd, hsl0], by simp [gt, hfd], by simp [gt, e15], ⟨by simp [gt, e0], by simp [gt, e1], by simp [gt, e2], by simp [gt, e3], by simp [gt, e9], by simp [gt, e10]⟩, hS⟩ ?_
    clear hS hx1 r1 r0 e19 e18 e15 e16 e0 e1 e2 e3 e9 e10
    have hpgW : page (m : Int) 1 0 want = 1 + want := page_yes hmay hpb.1 hpb.2
    have hs0 : slot (m : Int) 1 0 want 0 = 1 + (m : Int) + want * 16 + 0 := slot_yes hmay hpb.1 hpb.2 (by decide) (by decide)
    have hs15 : slot (m : Int) 1 0 want 15 = 1 + (m : Int) + want * 16 + 15 := slot_yes hmay hpb.1 hpb.2 (by decide) (by decide)
    rintro F' H' ⟨i, hiN, e24, e18, e21, e22, e23, e15, ⟨e0, e1, e2, e3, e9, e10⟩, hS⟩
    have hx1 := hS.lk 5 rfl
    have r1 := fun o n => rdn_of hx1 o n
    by_cases hlt3 : i < N
    · have d4 : decide ((i : Int) < (N : Int)) = true := decide_eq_true (by omega)
      have p0 : (0 : Int) ≤ (i : Int) := by omega
      have p1 : (i : Int) < (N : Int) := by omega
      have wi : w64 ((i : Int) + 1) = ((i + 1 : Nat) : Int) := by rw [w64_eq (by omega) (by omega)]; omega
      have hy1 := hS.lk 4 rfl
      have r2 := fun o => rd_of hy1 o
      have gne : (f i != f i) = false := by simp
      by_cases k1 : (i : Int) = 1 + want
      · have g1 : ((i : Int) == 1 + want) = true := beq_iff_eq.2 k1
        simp only [e24, e18, e21, e22, e23, e15, e0, e1, e2, e3, e9, e10, d4, hx1, r1, u_page, u_slot, hpgW, hs0, hs15, g1, ↓D0, ↓D1, ↓D2, ↓D3, ↓D4, ↓D5, ↓D6, ↓D7, ↓D8, ↓D9, ↓D10, U0, U1, U2, U3, U4, U5, U6, U7, U8, U9, U10, ↓reduceIte, Nat.reduceAdd, Nat.reduceMul, Nat.reduceSub, Nat.reduceEqDiff, Nat.reduceBEq, Nat.reduceLeDiff, Nat.reduceLT, Int.reduceAdd, Int.reduceMul, Int.reduceSub, Int.reduceLT, Int.reduceLE, Int.reduceToNat, Int.reduceEq, Int.reduceNe, Int.reduceBEq, Int.reduceBNe, ne_eq, eq_self]
        refine draw_intro [(y, urow N f, [])] (by simp only [hy1, ↓D0, ↓D1, ↓D2, ↓D3, ↓D4, ↓D5, ↓D6, ↓D7, ↓D8, ↓D9, ↓D10, U0, U1, U2, U3, U4, U5, U6, U7, U8, U9, U10, ↓reduceIte, Nat.reduceAdd, Nat.reduceMul, Nat.reduceSub, Nat.reduceEqDiff, Nat.reduceBEq, Nat.reduceLeDiff, Nat.reduceLT, Int.reduceAdd, Int.reduceMul, Int.reduceSub, Int.reduceLT, Int.reduceLE, Int.reduceToNat, Int.reduceEq, Int.reduceNe, Int.reduceBEq, Int.reduceBNe, ne_eq, eq_self]) ?_
        simp only [e24, e18, e21, e22, e23, e15, e0, e1, e2, e3, e9, e10, d4, hy1, r2, p0, p1, wrap_w64, wi, ↓D0, ↓D1, ↓D2, ↓D3, ↓D4, ↓D5, ↓D6, ↓D7, ↓D8, ↓D9, ↓D10, U0, U1, U2, U3, U4, U5, U6, U7, U8, U9, U10, ↓reduceIte, Nat.reduceAdd, Nat.reduceMul, Nat.reduceSub, Nat.reduceEqDiff, Nat.reduceBEq, Nat.reduceLeDiff, Nat.reduceLT, Int.reduceAdd, Int.reduceMul, Int.reduceSub, Int.reduceLT, Int.reduceLE, Int.reduceToNat, Int.reduceEq, Int.reduceNe, Int.reduceBEq, Int.reduceBNe, ne_eq, eq_self]
        exact ⟨⟨i + 1, hlt3, by simp [gt], by simp [gt, e18], by simp [gt, e21], by simp [gt, e22], by simp [gt, e23], by simp [gt, e15], ⟨by simp [gt, e0], by simp [gt, e1], by simp [gt, e2], by simp [gt, e3], by simp [gt, e9], by simp [gt, e10]⟩, hS⟩, by simp [gt, iv, e24]; omega⟩
      have g1 : ((i : Int) == 1 + want) = false := beq_eq_false_iff_ne.2 k1
      by_cases k2 : 1 + (m : Int) + want * 16 + 0 ≤ (i : Int)
      rotate_left
      · have g2 : decide (1 + (m : Int) + want * 16 + 0 ≤ (i : Int)) = false := decide_eq_false k2
        have hgi : w.get (i : Int) = f i := by
          show w.ws (i : Int).toNat = _
          rw [Int.toNat_natCast, hoff i (by show (i : Int) ≠ 1 + want; omega) (by show ¬ ((1 : Int) + m + want * 16 ≤ (i : Int) ∧ (i : Int) < 1 + m + want * 16 + 16); omega)]; exact hrow i hlt3
        simp only [e24, e18, e21, e22, e23, e15, e0, e1, e2, e3, e9, e10, d4, hx1, r1, u_page, u_slot, hpgW, hs0, hs15, g1, g2, ↓D0, ↓D1, ↓D2, ↓D3, ↓D4, ↓D5, ↓D6, ↓D7, ↓D8, ↓D9, ↓D10, U0, U1, U2, U3, U4, U5, U6, U7, U8, U9, U10, ↓reduceIte, Nat.reduceAdd, Nat.reduceMul, Nat.reduceSub, Nat.reduceEqDiff, Nat.reduceBEq, Nat.reduceLeDiff, Nat.reduceLT, Int.reduceAdd, Int.reduceMul, Int.reduceSub, Int.reduceLT, Int.reduceLE, Int.reduceToNat, Int.reduceEq, Int.reduceNe, Int.reduceBEq, Int.reduceBNe, ne_eq, eq_self]
        refine draw_intro [(y, urow N f, [])] (by simp only [hy1, ↓D0, ↓D1, ↓D2, ↓D3, ↓D4, ↓D5, ↓D6, ↓D7, ↓D8, ↓D9, ↓D10, U0, U1, U2, U3, U4, U5, U6, U7, U8, U9, U10, ↓reduceIte, Nat.reduceAdd, Nat.reduceMul, Nat.reduceSub, Nat.reduceEqDiff, Nat.reduceBEq, Nat.reduceLeDiff, Nat.reduceLT, Int.reduceAdd, Int.reduceMul, Int.reduceSub, Int.reduceLT, Int.reduceLE, Int.reduceToNat, Int.reduceEq, Int.reduceNe, Int.reduceBEq, Int.reduceBNe, ne_eq, eq_self]) ?_
        simp only [e24, e18, e21, e22, e23, e15, e0, e1, e2, e3, e9, e10, d4, hy1, r2, p0, p1, urow_size, urow_at hlt3, Int.toNat_natCast, ↓D0, ↓D1, ↓D2, ↓D3, ↓D4, ↓D5, ↓D6, ↓D7, ↓D8, ↓D9, ↓D10, U0, U1, U2, U3, U4, U5, U6, U7, U8, U9, U10, ↓reduceIte, Nat.reduceAdd, Nat.reduceMul, Nat.reduceSub, Nat.reduceEqDiff, Nat.reduceBEq, Nat.reduceLeDiff, Nat.reduceLT, Int.reduceAdd, Int.reduceMul, Int.reduceSub, Int.reduceLT, Int.reduceLE, Int.reduceToNat, Int.reduceEq, Int.reduceNe, Int.reduceBEq, Int.reduceBNe, ne_eq, eq_self]
        refine callT_of (c_look (i : Int) p0 (by omega) hS) ?_
        rintro v H' ⟨rfl, hS⟩
        have hy1 := hS.lk 4 rfl
        have r2 := fun o => rd_of hy1 o
        simp only [e24, e18, e21, e22, e23, e15, e0, e1, e2, e3, e9, e10, d4, hy1, r2, p0, p1, urow_size, urow_at hlt3, Int.toNat_natCast, hgi, gne, wrap_w64, wi, ↓D0, ↓D1, ↓D2, ↓D3, ↓D4, ↓D5, ↓D6, ↓D7, ↓D8, ↓D9, ↓D10, U0, U1, U2, U3, U4, U5, U6, U7, U8, U9, U10, ↓reduceIte, Nat.reduceAdd, Nat.reduceMul, Nat.reduceSub, Nat.reduceEqDiff, Nat.reduceBEq, Nat.reduceLeDiff, Nat.reduceLT, Int.reduceAdd, Int.reduceMul, Int.reduceSub, Int.reduceLT, Int.reduceLE, Int.reduceToNat, Int.reduceEq, Int.reduceNe, Int.reduceBEq, Int.reduceBNe, ne_eq, eq_self]
        exact ⟨⟨i + 1, hlt3, by simp [gt], by simp [gt, e18], by simp [gt, e21], by simp [gt, e22], by simp [gt, e23], by simp [gt, e15], ⟨by simp [gt, e0], by simp [gt, e1], by simp [gt, e2], by simp [gt, e3], by simp [gt, e9], by simp [gt, e10]⟩, hS⟩, by simp [gt, iv, e24]; omega⟩
      have g2 : decide (1 + (m : Int) + want * 16 + 0 ≤ (i : Int)) = true := decide_eq_true k2
      by_cases k3 : (i : Int) ≤ 1 + (m : Int) + want * 16 + 15
      · have g3 : decide ((i : Int) ≤ 1 + (m : Int) + want * 16 + 15) = true := decide_eq_true k3
        simp only [e24, e18, e21, e22, e23, e15, e0, e1, e2, e3, e9, e10, d4, hx1, r1, u_page, u_slot, hpgW, hs0, hs15, g1, g2, g3, ↓D0, ↓D1, ↓D2, ↓D3, ↓D4, ↓D5, ↓D6, ↓D7, ↓D8, ↓D9, ↓D10, U0, U1, U2, U3, U4, U5, U6, U7, U8, U9, U10, ↓reduceIte, Nat.reduceAdd, Nat.reduceMul, Nat.reduceSub, Nat.reduceEqDiff, Nat.reduceBEq, Nat.reduceLeDiff, Nat.reduceLT, Int.reduceAdd, Int.reduceMul, Int.reduceSub, Int.reduceLT, Int.reduceLE, Int.reduceToNat, Int.reduceEq, Int.reduceNe, Int.reduceBEq, Int.reduceBNe, ne_eq, eq_self]
        refine draw_intro [(y, urow N f, [])] (by simp only [hy1, ↓D0, ↓D1, ↓D2, ↓D3, ↓D4, ↓D5, ↓D6, ↓D7, ↓D8, ↓D9, ↓D10, U0, U1, U2, U3, U4, U5, U6, U7, U8, U9, U10, ↓reduceIte, Nat.reduceAdd, Nat.reduceMul, Nat.reduceSub, Nat.reduceEqDiff, Nat.reduceBEq, Nat.reduceLeDiff, Nat.reduceLT, Int.reduceAdd, Int.reduceMul, Int.reduceSub, Int.reduceLT, Int.reduceLE, Int.reduceToNat, Int.reduceEq, Int.reduceNe, Int.reduceBEq, Int.reduceBNe, ne_eq, eq_self]) ?_
        simp only [e24, e18, e21, e22, e23, e15, e0, e1, e2, e3, e9, e10, d4, hy1, r2, p0, p1, wrap_w64, wi, ↓D0, ↓D1, ↓D2, ↓D3, ↓D4, ↓D5, ↓D6, ↓D7, ↓D8, ↓D9, ↓D10, U0, U1, U2, U3, U4, U5, U6, U7, U8, U9, U10, ↓reduceIte, Nat.reduceAdd, Nat.reduceMul, Nat.reduceSub, Nat.reduceEqDiff, Nat.reduceBEq, Nat.reduceLeDiff, Nat.reduceLT, Int.reduceAdd, Int.reduceMul, Int.reduceSub, Int.reduceLT, Int.reduceLE, Int.reduceToNat, Int.reduceEq, Int.reduceNe, Int.reduceBEq, Int.reduceBNe, ne_eq, eq_self]
        exact ⟨⟨i + 1, hlt3, by simp [gt], by simp [gt, e18], by simp [gt, e21], by simp [gt, e22], by simp [gt, e23], by simp [gt, e15], ⟨by simp [gt, e0], by simp [gt, e1], by simp [gt, e2], by simp [gt, e3], by simp [gt, e9], by simp [gt, e10]⟩, hS⟩, by simp [gt, iv, e24]; omega⟩
      have g3 : decide ((i : Int) ≤ 1 + (m : Int) + want * 16 + 15) = false := decide_eq_false k3
      have hgi : w.get (i : Int) = f i := by
        show w.ws (i : Int).toNat = _
        rw [Int.toNat_natCast, hoff i (by show (i : Int) ≠ 1 + want; omega) (by show ¬ ((1 : Int) + m + want * 16 ≤ (i : Int) ∧ (i : Int) < 1 + m + want * 16 + 16); omega)]; exact hrow i hlt3
      simp only [e24, e18, e21, e22, e23, e15, e0, e1, e2, e3, e9, e10, d4, hx1, r1, u_page, u_slot, hpgW, hs0, hs15, g1, g2, g3, ↓D0, ↓D1, ↓D2, ↓D3, ↓D4, ↓D5, ↓D6, ↓D7, ↓D8, ↓D9, ↓D10, U0, U1, U2, U3, U4, U5, U6, U7, U8, U9, U10, ↓reduceIte, Nat.reduceAdd, Nat.reduceMul, Nat.reduceSub, Nat.reduceEqDiff, Nat.reduceBEq, Nat.reduceLeDiff, Nat.reduceLT, Int.reduceAdd, Int.reduceMul, Int.reduceSub, Int.reduceLT, Int.reduceLE, Int.reduceToNat, Int.reduceEq, Int.reduceNe, Int.reduceBEq, Int.reduceBNe, ne_eq, eq_self]
      refine draw_intro [(y, urow N f, [])] (by simp only [hy1, ↓D0, ↓D1, ↓D2, ↓D3, ↓D4, ↓D5, ↓D6, ↓D7, ↓D8, ↓D9, ↓D10, U0, U1, U2, U3, U4, U5, U6, U7, U8, U9, U10, ↓reduceIte, Nat.reduceAdd, Nat.reduceMul, Nat.reduceSub, Nat.reduceEqDiff, Nat.reduceBEq, Nat.reduceLeDiff, Nat.reduceLT, Int.reduceAdd, Int.reduceMul, Int.reduceSub, Int.reduceLT, Int.reduceLE, Int.reduceToNat, Int.reduceEq, Int.reduceNe, Int.reduceBEq, Int.reduceBNe, ne_eq, eq_self]) ?_
      simp only [e24, e18, e21, e22, e23, e15, e0, e1, e2, e3, e9, e10, d4, hy1, r2, p0, p1, urow_size, urow_at hlt3, Int.toNat_natCast, ↓D0, ↓D1, ↓D2, ↓D3, ↓D4, ↓D5, ↓D6, ↓D7, ↓D8, ↓D9, ↓D10, U0, U1, U2, U3, U4, U5, U6, U7, U8, U9, U10, ↓reduceIte, Nat.reduceAdd, Nat.reduceMul, Nat.reduceSub, Nat.reduceEqDiff, Nat.reduceBEq, Nat.reduceLeDiff, Nat.reduceLT, Int.reduceAdd, Int.reduceMul, Int.reduceSub, Int.reduceLT, Int.reduceLE, Int.reduceToNat, Int.reduceEq, Int.reduceNe, Int.reduceBEq, Int.reduceBNe, ne_eq, eq_self]
      refine callT_of (c_look (i : Int) p0 (by omega) hS) ?_
      rintro v H' ⟨rfl, hS⟩
      have hy1 := hS.lk 4 rfl
      have r2 := fun o => rd_of hy1 o
      simp only [e24, e18, e21, e22, e23, e15, e0, e1, e2, e3, e9, e10, d4, hy1, r2, p0, p1, urow_size, urow_at hlt3, Int.toNat_natCast, hgi, gne, wrap_w64, wi, ↓D0, ↓D1, ↓D2, ↓D3, ↓D4, ↓D5, ↓D6, ↓D7, ↓D8, ↓D9, ↓D10, U0, U1, U2, U3, U4, U5, U6, U7, U8, U9, U10, ↓reduceIte, Nat.reduceAdd, Nat.reduceMul, Nat.reduceSub, Nat.reduceEqDiff, Nat.reduceBEq, Nat.reduceLeDiff, Nat.reduceLT, Int.reduceAdd, Int.reduceMul, Int.reduceSub, Int.reduceLT, Int.reduceLE, Int.reduceToNat, Int.reduceEq, Int.reduceNe, Int.reduceBEq, Int.reduceBNe, ne_eq, eq_self]
      exact ⟨⟨i + 1, hlt3, by simp [gt], by simp [gt, e18], by simp [gt, e21], by simp [gt, e22], by simp [gt, e23], by simp [gt, e15], ⟨by simp [gt, e0], by simp [gt, e1], by simp [gt, e2], by simp [gt, e3], by simp [gt, e9], by simp [gt, e10]⟩, hS⟩, by simp [gt, iv, e24]; omega⟩
    have d4 : decide ((i : Int) < (N : Int)) = false := decide_eq_false (by omega)
    have gw : (want == want) = true := by simp
    have hgp : w.get (1 + want) = putPg 2 K 0 := by
      have : Go.Ma.pgAt ⟨m, 1, 0⟩ w.ws want = w.get (1 + want) := by
        show w.ws (page (m : Int) 1 0 want).toNat = w.ws (1 + want).toNat
        rw [hpgW]
      rw [← this, hpgw]; rfl
    have gp : (putPg 2 K 0 == putPg 2 K 0) = true := by simp
    simp only [e24, e18, e21, e22, e23, e15, e0, e1, e2, e3, e9, e10, d4, hx1, r1, u_page, hpgW, gw, ↓D0, ↓D1, ↓D2, ↓D3, ↓D4, ↓D5, ↓D6, ↓D7, ↓D8, ↓D9, ↓D10, U0, U1, U2, U3, U4, U5, U6, U7, U8, U9, U10, ↓reduceIte, Nat.reduceAdd, Nat.reduceMul, Nat.reduceSub, Nat.reduceEqDiff, Nat.reduceBEq, Nat.reduceLeDiff, Nat.reduceLT, Int.reduceAdd, Int.reduceMul, Int.reduceSub, Int.reduceLT, Int.reduceLE, Int.reduceToNat, Int.reduceEq, Int.reduceNe, Int.reduceBEq, Int.reduceBNe, ne_eq, eq_self]
    refine callT_of (c_look (1 + want) (by omega) (by omega) hS) ?_
    rintro v H' ⟨rfl, hS⟩
    simp only [e24, e18, e21, e22, e23, e15, e0, e1, e2, e3, e9, e10, hgp, u_putpg, gp, ↓D0, ↓D1, ↓D2, ↓D3, ↓D4, ↓D5, ↓D6, ↓D7, ↓D8, ↓D9, ↓D10, U0, U1, U2, U3, U4, U5, U6, U7, U8, U9, U10, ↓reduceIte, Nat.reduceAdd, Nat.reduceMul, Nat.reduceSub, Nat.reduceEqDiff, Nat.reduceBEq, Nat.reduceLeDiff, Nat.reduceLT, Int.reduceAdd, Int.reduceMul, Int.reduceSub, Int.reduceLT, Int.reduceLE, Int.reduceToNat, Int.reduceEq, Int.reduceNe, Int.reduceBEq, Int.reduceBNe, ne_eq, eq_self]
    exact hS.tail.tail.tail.tail.tail.tail
set_option maxHeartbeats 8000000 in
theorem c_seekempties {x0 x1 : Int} (hx0 : 0 ≤ x0 ∧ x0 ≤ 255) (hx1 : 0 ≤ x1 ∧ x1 ≤ 255) (hm : m ≤ 9223372036854775807) (hm2 : m2 ≤ 9223372036854775807) (hr : RowV h a m (fun i => .int .u8 (ks i))) (hks : ∀ i, i < m → 0 ≤ ks i ∧ ks i ≤ 255) (hr2 : RowV h a2 m2 (fun i => .bool (B i))) (hS : Sep (h :: l) H) :
    CallP Try.prog W 7 #[.slice a m cap, .slice a2 m2 cap2, .agg #[.int .u8 x0, .int .u8 x1]] H fun v H' => v = .bool true ∧ Sep (h :: l) H' := by
  refine CallP.of mixed Try.func7 tr7 (by show 3 ≤ _; decide) fun W _ => ?_
  simp only [↓D0, ↓D1, ↓D2, ↓D3, ↓D4, ↓D5, ↓D6, ↓D7, ↓D8, ↓D9, ↓D10, U0, U1, U2, U3, U4, U5, U6, U7, U8, U9, U10, ↓reduceIte, Nat.reduceAdd, Nat.reduceMul, Nat.reduceSub, Nat.reduceEqDiff, Nat.reduceBEq, Nat.reduceLeDiff, Nat.reduceLT, Int.reduceAdd, Int.reduceMul, Int.reduceSub, Int.reduceLT, Int.reduceLE, Int.reduceToNat, Int.reduceEq, Int.reduceNe, Int.reduceBEq, Int.reduceBNe, ne_eq, eq_self]
  refine newB_intro fun z hz f1 f2 => ?_
  have hS := hS.new f1 (.cells #[.int .u8 x0, .int .u8 x1] 68 (0, 0))
  simp only [↓D0, ↓D1, ↓D2, ↓D3, ↓D4, ↓D5, ↓D6, ↓D7, ↓D8, ↓D9, ↓D10, U0, U1, U2, U3, U4, U5, U6, U7, U8, U9, U10, ↓reduceIte, Nat.reduceAdd, Nat.reduceMul, Nat.reduceSub, Nat.reduceEqDiff, Nat.reduceBEq, Nat.reduceLeDiff, Nat.reduceLT, Int.reduceAdd, Int.reduceMul, Int.reduceSub, Int.reduceLT, Int.reduceLE, Int.reduceToNat, Int.reduceEq, Int.reduceNe, Int.reduceBEq, Int.reduceBNe, ne_eq, eq_self]
  refine callT_of (c_awake13 hS) ?_
  rintro v H' ⟨rfl, hS⟩
  have hz1 := hS.look
  have r2 := fun o => rd_of hz1 o
  have i0 : (0 : Int) < ((2 : Nat) : Int) := by decide
  have i1 : (1 : Int) < ((2 : Nat) : Int) := by decide
  have w0 : w64 x0 = x0 := w64_eq (by omega) (by omega)
  have w1 : w64 x1 = x1 := w64_eq (by omega) (by omega)
  have t4 : x0.tmod 4 = x0 % 4 := Int.tmod_eq_emod_of_nonneg hx0.1
  simp only [hz1, r2, i0, i1, wrap_w64, w0, w1, t4, ↓D0, ↓D1, ↓D2, ↓D3, ↓D4, ↓D5, ↓D6, ↓D7, ↓D8, ↓D9, ↓D10, U0, U1, U2, U3, U4, U5, U6, U7, U8, U9, U10, ↓reduceIte, Nat.reduceAdd, Nat.reduceMul, Nat.reduceSub, Nat.reduceEqDiff, Nat.reduceBEq, Nat.reduceLeDiff, Nat.reduceLT, Int.reduceAdd, Int.reduceMul, Int.reduceSub, Int.reduceLT, Int.reduceLE, Int.reduceToNat, Int.reduceEq, Int.reduceNe, Int.reduceBEq, Int.reduceBNe, ne_eq, eq_self]
  refine callT_of (c_empties (K := x0 % 4) (F := x1) (by omega) hx1 hm hm2 hr hks hr2 hS.p1) ?_
  rintro v H' ⟨rfl, hS⟩
  simp only [↓D0, ↓D1, ↓D2, ↓D3, ↓D4, ↓D5, ↓D6, ↓D7, ↓D8, ↓D9, ↓D10, U0, U1, U2, U3, U4, U5, U6, U7, U8, U9, U10, ↓reduceIte, Nat.reduceAdd, Nat.reduceMul, Nat.reduceSub, Nat.reduceEqDiff, Nat.reduceBEq, Nat.reduceLeDiff, Nat.reduceLT, Int.reduceAdd, Int.reduceMul, Int.reduceSub, Int.reduceLT, Int.reduceLE, Int.reduceToNat, Int.reduceEq, Int.reduceNe, Int.reduceBEq, Int.reduceBNe, ne_eq, eq_self]
  exact hS.p1.tail
end

theorem l_seekempties {W : World} {m cap m2 cap2 : Nat} {a a2 : Option Addr} {ks : Nat → Int} {B : Nat → Bool} (hm : m ≤ 9223372036854775807) (hr : RowV (memOf W) a m (fun i => .int .u8 (ks i))) (hk : ∀ i, i < m → IntKind.u8.has (ks i)) (hm2 : m2 ≤ 9223372036854775807) (hr2 : RowV (memOf W) a2 m2 (fun i => .bool (B i))) (x0 x1 : Int) (h0 : 0 ≤ x0 ∧ x0 ≤ 255) (h1 : 0 ≤ x1 ∧ x1 ≤ 255) :
    CallP Try.prog W 7 #[.slice a m cap, .slice a2 m2 cap2, .agg #[.int .u8 x0, .int .u8 x1]] (memOf W) fun v H' => v = .bool true ∧ Sub (memOf W) H' :=
  (c_seekempties h0 h1 hm hm2 hr (fun i hi => u8_bd (hk i hi)) hr2 (Sep.one _)).mono fun v H' ⟨h1, h2⟩ => ⟨h1, h2.head⟩
end Go.Proofs.Ytfopnendmcpglaa
