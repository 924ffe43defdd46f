/-
  TakeMany, walked: many that reserve, and commit. Conditions: none.
-/
import Derived.Test.YtfdhilnaagpecaaGreatCodeAllotmentlaw15
import Derived.Test.YtfdhilnaagpecaaGreatTakeK
import Derived.Test.YtfdhilnaagpecaaGreatRowA
import Derived.Test.YtfdhilnaagpecaaGreatSoundA
import Derived.Test.YtfdhilnaagpecaaGreatAlt
import Derived.Test.YtfdhilnaagpecaaGreatJmA
import Derived.Test.YtfdhilnaagpecaaGreatFamL
import Derived.Test.YtfdhilnaagpecaaGreatMaOw
import Derived.Test.YtfdhilnaagpecaaGreatMaSo
open Nat renaming reduceAdd → xA, reduceMul → xB, reduceSub → xC, reduceEqDiff → xD, reduceBEq → xE, reduceLeDiff → xF, reduceLT → xG
open Int renaming reduceAdd → xH, reduceMul → xI, reduceSub → xJ, reduceLT → xK, reduceLE → xL, reduceToNat → xM, reduceEq → xN, reduceNe → xO, reduceBEq → xP, reduceBNe → xQ
set_option linter.unusedVariables false
set_option linter.unusedSectionVars false
set_option linter.unusedSimpArgs false
set_option maxRecDepth 8000
namespace Go.Proofs.YtfdhilnaagpecaaGreat
open Go Go.Ev Go.Pl Go.Ma
theorem tm_cells {H : Hp} {b o : Nat} {v : Value} (h : rd H b o = some v) : ∃ c T f, H b = some (.cells c T f) ∧ c[o]? = some v := by
  unfold rd at h
  split at h
  · rename_i c T f e; exact ⟨c, T, f, e, h⟩
  · cases h
theorem tm_far {l : List Hp} {H h : Hp} {i j b xb : Nat} {o x : Obj} (hS : Sep l H) (hij : i < j) (hi : l[i]? = some (sg b o)) (hj : l[j]? = some h) (hx : h xb = some x) : (b = xb) = False ∧ (xb = b) = False := by
  have : xb ≠ b := fun e => by
    obtain ⟨hi1, he1⟩ := List.getElem?_eq_some_iff.1 hi
    obtain ⟨hj1, he2⟩ := List.getElem?_eq_some_iff.1 hj
    have hd := List.pairwise_iff_getElem.1 hS.dj i j hi1 hj1 hij
    rcases hd xb with h' | h'
    · rw [he1, e, sg_at] at h'; cases h'
    · rw [he2, hx] at h'; cases h'
  exact ⟨eq_false fun e => this e.symm, eq_false this⟩
theorem tm_cut {P : Program} {W : World} {t : Bool} {a b : MC} {Q : Exit → Fr → Hp → Prop} {F : Fr} {H : Hp} (C : Fr → Hp → Prop) (ha : t = true → mwp P W a (fun e F H => e = .normal ∧ C F H) F H) (hb : t = false → mwp P W b (fun e F H => e = .normal ∧ C F H) F H) (hk : ∀ F H, C F H → Q .normal F H) : both t (mwp P W a Q F H) (mwp P W b Q F H) :=
  both_intro (fun h => mwp_mono a (ha h) fun e F H ⟨h1, h2⟩ => by subst h1; exact hk F H h2) (fun h => mwp_mono b (hb h) fun e F H ⟨h1, h2⟩ => by subst h1; exact hk F H h2)
theorem fine_bd {n : Int} (h0 : 1 ≤ n) (h1 : n ≤ 512) : fine n = true := by
  unfold fine small large within
  by_cases h : n ≤ 32
  · rw [decide_eq_true h0, decide_eq_true h]; rfl
  · rw [decide_eq_true (by omega : 33 ≤ n), decide_eq_true h1]; simp
theorem rv_bk0 {v : Rv} (h : v.fd = true) : (v.bk.lg = true → v.bk.i = 0) ∧ (v.bk.lg = false → v.bk.n = 0) := by
  cases v with
  | sk t => have e : (Rv.sk t).bk = ⟨false, t.pg, t.sl, t.k, 0⟩ := if_pos h; rw [e]; exact ⟨fun g => (by cases g), fun _ => rfl⟩
  | rn t => have e : (Rv.rn t).bk = ⟨true, t.hd, 0, 0, t.n⟩ := if_pos h; rw [e]; exact ⟨fun _ => rfl, fun g => (by cases g)⟩
  | no => cases h
def cmO (k : Nat) : Option Cm → Hp
  | none => fun _ => none
  | some t => cmB k t
def dvv (k : Nat) : Option Cm → Value
  | none => .pointer none
  | some _ => .pointer (some ⟨k, 0, none⟩)
def tmP (ks k2 kn kc : Nat → Nat) (rv : Nat → Rv) (cm : Nat → Option Cm) (c : Nat) : List Hp := [rvB (ks c) (k2 c) (rv c), rvA (k2 c) (kn c) (rv c), rvN (kn c) (rv c), cmO (kc c) (cm c)]
def tmD (dn n : Nat) (kc : Nat → Nat) (cm : Nat → Option Cm) : Hp := sg dn (.cells (vrow n fun c => dvv (kc c) (cm c)) 40 (0, 0))
section
variable {W : World} {H h : Hp} {l : List Hp} {n m cap1 cap2 : Nat} {a1 a2 : Option Addr} {cc tt : Nat → Int}
def tmG (n m cap1 cap2 : Nat) (a1 a2 : Option Addr) (x b dn : Nat) (F' : Fr) : Prop := gt F' 1 = .slice a1 n cap1 ∧ gt F' 2 = .slice a2 m cap2 ∧ gt F' 7 = .int .i64 (n : Int) ∧ gt F' 8 = .pointer (some ⟨x, 0, none⟩) ∧ gt F' 9 = .pointer (some ⟨b, 0, none⟩) ∧ gt F' 11 = .slice (some ⟨dn, 0, none⟩) n n
def tmA (sh : Sh) (N f : Nat → Int) (w0 : Wd) (s n m cap1 cap2 : Nat) (a1 a2 : Option Addr) (x b dn : Nat) (L : List Hp) (F' : Fr) (H' : Hp) : Prop :=
  ∃ (i : Nat) (a : Option Addr) (cap : Nat) (g : Hp) (ks k2 kn : Nat → Nat), i ≤ n ∧ gt F' 12 = .int .i64 (i : Int) ∧ gt F' 10 = .slice a i cap ∧ tmG n m cap1 cap2 a1 a2 x b dn F' ∧ Gr 33 a i cap (fun j => .pointer (some ⟨ks j, 0, none⟩)) g ∧
    Sep (wB b s w0 :: wR s w0 :: tmD dn n (fun _ => 0) (fun _ => none) :: g :: (famL i (tmP ks k2 kn (fun _ => 0) (fun c => Rv.new sh c (N c) (f c)) (fun _ => none)) ++ L)) H'
def tmB (sh : Sh) (N : Nat → Int) (M : Int) (e : Nat) (a : Option Addr) (cap : Nat) (g : Hp) (ks k2 : Nat → Nat) (s n m cap1 cap2 : Nat) (a1 a2 : Option Addr) (x b dn : Nat) (L : List Hp) (F' : Fr) (H' : Hp) : Prop :=
  ∃ (i : Nat) (kn kc : Nat → Nat) (rv : Nat → Rv) (cm : Nat → Option Cm) (w : Wd), i ≤ e ∧ gt F' 13 = .int .i64 (i : Int) ∧ gt F' 10 = .slice a n cap ∧ tmG n m cap1 cap2 a1 a2 x b dn F' ∧ TJ n sh N m M i rv cm w ∧
    Sep (wB b s w :: wR s w :: tmD dn n kc cm :: g :: (famL n (tmP ks k2 kn kc rv cm) ++ L)) H'
def tmC (i : Nat) (a : Option Addr) (cap : Nat) (g : Hp) (ks k2 kn kc : Nat → Nat) (rv : Nat → Rv) (cm : Nat → Option Cm) (w : Wd) (s n m cap1 cap2 : Nat) (a1 a2 : Option Addr) (x b dn : Nat) (L : List Hp) (F' : Fr) (H' : Hp) : Prop :=
  ∃ c : Nat, c < n ∧ (m ≤ i → i % n = c) ∧ gt F' 14 = .int .i64 (c : Int) ∧ gt F' 13 = .int .i64 (i : Int) ∧ gt F' 10 = .slice a n cap ∧ tmG n m cap1 cap2 a1 a2 x b dn F' ∧ 
    Sep (wB b s w :: wR s w :: tmD dn n kc cm :: g :: (famL n (tmP ks k2 kn kc rv cm) ++ L)) H'
def tmM (a : Option Addr) (cap : Nat) (g : Hp) (ks k2 kn kc : Nat → Nat) (rv : Nat → Rv) (cm : Nat → Option Cm) (w : Wd) (P : Int) (sh : Sh) (km s n m cap1 cap2 : Nat) (a1 a2 : Option Addr) (x b dn : Nat) (L : List Hp) (F' : Fr) (H' : Hp) : Prop :=
  ∃ (c : Nat) (bl : List (Int × Int)) (a4 : Option Addr) (cap4 : Nat) (g4 : Hp), c ≤ n ∧ gt F' 19 = .int .i64 (c : Int) ∧ gt F' 18 = .int .i64 (bl.length : Int) ∧ gt F' 17 = .pointer (some ⟨km, 0, none⟩) ∧ gt F' 10 = .slice a n cap ∧ tmG n m cap1 cap2 a1 a2 x b dn F' ∧ mdR a4 cap4 bl g4 ∧ TJ.Got n sh rv c bl ∧
    Sep (mjB km a4 bl.length cap4 (P * 64) :: g4 :: wB b s w :: wR s w :: tmD dn n kc cm :: g :: (famL n (tmP ks k2 kn kc rv cm) ++ L)) H'
def tmE (C : List (Int × Int)) (km cap bc2 : Nat) (a ba2 : Option Addr) (R : List Hp) (F' : Fr) (H' : Hp) : Prop :=
  ∃ i : Nat, i ≤ C.length ∧ gt F' 25 = .int .i64 (i : Int) ∧ gt F' 24 = .slice ba2 C.length bc2 ∧ gt F' 17 = .pointer (some ⟨km, 0, none⟩) ∧ Sep R H'
set_option maxHeartbeats 4000000 in
theorem c_takemany {pg : Int} (hpg : 0 ≤ pg ∧ pg ≤ 255) (hr1 : RowV h a1 n (fun i => .int .u16 (cc i))) (hn1 : n ≤ 9223372036854775807) (hcc : ∀ i, i < n → 0 ≤ cc i ∧ cc i ≤ 65535) (hr2 : RowV h a2 m (fun i => .int .u8 (tt i))) (hm1 : m ≤ 9223372036854775807) (htt : ∀ i, i < m → 0 ≤ tt i ∧ tt i ≤ 255) (hS : Sep (h :: l) H) :
    CallP Tryz.prog W 3 #[.int .u8 pg, .slice a1 n cap1, .slice a2 m cap2] H fun v H' => v = .bool true ∧ Sep (h :: l) H' := by
  refine CallP.of mixed Tryz.func3 tr3 (by show 3 ≤ _; decide) fun W _ => ?_
  simp only [↓DD, UU, ↓reduceIte, xA, xB, xC, xD, xE, xF, xG, xH, xI, xJ, xK, xL, xM, xN, xO, xP, xQ, ne_eq, eq_self]
  refine callT_of (c_awake15 hS) ?_
  rintro v H' ⟨rfl, hS⟩
  by_cases hn0 : n = 0
  · have g0 : ((n : Int) == 0) = true := beq_iff_eq.2 (by omega)
    simp only [g0, ↓DD, UU, ↓reduceIte, xA, xB, xC, xD, xE, xF, xG, xH, xI, xJ, xK, xL, xM, xN, xO, xP, xQ, ne_eq, eq_self]
    exact hS
  have g0 : ((n : Int) == 0) = false := beq_eq_false_iff_ne.2 (by omega)
  by_cases hn10 : (10 : Int) < (n : Int)
  · have g1 : decide ((10 : Int) < (n : Int)) = true := decide_eq_true hn10
    simp only [g0, g1, ↓DD, UU, ↓reduceIte, xA, xB, xC, xD, xE, xF, xG, xH, xI, xJ, xK, xL, xM, xN, xO, xP, xQ, ne_eq, eq_self]
    exact hS
  have g1 : decide ((10 : Int) < (n : Int)) = false := decide_eq_false hn10
  by_cases hm3 : (3000 : Int) < (m : Int)
  · have g2 : decide ((3000 : Int) < (m : Int)) = true := decide_eq_true hm3
    simp only [g0, g1, g2, ↓DD, UU, ↓reduceIte, xA, xB, xC, xD, xE, xF, xG, xH, xI, xJ, xK, xL, xM, xN, xO, xP, xQ, ne_eq, eq_self]
    exact hS
  have g2 : decide ((3000 : Int) < (m : Int)) = false := decide_eq_false hm3
  have wp : w64 pg = pg := w64_eq (by omega) (by omega)
  have t6 : pg.tmod 8 = pg % 8 := Int.tmod_eq_emod_of_nonneg hpg.1
  obtain ⟨P, hP⟩ : ∃ P, 1 + pg % 8 = P := ⟨_, rfl⟩
  have hPb : 1 ≤ P ∧ P ≤ 8 := by omega
  have wP : w64 P = P := w64_eq (by omega) (by omega)
  have hmay : may P n 0 = true := (may_iff _ _ _).2 (by omega)
  simp only [g0, g1, g2, wrap_w64, wp, t6, hP, wP, ↓DD, UU, ↓reduceIte, xA, xB, xC, xD, xE, xF, xG, xH, xI, xJ, xK, xL, xM, xN, xO, xP, xQ, ne_eq, eq_self]
  refine newB_intro fun x hx f1 f2 => ?_
  have hS := hS.new f1 (.cells #[.int .i64 0, .int .i64 0, .int .i64 0] 26 (0, 0))
  have hS := hS.set (.cells #[.int .i64 P, .int .i64 n, .int .i64 0] 26 (0, 0))
  rw [Ev.upd_upd] at hS
  have hx1 := hS.look
  have r1 := fun o n => rdn_of hx1 o n
  obtain ⟨N, hN⟩ : ∃ N : Nat, words P n 0 = (N : Int) := ⟨(words P n 0).toNat, by have := words_le hmay; omega⟩
  have hNb := words_le hmay
  have q0 : (0 : Int) ≤ (N : Int) := by omega
  have q1 : (N : Int) ≤ (N : Int) := by omega
  have q2 : 8 * (N : Int) ≤ 281474976710656 := by omega
  have q3 : (N : Int) ≤ 9223372036854775807 := by omega
  simp only [g0, g1, g2, wrap_w64, wp, t6, hP, wP, Ev.upd_upd, hx1, r1, u_words, hN, q0, q1, q2, q3, Int.toNat_natCast, ↓DD, UU, ↓reduceIte, xA, xB, xC, xD, xE, xF, xG, xH, xI, xJ, xK, xL, xM, xN, xO, xP, xQ, ne_eq, eq_self]
  refine newB_intro fun y hy f3 f4 => ?_
  have hS := hS.new f3 (.cells (urow N fun _ => 0) 60 (0, 0))
  simp only [urow_zero, ↓DD, UU, ↓reduceIte, xA, xB, xC, xD, xE, xF, xG, xH, xI, xJ, xK, xL, xM, xN, xO, xP, xQ, ne_eq, eq_self]
  refine callT_of (c_fill (n := N) (by omega) (RowU.own y N _ _ _) hS) ?_
  rintro v H' ⟨b, s, rfl, hS⟩
  obtain ⟨w0, hw0⟩ : ∃ w0, w0 = rowW N (fun _ => 0) := ⟨_, rfl⟩
  rw [← hw0] at hS
  have hof0 : w0.of ⟨P, n, 0⟩ := by rw [hw0]; exact rowW_of hN.symm fun i _ => U_0
  have hz0 : ∀ j, w0.ws j = 0 := fun j => by rw [hw0]; show (if j < N then (0 : Int) else 0) = 0; split <;> rfl
  obtain ⟨Nf, hNf⟩ : ∃ Nf : Nat → Int, Nf = fun c => 1 + cc c % 512 := ⟨_, rfl⟩
  obtain ⟨ff, hff⟩ : ∃ ff : Nat → Int, ff = fun c : Nat => (c : Int) % P := ⟨_, rfl⟩
  obtain ⟨L, hL⟩ : ∃ L, L = sg y (.cells (urow N fun _ => 0) 60 (0, 0)) :: sg x (.cells #[.int .i64 P, .int .i64 n, .int .i64 0] 26 (0, 0)) :: h :: l := ⟨_, rfl⟩
  have L1 : L[1]? = some (sg x (.cells #[.int .i64 P, .int .i64 n, .int .i64 0] 26 (0, 0))) := by rw [hL]; rfl
  have L2 : L[2]? = some h := by rw [hL]; rfl
  have Lm : h ∈ L := by rw [hL]; simp
  have fin : ∀ H2, Sep L H2 → Sep (h :: l) H2 := fun H2 g => by rw [hL] at g; exact g.tail.tail
  have hS0 : Sep (wB b s w0 :: wR s w0 :: L) H' := by rw [hL]; exact hS
  clear hS hx1 r1
  have n0 : (0 : Int) ≤ (n : Int) := by omega
  have n8 : 8 * (n : Int) ≤ 281474976710656 := by omega
  have n9 : (n : Int) ≤ 9223372036854775807 := by omega
  have nle : (n : Int) ≤ (n : Int) := Int.le_refl _
  simp only [n0, n8, n9, nle, Int.toNat_natCast, ↓DD, UU, ↓reduceIte, xA, xB, xC, xD, xE, xF, xG, xH, xI, xJ, xK, xL, xM, xN, xO, xP, xQ, ne_eq, eq_self]
  refine newB_intro fun dn hdn f5 f6 => ?_
  simp only [vrow_same, ↓DD, UU, ↓reduceIte, xA, xB, xC, xD, xE, xF, xG, xH, xI, xJ, xK, xL, xM, xN, xO, xP, xQ, ne_eq, eq_self]
  have hS0 : Sep (wB b s w0 :: wR s w0 :: tmD dn n (fun _ => 0) (fun _ => none) :: (fun _ => none) :: L) _ := (hS0.new f5 (.cells (vrow n fun _ => .pointer none) 40 (0, 0))).r2.nothing.r3
  refine loop_intro (tmA ⟨P, n, 0⟩ Nf ff w0 s n m cap1 cap2 a1 a2 x b dn L) (fun F' _ => (n - iv (gt F' 12)).toNat)
    ⟨0, none, 0, _, fun _ => 0, fun _ => 0, fun _ => 0, Nat.zero_le _, by simp [gt], by simp [gt], ⟨by simp [gt], by simp [gt], by simp [gt], by simp [gt], by simp [gt], by simp [gt]⟩, Gr.none _ _, hS0⟩ ?_
  clear hS0
  rintro F' H' ⟨i, a, cap, g, ks, k2, kn, hi, e12, e10, ⟨e1, e2, e7, e8, e9, e11⟩, hG, hS⟩
  have hQ := hS.tail.tail.tail.tail.dropF
  have hx1 := hQ.lk 1 L1
  have r0 := fun o => rd_of hx1 o
  have r1 := fun o n => rdn_of hx1 o n
  by_cases hlt : i < n
  · have d1 : decide ((i : Int) < (n : Int)) = true := decide_eq_true (by omega)
    have p0 : (0 : Int) ≤ (i : Int) := by omega
    have p1 : (i : Int) < (n : Int) := by omega
    have wi : w64 ((i : Int) + 1) = ((i + 1 : Nat) : Int) := by rw [w64_eq (by omega) (by omega)]; omega
    obtain ⟨b1, o1, rfl, hrd⟩ := hr1.at' hlt
    obtain ⟨c1, T1, fz1, hh1, hc1⟩ := tm_cells hrd
    have hb1 := hQ.sb h Lm b1 _ hh1
    have rb := fun o => rd_of hb1 o
    obtain ⟨nxb, nbx⟩ := tm_far hQ (i := 1) (j := 2) (by decide) L1 L2 hh1
    have hcb := hcc i hlt
    have w4a : w64 (cc i) = cc i := w64_eq (by omega) (by omega)
    have w4b : w64 (1 + cc i % 512) = 1 + cc i % 512 := w64_eq (by omega) (by omega)
    have t4a : (cc i).tmod 512 = cc i % 512 := Int.tmod_eq_emod_of_nonneg hcb.1
    have t4b : (i : Int).tmod P = (i : Int) % P := Int.tmod_eq_emod_of_nonneg (by omega)
    have hPne : (P = 0) = False := eq_false (by omega)
    simp only [e12, e10, e1, e2, e7, e8, e9, e11, d1, ↓DD, UU, ↓reduceIte, xA, xB, xC, xD, xE, xF, xG, xH, xI, xJ, xK, xL, xM, xN, xO, xP, xQ, ne_eq, eq_self]
    refine draw_intro [(x, #[.int .i64 P, .int .i64 n, .int .i64 0], []), (b1, c1, [])] (by simp only [hx1, hb1, ↓DD, UU, ↓reduceIte, xA, xB, xC, xD, xE, xF, xG, xH, xI, xJ, xK, xL, xM, xN, xO, xP, xQ, ne_eq, eq_self]) ?_
    simp only [e12, e10, e1, e2, e7, e8, e9, e11, hx1, r0, r1, hb1, rb, hc1, nxb, nbx, p0, p1, Int.toNat_natCast, wrap_w64, w4a, w4b, t4a, t4b, hPne, ↓DD, UU, ↓reduceIte, xA, xB, xC, xD, xE, xF, xG, xH, xI, xJ, xK, xL, xM, xN, xO, xP, xQ, ne_eq, eq_self]
    refine callT_of (c_rvnew (sh := ⟨P, n, 0⟩) (c := i) (n := 1 + cc i % 512) (f := (i : Int) % P) hS) ?_
    rintro v H' ⟨k, k3, k4, rfl, hS⟩
    have hQ := hS.tail.tail.tail.tail.tail.tail.tail.dropF
    have hx1 := hQ.lk 1 L1
    have hb1 := hQ.sb h Lm b1 _ hh1
    simp only [e12, e10, e1, e2, e7, e8, e9, e11, hx1, hb1, nxb, nbx, ↓DD, UU, ↓reduceIte, xA, xB, xC, xD, xE, xF, xG, xH, xI, xJ, xK, xL, xM, xN, xO, xP, xQ, ne_eq, eq_self]
    refine newB_intro fun y2 hy2 f5 f6 => ?_
    have nxy : (x = y2) = False := f5 x (by rw [hx1]; rfl)
    have nyx : (y2 = x) = False := f6 x (by rw [hx1]; rfl)
    have nby : (b1 = y2) = False := f5 b1 (by rw [hb1]; rfl)
    have nyb : (y2 = b1) = False := f6 b1 (by rw [hb1]; rfl)
    have hS2 := hS.new f5 (.cells #[.pointer (some ⟨k, 0, none⟩)] 33 (0, 0))
    simp only [e12, e10, e1, e2, e7, e8, e9, e11, hx1, hb1, nxb, nbx, nxy, nyx, nby, nyb, ↓DD, UU, ↓reduceIte, xA, xB, xC, xD, xE, xF, xG, xH, xI, xJ, xK, xL, xM, xN, xO, xP, xQ, ne_eq, eq_self]
    have ha : rds (upd H' y2 (.cells #[.pointer (some ⟨k, 0, none⟩)] 33 (0, 0))) (some ⟨y2, 0, none⟩) 1 = some #[.pointer (some ⟨k, 0, none⟩)] := by
      simp only [rds, ↓DD, UU, ↓reduceIte, xA, xB, xC, xD, xE, xF, xG, xH, xI, xJ, xK, xL, xM, xN, xO, xP, xQ, ne_eq, eq_self]
    simp only [ha, Nat.mul_one, ↓DD, UU, ↓reduceIte, xA, xB, xC, xD, xE, xF, xG, xH, xI, xJ, xK, xL, xM, xN, xO, xP, xQ, ne_eq, eq_self]
    refine grow (z0 := .pointer none) (bytes := 8) (v := .pointer (some ⟨k, 0, none⟩)) hG rfl (by omega) (by decide) (hS2.p7) (fun g2 H2 hG2 hS3 => ?_) (fun old cap2' b2 hG2 hS3 => ?_)
    all_goals
      have hQ := hS3.tail.tail.tail.tail.tail.tail.tail.tail.dropF
      have hx1 := hQ.lk 1 L1
      have hb1 := hQ.sb h Lm b1 _ hh1
      simp only [e12, e10, e1, e2, e7, e8, e9, e11, hx1, hb1, nxb, nbx, wrap_w64, wi, ↓DD, UU, ↓reduceIte, xA, xB, xC, xD, xE, xF, xG, xH, xI, xJ, xK, xL, xM, xN, xO, xP, xQ, ne_eq, eq_self]
      have e : (fun j => Value.pointer (some ⟨if j = i then k else ks j, 0, none⟩)) = fun j => if j = i then Value.pointer (some ⟨k, 0, none⟩) else Value.pointer (some ⟨ks j, 0, none⟩) := by funext j; split <;> rfl
      rw [← e] at hG2
      refine ⟨⟨i + 1, _, _, _, fun j => if j = i then k else ks j, fun j => if j = i then k3 else k2 j, fun j => if j = i then k4 else kn j, by omega, by simp [gt], by simp [gt], ⟨by simp [gt, e1], by simp [gt, e2], by simp [gt, e7], by simp [gt, e8], by simp [gt, e9], by simp [gt, e11]⟩, hG2, ?_⟩, by simp [gt, iv, e12]; omega⟩
      have hS4 := (Sep.over (X := [_]) (L := [_, _, _, _, _, _]) hS3.p1.tail).nothing.r3
      exact Sep.moreF (x := [_, _, _, _]) [wB b s w0, wR s w0, _, _] hS4 (by simp [tmP, hNf, hff, cmO]) (fun d hd => by simp [tmP, show d ≠ i by omega])
  have d1 : decide ((i : Int) < (n : Int)) = false := decide_eq_false (by omega)
  have hin : i = n := by omega
  subst hin
  have hfb : ∀ c, c < i → fine (Nf c) = true := fun c hc => by
    have := hcc c hc
    rw [hNf]; exact fine_bd (show 1 ≤ 1 + cc c % 512 by omega) (show 1 + cc c % 512 ≤ 512 by omega)
  have hff2 : ∀ c, c < i → 0 ≤ ff c ∧ ff c < P := fun c hc => by
    rw [hff]; exact ⟨Int.emod_nonneg _ (by omega), Int.emod_lt_of_pos _ (by omega)⟩
  have hJ0 : TJ i ⟨P, i, 0⟩ Nf m (80 * P + 90) 0 (fun c => Rv.new ⟨P, i, 0⟩ c (Nf c) (ff c)) (fun _ => none) w0 := TJ.init hmay rfl hof0 hz0 rfl hfb hff2
  obtain ⟨MN, hMN⟩ : ∃ MN : Nat, 80 * P + 90 = (MN : Int) := ⟨(80 * P + 90).toNat, by omega⟩
  have hMb : MN ≤ 730 := by omega
  have hE : i * MN ≤ 10 * 730 := Nat.mul_le_mul (by omega) hMb
  have w80 : w64 (80 * P) = 80 * P := w64_eq (by omega) (by omega)
  have w90 : w64 (MN : Int) = (MN : Int) := w64_eq (by omega) (by omega)
  have wnm : w64 ((i : Int) * (MN : Int)) = ((i * MN : Nat) : Int) := by rw [← Int.natCast_mul, w64_eq (by omega) (by omega)]
  have wme : w64 ((m : Int) + ((i * MN : Nat) : Int)) = ((m + i * MN : Nat) : Int) := by rw [← Int.natCast_add, w64_eq (by omega) (by omega)]
  simp only [e12, e10, e1, e2, e7, e8, e9, e11, d1, ↓DD, UU, ↓reduceIte, xA, xB, xC, xD, xE, xF, xG, xH, xI, xJ, xK, xL, xM, xN, xO, xP, xQ, ne_eq, eq_self]
  rw [hMN] at hJ0
  refine loop_intro (tmB ⟨P, i, 0⟩ Nf (MN : Int) (m + i * MN) a cap g ks k2 s i m cap1 cap2 a1 a2 x b dn L) (fun F' _ => (((m + i * MN : Nat) : Int) - iv (gt F' 13)).toNat)
    ⟨0, kn, fun _ => 0, _, _, w0, Nat.zero_le _, by simp [gt], by simp [gt, e10], ⟨by simp [gt, e1], by simp [gt, e2], by simp [gt, e7], by simp [gt, e8], by simp [gt, e9], by simp [gt, e11]⟩, hJ0, hS⟩ ?_
  clear hS hJ0 hx1 r0 r1 hQ e10 e1 e2 e7 e8 e9 e11 e12
  rintro F' H' ⟨j, kn, kc, rv, cm, w, hj, e13, e10, ⟨e1, e2, e7, e8, e9, e11⟩, hJ, hS⟩
  have hQ := hS.tail.tail.tail.tail.dropF
  have hx1 := hQ.lk 1 L1
  have r0 := fun o => rd_of hx1 o
  have r1 := fun o n => rdn_of hx1 o n
  by_cases hlt : j < m + i * MN
  · have d1 : decide ((j : Int) < ((m + i * MN : Nat) : Int)) = true := decide_eq_true (by omega)
    have hine : ((i : Int) = 0) = False := eq_false (by omega)
    have tj : (j : Int).tmod (i : Int) = ((j % i : Nat) : Int) := by rw [Int.tmod_eq_emod_of_nonneg (by omega)]; rfl
    simp only [e13, e10, e1, e2, e7, e8, e9, e11, hx1, r0, wrap_w64, w80, hMN, w90, wnm, wme, d1, hine, tj, ↓DD, UU, ↓reduceIte, xA, xB, xC, xD, xE, xF, xG, xH, xI, xJ, xK, xL, xM, xN, xO, xP, xQ, ne_eq, eq_self]
    refine tm_cut (C := tmC j a cap g ks k2 kn kc rv cm w s i m cap1 cap2 a1 a2 x b dn L) (fun hf => ?_) (fun hf => ?_) ?_
    · have hjm : j < m := by have := of_decide_eq_true hf; omega
      obtain ⟨b1, o1, rfl, hrd⟩ := (hr2.sub (hQ.sb h Lm)).at' hjm
      have htb := htt j hjm
      have v0 : (0 : Int) ≤ (j : Int) := by omega
      have v1 : (j : Int) < (m : Int) := by omega
      have wt : w64 (tt j) = tt j := w64_eq (by omega) (by omega)
      have tn : (tt j).tmod (i : Int) = tt j % (i : Int) := Int.tmod_eq_emod_of_nonneg htb.1
      obtain ⟨c, hcq⟩ : ∃ c : Nat, (c : Int) = tt j % (i : Int) := ⟨(tt j % (i : Int)).toNat, by have := Int.emod_nonneg (tt j) (show (i : Int) ≠ 0 by omega); omega⟩
      have hc : c < i := by have := Int.emod_lt_of_pos (tt j) (show (0 : Int) < i by omega); omega
      simp only [e13, e10, e1, e2, e7, e8, e9, e11, v0, v1, hrd, Int.toNat_natCast, wrap_w64, wt, tn, hine, ← hcq, ↓DD, UU, ↓reduceIte, xA, xB, xC, xD, xE, xF, xG, xH, xI, xJ, xK, xL, xM, xN, xO, xP, xQ, ne_eq, eq_self]
      exact ⟨c, hc, fun g => by omega, by simp [gt], by simp [gt, e13], by simp [gt, e10], ⟨by simp [gt, e1], by simp [gt, e2], by simp [gt, e7], by simp [gt, e8], by simp [gt, e9], by simp [gt, e11]⟩, hS⟩
    · simp only [e13, e10, e1, e2, e7, e8, e9, e11, ↓DD, UU, ↓reduceIte, xA, xB, xC, xD, xE, xF, xG, xH, xI, xJ, xK, xL, xM, xN, xO, xP, xQ, ne_eq, eq_self]
      exact ⟨j % i, Nat.mod_lt _ (by omega), fun _ => rfl, by simp [gt], by simp [gt, e13], by simp [gt, e10], ⟨by simp [gt, e1], by simp [gt, e2], by simp [gt, e7], by simp [gt, e8], by simp [gt, e9], by simp [gt, e11]⟩, hS⟩
    have e13o := e13
    clear hS hQ hx1 r0 r1 e10 e1 e2 e7 e8 e9 e11 e13
    rintro F2 H' ⟨c, hc, hcj, e14, e13, e10, ⟨e1, e2, e7, e8, e9, e11⟩, hS⟩
    have hQ := hS.tail.tail.tail.tail.dropF
    have hx1 := hQ.lk 1 L1
    have r1 := fun o n => rdn_of hx1 o n
    have q0 : (0 : Int) ≤ (c : Int) := by omega
    have q1 : (c : Int) < (i : Int) := by omega
    have wj : w64 ((j : Int) + 1) = ((j + 1 : Nat) : Int) := by rw [w64_eq (by omega) (by omega)]; omega
    obtain ⟨zb, rfl, hrz⟩ := hG.rd hS (by simp) (i := c) hc
    obtain ⟨R, hR⟩ : ∃ R, R = famLB i c (tmP ks k2 kn kc rv cm) ++ L := ⟨_, rfl⟩
    have hS : Sep (rvB (ks c) (k2 c) (rv c) :: rvA (k2 c) (kn c) (rv c) :: rvN (kn c) (rv c) :: cmO (kc c) (cm c) :: wB b s w :: wR s w :: tmD dn i kc cm :: g :: R) H' := by
      rw [hR]; exact hS.pickF [_, _, _, _] hc
    have lx : ∀ Z : Hp, Sep R Z → Z x = some (.cells #[.int .i64 P, .int .i64 i, .int .i64 0] 26 (0, 0)) := fun Z g => by
      rw [hR] at g; exact g.dropF.lk 1 L1
    simp only [e14, e13, e10, e1, e2, e7, e8, e9, e11, q0, q1, hrz, Nat.zero_add, Int.toNat_natCast, ↓DD, UU, ↓reduceIte, xA, xB, xC, xD, xE, xF, xG, xH, xI, xJ, xK, xL, xM, xN, xO, xP, xQ, ne_eq, eq_self]
    refine callT_of (c_rvfound hS) ?_
    rintro v H' ⟨rfl, hS⟩
    simp only [e14, e13, e10, e1, e2, e7, e8, e9, e11, bkV, ↓DD, UU, ↓reduceIte, xA, xB, xC, xD, xE, xF, xG, xH, xI, xJ, xK, xL, xM, xN, xO, xP, xQ, ne_eq, eq_self]
    refine newB_intro fun q hq f7 f8 => ?_
    have hS := hS.new f7 (.cells #[.bool (rv c).bk.lg, .int .i64 (rv c).bk.p, .int .i64 (rv c).bk.i, .int .i64 (rv c).bk.k, .int .i64 (rv c).bk.n] 37 (0, 0))
    have hD := hS.lk 7 rfl
    have rD := fun o => rd_of hD o
    have hqv := hS.look
    have rq := fun o n => rdn_of hqv o n
    obtain ⟨zb2, hz2, hrz⟩ := hG.rd hS (by simp) (i := c) hc
    cases hz2
    simp only [Ev.upd_upd, e14, e13, e10, e1, e2, e7, e8, e9, e11, q0, q1, Int.toNat_natCast, Nat.zero_add, rD, vrow_at hc, ↓DD, UU, ↓reduceIte, xA, xB, xC, xD, xE, xF, xG, xH, xI, xJ, xK, xL, xM, xN, xO, xP, xQ, ne_eq, eq_self]
    cases hcm : cm c with
    | some t =>
      obtain ⟨k1, k2', k3, k4, k5⟩ := hJ.tm.k c hc t hcm
      rw [hcm] at hS
      simp only [dvv, e14, e13, e10, e1, e2, e7, e8, e9, e11, q0, q1, Int.toNat_natCast, Nat.zero_add, hD, rD, vrow_at hc, hcm, ↓DD, UU, ↓reduceIte, xA, xB, xC, xD, xE, xF, xG, xH, xI, xJ, xK, xL, xM, xN, xO, xP, xQ, ne_eq, eq_self]
      have hS5 : Sep (cmB (kc c) t :: wB b s w :: wR s w :: rvB (ks c) (k2 c) (rv c) :: rvA (k2 c) (kn c) (rv c) :: rvN (kn c) (rv c) :: tmD dn i kc cm :: g :: R) _ := Sep.over (X := [_, _, _]) (L := [_, _, _]) hS.tail
      refine callT_of (c_cmstep k5.wf (fun _ => by rw [k5.es]; exact hJ.tm.of) hS5) ?_
      rintro v H' ⟨rfl, hS5⟩
      have hS6 := Sep.over (X := [_, _, _]) (L := [_, _, _]) hS5
      simp only [e14, e13, e10, e1, e2, e7, e8, e9, e11, wrap_w64, wj, ↓DD, UU, ↓reduceIte, xA, xB, xC, xD, xE, xF, xG, xH, xI, xJ, xK, xL, xM, xN, xO, xP, xQ, ne_eq, eq_self]
      refine ⟨⟨j + 1, kn, kc, rv, upT cm c (some (t.step w).1), _, hlt, by simp [gt], by simp [gt, e10], ⟨by simp [gt, e1], by simp [gt, e2], by simp [gt, e7], by simp [gt, e8], by simp [gt, e9], by simp [gt, e11]⟩, hJ.stepC hc hcj hcm, ?_⟩, by simp [gt, iv, e13o]; omega⟩
      have eD : tmD dn i kc (upT cm c (some (t.step w).1)) = tmD dn i kc cm := by
        unfold tmD
        congr 3
        funext d
        by_cases e : d = c
        · rw [e, upT_same, hcm]; rfl
        · rw [upT_ne _ _ e]
      rw [eD]
      rw [hR] at hS6
      exact Sep.backF (x := [_, _, _, _]) [_, _, _, _] hS6 hc (by simp [tmP, upT_same, cmO]) (fun d hd => by simp [tmP, upT_ne _ _ hd])
    | none =>
      rw [hcm] at hS
      simp only [dvv, e14, e13, e10, e1, e2, e7, e8, e9, e11, q0, q1, Int.toNat_natCast, Nat.zero_add, hrz, ↓DD, UU, ↓reduceIte, xA, xB, xC, xD, xE, xF, xG, xH, xI, xJ, xK, xL, xM, xN, xO, xP, xQ, ne_eq, eq_self]
      refine callT_of (c_rvdone hS.r3) ?_
      rintro v H' ⟨rfl, hS⟩
      have hD := hS.lk 7 rfl
      have rD := fun o => rd_of hD o
      have hqv := hS.lk 3 rfl
      have rq := fun o n => rdn_of hqv o n
      have hx1 := lx _ hS.tail.tail.tail.tail.tail.tail.tail.tail.tail
      have r1 := fun o n => rdn_of hx1 o n
      obtain ⟨zb2, hz2, hrz⟩ := hG.rd hS (by simp) (i := c) hc
      cases hz2
      cases hd : (rv c).dn
      · simp only [hd, e14, e13, e10, e1, e2, e7, e8, e9, e11, q0, q1, Int.toNat_natCast, Nat.zero_add, hrz, ↓DD, UU, ↓reduceIte, xA, xB, xC, xD, xE, xF, xG, xH, xI, xJ, xK, xL, xM, xN, xO, xP, xQ, ne_eq, eq_self]
        have hS6 := hS.p3.tail.p3.r5
        refine callT_of (c_rvstep (hJ.tm.wf c hc).1 (fun e => rv_shape (hJ.tm.wf c hc).2.1 hJ.tm.of e) hS6) ?_
        rintro v H' ⟨rfl, kn2, hS6⟩
        have hS6 := hS6.p5.r3
        simp only [e14, e13, e10, e1, e2, e7, e8, e9, e11, wrap_w64, wj, ↓DD, UU, ↓reduceIte, xA, xB, xC, xD, xE, xF, xG, xH, xI, xJ, xK, xL, xM, xN, xO, xP, xQ, ne_eq, eq_self]
        refine ⟨⟨j + 1, upT kn c kn2, kc, upT rv c ((rv c).step w).1, cm, _, hlt, by simp [gt], by simp [gt, e10], ⟨by simp [gt, e1], by simp [gt, e2], by simp [gt, e7], by simp [gt, e8], by simp [gt, e9], by simp [gt, e11]⟩, hJ.stepR hc hcj hcm (fun g => by rw [hd] at g; cases g), ?_⟩, by simp [gt, iv, e13o]; omega⟩
        rw [hR] at hS6
        exact Sep.backF (x := [_, _, _, _]) [_, _, _, _] hS6 hc (by simp [tmP, upT_same, hcm]) (fun d hd => by simp [tmP, upT_ne _ _ hd])
      cases hf : (rv c).fd
      · simp only [hd, hf, e14, e13, e10, e1, e2, e7, e8, e9, e11, q0, q1, Int.toNat_natCast, Nat.zero_add, hrz, ↓DD, UU, ↓reduceIte, xA, xB, xC, xD, xE, xF, xG, xH, xI, xJ, xK, xL, xM, xN, xO, xP, xQ, ne_eq, eq_self]
        have hS6 := hS.p3.tail.p3.r5
        refine callT_of (c_rvstep (hJ.tm.wf c hc).1 (fun e => rv_shape (hJ.tm.wf c hc).2.1 hJ.tm.of e) hS6) ?_
        rintro v H' ⟨rfl, kn2, hS6⟩
        have hS6 := hS6.p5.r3
        simp only [e14, e13, e10, e1, e2, e7, e8, e9, e11, wrap_w64, wj, ↓DD, UU, ↓reduceIte, xA, xB, xC, xD, xE, xF, xG, xH, xI, xJ, xK, xL, xM, xN, xO, xP, xQ, ne_eq, eq_self]
        refine ⟨⟨j + 1, upT kn c kn2, kc, upT rv c ((rv c).step w).1, cm, _, hlt, by simp [gt], by simp [gt, e10], ⟨by simp [gt, e1], by simp [gt, e2], by simp [gt, e7], by simp [gt, e8], by simp [gt, e9], by simp [gt, e11]⟩, hJ.stepR hc hcj hcm (fun _ => hf), ?_⟩, by simp [gt, iv, e13o]; omega⟩
        rw [hR] at hS6
        exact Sep.backF (x := [_, _, _, _]) [_, _, _, _] hS6 hc (by simp [tmP, upT_same, hcm]) (fun d hd => by simp [tmP, upT_ne _ _ hd])
      simp only [hd, hf, e14, e13, e10, e1, e2, e7, e8, e9, e11, q0, q1, Int.toNat_natCast, Nat.zero_add, hx1, r1, hqv, rq, ↓DD, UU, ↓reduceIte, xA, xB, xC, xD, xE, xF, xG, xH, xI, xJ, xK, xL, xM, xN, xO, xP, xQ, ne_eq, eq_self]
      refine callT_of (c_cmnew (sh := ⟨P, i, 0⟩) (c := c) (B := (rv c).bk) hS) ?_
      rintro v H' ⟨k, rfl, hS⟩
      have hD := hS.lk 8 rfl
      have rD := fun o => rd_of hD o
      simp only [hd, hf, e14, e13, e10, e1, e2, e7, e8, e9, e11, q0, q1, Int.toNat_natCast, Nat.zero_add, hD, rD, vrow_size, hc, vrow_set, vrow_at hc, wrap_w64, wj, ↓DD, UU, ↓reduceIte, xA, xB, xC, xD, xE, xF, xG, xH, xI, xJ, xK, xL, xM, xN, xO, xP, xQ, ne_eq, eq_self]
      refine ⟨⟨j + 1, kn, upT kc c k, rv, upT cm c (some (Cm.new ⟨P, i, 0⟩ c (rv c).bk)), w, hlt, by simp [gt], by simp [gt, e10], ⟨by simp [gt, e1], by simp [gt, e2], by simp [gt, e7], by simp [gt, e8], by simp [gt, e9], by simp [gt, e11]⟩, hJ.stepN hc hcj hcm hd hf, ?_⟩, by simp [gt, iv, e13o]; omega⟩
      have eD : tmD dn i (upT kc c k) (upT cm c (some (Cm.new ⟨P, i, 0⟩ c (rv c).bk))) = sg dn (.cells (vrow i fun d => if d = c then .pointer (some ⟨k, 0, none⟩) else dvv (kc d) (cm d)) 40 (0, 0)) := by
        unfold tmD
        congr 3
        funext d
        by_cases e : d = c
        · rw [e, upT_same, upT_same, if_pos rfl]; rfl
        · rw [upT_ne _ _ e, upT_ne _ _ e, if_neg e]
      rw [eD]
      have hS6 := Sep.over (X := [_]) (L := [_, _, _, _, _, _]) (Sep.over (X := [_, _]) (L := [_, _, _]) (hS.p4.tail.p4.tail.p6.set (.cells (vrow i fun d => if d = c then .pointer (some ⟨k, 0, none⟩) else dvv (kc d) (cm d)) 40 (0, 0)))).p3
      rw [hR] at hS6
      exact Sep.backF (x := [_, _, _, _]) [_, _, _, _] hS6 hc (by simp [tmP, upT_same, cmO]) (fun d hd => by simp [tmP, upT_ne _ _ hd])
  have hje : j = m + i * MN := by omega
  subst hje
  have hF := TJ.fin hJ (by omega)
  have d1 : decide (((m + i * MN : Nat) : Int) < ((m + i * MN : Nat) : Int)) = false := decide_eq_false (by omega)
  have w64P : w64 (P * 64) = P * 64 := w64_eq (by omega) (by omega)
  simp only [e13, e10, e1, e2, e7, e8, e9, e11, hx1, r0, wrap_w64, w80, hMN, w90, wnm, wme, d1, w64P, ↓DD, UU, ↓reduceIte, xA, xB, xC, xD, xE, xF, xG, xH, xI, xJ, xK, xL, xM, xN, xO, xP, xQ, ne_eq, eq_self]
  refine callT_of (c_mnew (words := P * 64) (by omega) (by omega) hS) ?_
  rintro v H' ⟨km, rfl, hS⟩
  simp only [e13, e10, e1, e2, e7, e8, e9, e11, ↓DD, UU, ↓reduceIte, xA, xB, xC, xD, xE, xF, xG, xH, xI, xJ, xK, xL, xM, xN, xO, xP, xQ, ne_eq, eq_self]
  refine loop_intro (tmM a cap g ks k2 kn kc rv cm w P ⟨P, i, 0⟩ km s i m cap1 cap2 a1 a2 x b dn L) (fun F' _ => (i - iv (gt F' 19)).toNat)
    ⟨0, [], none, 0, _, Nat.zero_le _, by simp [gt], by simp [gt], by simp [gt], by simp [gt, e10], ⟨by simp [gt, e1], by simp [gt, e2], by simp [gt, e7], by simp [gt, e8], by simp [gt, e9], by simp [gt, e11]⟩, .inl ⟨rfl, rfl, rfl, rfl⟩, TJ.Got.nil, hS⟩ ?_
  clear hS hJ hx1 r0 r1 hQ e10 e1 e2 e7 e8 e9 e11 e13 hj
  rintro F' H' ⟨c, bl, a4, cap4, g4, hci, e19, e18, e17, e10, ⟨e1, e2, e7, e8, e9, e11⟩, hmd, hgot, hS⟩
  have hQ := hS.tail.tail.tail.tail.tail.tail.dropF
  have hx1 := hQ.lk 1 L1
  have r0 := fun o => rd_of hx1 o
  have r1 := fun o n => rdn_of hx1 o n
  by_cases hlt : c < i
  · have d1 : decide ((c : Int) < (i : Int)) = true := decide_eq_true (by omega)
    have q0 : (0 : Int) ≤ (c : Int) := by omega
    have q1 : (c : Int) < (i : Int) := by omega
    have wc : w64 ((c : Int) + 1) = ((c + 1 : Nat) : Int) := by rw [w64_eq (by omega) (by omega)]; omega
    obtain ⟨zb, rfl, hrz⟩ := hG.rd hS (by simp) (i := c) hlt
    obtain ⟨R, hR⟩ : ∃ R, R = famLB i c (tmP ks k2 kn kc rv cm) ++ L := ⟨_, rfl⟩
    have hS : Sep (rvB (ks c) (k2 c) (rv c) :: rvA (k2 c) (kn c) (rv c) :: rvN (kn c) (rv c) :: cmO (kc c) (cm c) :: mjB km a4 bl.length cap4 (P * 64) :: g4 :: wB b s w :: wR s w :: tmD dn i kc cm :: g :: R) H' := by
      rw [hR]; exact hS.pickF [_, _, _, _, _, _] hlt
    have back : ∀ {a4 cap4 bl g4 Z}, Sep (rvB (ks c) (k2 c) (rv c) :: rvA (k2 c) (kn c) (rv c) :: rvN (kn c) (rv c) :: cmO (kc c) (cm c) :: mjB km a4 bl cap4 (P * 64) :: g4 :: wB b s w :: wR s w :: tmD dn i kc cm :: g :: R) Z → Sep (mjB km a4 bl cap4 (P * 64) :: g4 :: wB b s w :: wR s w :: tmD dn i kc cm :: g :: (famL i (tmP ks k2 kn kc rv cm) ++ L)) Z := fun hz => by
      rw [hR] at hz
      exact Sep.backF (x := [_, _, _, _]) [_, _, _, _, _, _] hz hlt rfl (fun _ _ => rfl)
    have lr : ∀ Z : Hp, Sep R Z → Sub h Z := fun Z g => by rw [hR] at g; exact g.dropF.sb h Lm
    simp only [e19, e18, e17, e10, e1, e2, e7, e8, e9, e11, d1, q0, q1, hrz, Nat.zero_add, Int.toNat_natCast, ↓DD, UU, ↓reduceIte, xA, xB, xC, xD, xE, xF, xG, xH, xI, xJ, xK, xL, xM, xN, xO, xP, xQ, ne_eq, eq_self]
    refine callT_of (c_rvfound hS) ?_
    rintro v H' ⟨rfl, hS⟩
    simp only [e19, e18, e17, e10, e1, e2, e7, e8, e9, e11, bkV, ↓DD, UU, ↓reduceIte, xA, xB, xC, xD, xE, xF, xG, xH, xI, xJ, xK, xL, xM, xN, xO, xP, xQ, ne_eq, eq_self]
    refine newB_intro fun q hq f7 f8 => ?_
    have hS := hS.new f7 (.cells #[.bool (rv c).bk.lg, .int .i64 (rv c).bk.p, .int .i64 (rv c).bk.i, .int .i64 (rv c).bk.k, .int .i64 (rv c).bk.n] 37 (0, 0))
    obtain ⟨zb2, hz2, hrz⟩ := hG.rd hS (by simp) (i := c) hlt
    cases hz2
    simp only [Ev.upd_upd, e19, e18, e17, e10, e1, e2, e7, e8, e9, e11, q0, q1, hrz, Int.toNat_natCast, Nat.zero_add, ↓DD, UU, ↓reduceIte, xA, xB, xC, xD, xE, xF, xG, xH, xI, xJ, xK, xL, xM, xN, xO, xP, xQ, ne_eq, eq_self]
    refine callT_of (c_rvdone hS.r3) ?_
    rintro v H' ⟨rfl, hS⟩
    have hdn' := hF.dn c hlt
    have hD := hS.lk 9 rfl
    have rD := fun o => rd_of hD o
    obtain ⟨b1, o1, rfl, hrd⟩ := (hr1.sub (lr _ hS.tail.tail.tail.tail.tail.tail.tail.tail.tail.tail.tail)).at' hlt
    have hcb := hcc c hlt
    have w4a : w64 (cc c) = cc c := w64_eq (by omega) (by omega)
    have w4b : w64 (1 + cc c % 512) = 1 + cc c % 512 := w64_eq (by omega) (by omega)
    have t4a : (cc c).tmod 512 = cc c % 512 := Int.tmod_eq_emod_of_nonneg hcb.1
    cases hf : (rv c).fd
    · simp only [hf, hdn', e19, e18, e17, e10, e1, e2, e7, e8, e9, e11, q0, q1, hrd, wrap_w64, w4a, w4b, t4a, u_length, Int.toNat_natCast, Nat.zero_add, ↓DD, UU, ↓reduceIte, xA, xB, xC, xD, xE, xF, xG, xH, xI, xJ, xK, xL, xM, xN, xO, xP, xQ, ne_eq, eq_self]
      refine draw_intro [] (by simp only [↓DD, UU, ↓reduceIte, xA, xB, xC, xD, xE, xF, xG, xH, xI, xJ, xK, xL, xM, xN, xO, xP, xQ, ne_eq, eq_self]) ?_
      simp only [hf, e19, e18, e17, e10, e1, e2, e7, e8, e9, e11, wrap_w64, wc, ↓DD, UU, ↓reduceIte, xA, xB, xC, xD, xE, xF, xG, xH, xI, xJ, xK, xL, xM, xN, xO, xP, xQ, ne_eq, eq_self]
      exact ⟨⟨c + 1, bl, a4, cap4, g4, hlt, by simp [gt], by simp [gt, e18], by simp [gt, e17], by simp [gt, e10], ⟨by simp [gt, e1], by simp [gt, e2], by simp [gt, e7], by simp [gt, e8], by simp [gt, e9], by simp [gt, e11]⟩, hmd, hgot.none hf, back hS.p3.tail⟩, by simp [gt, iv, e19]; omega⟩
    obtain ⟨t, ht, htd, htb⟩ := hF.fd c hlt hf
    simp only [hf, hdn', e19, e18, e17, e10, e1, e2, e7, e8, e9, e11, q0, q1, hrd, wrap_w64, w4a, w4b, t4a, u_length, hD, rD, vrow_at hlt, ht, dvv, Int.toNat_natCast, Nat.zero_add, ↓DD, UU, ↓reduceIte, xA, xB, xC, xD, xE, xF, xG, xH, xI, xJ, xK, xL, xM, xN, xO, xP, xQ, ne_eq, eq_self]
    rw [ht] at hS
    refine callT_of (c_cmdone (t := t) hS.p4) ?_
    rintro v H' ⟨rfl, hS⟩
    obtain ⟨b2, o2, hz, hrd⟩ := (hr1.sub (lr _ hS.tail.tail.tail.tail.tail.tail.tail.tail.tail.tail.tail)).at' hlt
    cases hz
    obtain ⟨y0, y1, y2, y3, pre, post, rfl, hpre, hpost, hgot2⟩ := TJ.Got.some hF hlt hgot hf
    obtain ⟨-, -, -, hfit, -⟩ := hF.tm.k c hlt t ht
    rw [htb] at hfit
    have hbk0 := rv_bk0 hf
    have hbd : (0 ≤ (rv c).bk.p ∧ (rv c).bk.p ≤ 64) ∧ (0 ≤ (rv c).bk.i ∧ (rv c).bk.i ≤ 64) ∧ (0 ≤ (rv c).bk.n ∧ (rv c).bk.n ≤ 64) := by
      have p0 := hfit.p0
      have p1 : (rv c).bk.p < P := hfit.p1
      cases e : (rv c).bk.lg
      · have g1 := hfit.s e
        have sb := slots_bd (rv c).bk.k
        have := hbk0.2 e
        exact ⟨by omega, by omega, by omega⟩
      · have g1 := hfit.l e
        have := hbk0.1 e
        exact ⟨by omega, by omega, by omega⟩
    have hle := hgot.le
    have hql := hS.lk 4 rfl
    have rq := fun o n => rdn_of hql o n
    have hNc : Nf c = 1 + cc c % 512 := by rw [hNf]
    rw [hNc] at y3
    have k1 : ((rv c).bk.len != len (1 + cc c % 512)) = false := by rw [y3]; simp
    simp only [htd, hf, hdn', e19, e18, e17, e10, e1, e2, e7, e8, e9, e11, q0, q1, hrd, wrap_w64, w4a, w4b, t4a, u_length, Int.toNat_natCast, Nat.zero_add, ↓DD, UU, ↓reduceIte, xA, xB, xC, xD, xE, xF, xG, xH, xI, xJ, xK, xL, xM, xN, xO, xP, xQ, ne_eq, eq_self]
    refine draw_intro [(q, #[.bool (rv c).bk.lg, .int .i64 (rv c).bk.p, .int .i64 (rv c).bk.i, .int .i64 (rv c).bk.k, .int .i64 (rv c).bk.n], [])] (by simp only [hql, ↓DD, UU, ↓reduceIte, xA, xB, xC, xD, xE, xF, xG, xH, xI, xJ, xK, xL, xM, xN, xO, xP, xQ, ne_eq, eq_self]) ?_
    simp only [e19, e18, e17, e10, e1, e2, e7, e8, e9, e11, hql, rq, ↓DD, UU, ↓reduceIte, xA, xB, xC, xD, xE, xF, xG, xH, xI, xJ, xK, xL, xM, xN, xO, xP, xQ, ne_eq, eq_self]
    refine callT_of (c_bklen (B := (rv c).bk) hbd.2.2 hS) ?_
    rintro v H' ⟨rfl, hS⟩
    have hql := hS.lk 4 rfl
    have rq := fun o n => rdn_of hql o n
    simp only [e19, e18, e17, e10, e1, e2, e7, e8, e9, e11, hql, rq, k1, ↓DD, UU, ↓reduceIte, xA, xB, xC, xD, xE, xF, xG, xH, xI, xJ, xK, xL, xM, xN, xO, xP, xQ, ne_eq, eq_self]
    refine callT_of (c_bkat (B := (rv c).bk) hbd.1 hbd.2.1 hS) ?_
    rintro v H' ⟨rfl, hS⟩
    have hql := hS.lk 4 rfl
    have rq := fun o n => rdn_of hql o n
    simp only [e19, e18, e17, e10, e1, e2, e7, e8, e9, e11, hql, rq, k1, ↓DD, UU, ↓reduceIte, xA, xB, xC, xD, xE, xF, xG, xH, xI, xJ, xK, xL, xM, xN, xO, xP, xQ, ne_eq, eq_self]
    refine callT_of (c_bklen (B := (rv c).bk) hbd.2.2 hS) ?_
    rintro v H' ⟨rfl, hS⟩
    have hql := hS.lk 4 rfl
    have rq := fun o n => rdn_of hql o n
    simp only [e19, e18, e17, e10, e1, e2, e7, e8, e9, e11, hql, rq, k1, ↓DD, UU, ↓reduceIte, xA, xB, xC, xD, xE, xF, xG, xH, xI, xJ, xK, xL, xM, xN, xO, xP, xQ, ne_eq, eq_self]
    refine callT_of (c_mtake (words := P * 64) (pre := pre) (post := post) hmd (by omega) (by omega) y0 y1 y2 hpre hpost (Sep.over (X := [_, _, _, _, _]) (L := [_, _]) hS)) ?_
    rintro v H' ⟨rfl, a5, cap5, g5, hmd5, hS⟩
    have hql := hS.lk 6 rfl
    have rq := fun o n => rdn_of hql o n
    have eL : pre ++ [((rv c).bk.ad, (rv c).bk.len)] ++ post = pre ++ ((rv c).bk.ad, (rv c).bk.len) :: post := by rw [List.append_assoc]; rfl
    rw [eL] at hmd5 hS
    have hll : (pre ++ ((rv c).bk.ad, (rv c).bk.len) :: post).length = (pre ++ post).length + 1 := by rw [List.length_append, List.length_append, List.length_cons]; omega
    have wl : w64 (((pre ++ post).length : Int) + 1) = ((pre ++ ((rv c).bk.ad, (rv c).bk.len) :: post).length : Int) := by rw [hll, w64_eq (by omega) (by omega)]; omega
    simp only [e19, e18, e17, e10, e1, e2, e7, e8, e9, e11, hql, rq, k1, wrap_w64, wl, wc, ↓DD, UU, ↓reduceIte, xA, xB, xC, xD, xE, xF, xG, xH, xI, xJ, xK, xL, xM, xN, xO, xP, xQ, ne_eq, eq_self]
    refine ⟨⟨c + 1, _, a5, cap5, g5, hlt, by simp [gt], by simp [gt], by simp [gt, e17], by simp [gt, e10], ⟨by simp [gt, e1], by simp [gt, e2], by simp [gt, e7], by simp [gt, e8], by simp [gt, e9], by simp [gt, e11]⟩, hmd5, hgot2, back ?_⟩, by simp [gt, iv, e19]; omega⟩
    rw [ht]
    exact (Sep.over (X := [_, _]) (L := [_, _, _, _]) hS.p6.tail).r3
  have d1 : decide ((c : Int) < (i : Int)) = false := decide_eq_false (by omega)
  have hce : c = i := by omega
  subst hce
  have hB := TJ.Got.all hF hgot
  have hwn : w.n ≤ 2000 := by have := hF.tm.of.n; have this : (w.n : Int) = words P c 0 := this; omega
  have hnW : ((w.n : Nat) : Int) = words P c 0 := hF.tm.of.n
  have hle := hgot.le
  simp only [e19, e18, e17, e10, e1, e2, e7, e8, e9, e11, d1, ↓DD, UU, ↓reduceIte, xA, xB, xC, xD, xE, xF, xG, xH, xI, xJ, xK, xL, xM, xN, xO, xP, xQ, ne_eq, eq_self]
  refine draw_intro [(x, #[.int .i64 P, .int .i64 c, .int .i64 0], [])] (by simp only [hx1, ↓DD, UU, ↓reduceIte, xA, xB, xC, xD, xE, xF, xG, xH, xI, xJ, xK, xL, xM, xN, xO, xP, xQ, ne_eq, eq_self]) ?_
  simp only [e19, e18, e17, e10, e1, e2, e7, e8, e9, e11, hx1, r1, ↓DD, UU, ↓reduceIte, xA, xB, xC, xD, xE, xF, xG, xH, xI, xJ, xK, xL, xM, xN, xO, xP, xQ, ne_eq, eq_self]
  refine callT_of (c_all (w := w) hwn (Sep.over (X := [_, _]) (L := [_, _]) hS)) ?_
  rintro v H' ⟨a3, cap3, h3, rfl, hr3, hS⟩
  have lx : ∀ Z : Hp, Sep (famL c (tmP ks k2 kn kc rv cm) ++ L) Z → Z x = some (.cells #[.int .i64 P, .int .i64 c, .int .i64 0] 26 (0, 0)) := fun Z g => g.dropF.lk 1 L1
  have hx1 := lx _ hS.tail.tail.tail.tail.tail.tail.tail
  have r1 := fun o n => rdn_of hx1 o n
  simp only [e19, e18, e17, e10, e1, e2, e7, e8, e9, e11, hx1, r1, ↓DD, UU, ↓reduceIte, xA, xB, xC, xD, xE, xF, xG, xH, xI, xJ, xK, xL, xM, xN, xO, xP, xQ, ne_eq, eq_self]
  refine callT_of (c_blocks (sh := ⟨P, c, 0⟩) hmay hnW hr3 (fun i _ => hF.tm.of.u i) hS) ?_
  rintro v H' ⟨ba, bc, gb, rfl, hBL, hS⟩
  have hB' : blks ⟨P, c, 0⟩ w.ws P.toNat = bl := hB
  have hBL : BsL ba bc bl gb := by rw [← hB']; exact hBL
  have hx1 := lx _ hS.tail.tail.tail.tail.tail.tail.tail.tail
  have r0 := fun o => rd_of hx1 o
  have r1 := fun o n => rdn_of hx1 o n
  have k1 : ((bl.length : Int) != (bl.length : Int)) = false := by simp
  simp only [e19, e18, e17, e10, e1, e2, e7, e8, e9, e11, hx1, r1, hB', k1, ↓DD, UU, ↓reduceIte, xA, xB, xC, xD, xE, xF, xG, xH, xI, xJ, xK, xL, xM, xN, xO, xP, xQ, ne_eq, eq_self]
  refine draw_intro [(x, #[.int .i64 P, .int .i64 c, .int .i64 0], [])] (by simp only [hx1, ↓DD, UU, ↓reduceIte, xA, xB, xC, xD, xE, xF, xG, xH, xI, xJ, xK, xL, xM, xN, xO, xP, xQ, ne_eq, eq_self]) ?_
  simp only [e19, e18, e17, e10, e1, e2, e7, e8, e9, e11, hx1, r0, r1, k1, ↓DD, UU, ↓reduceIte, xA, xB, xC, xD, xE, xF, xG, xH, xI, xJ, xK, xL, xM, xN, xO, xP, xQ, ne_eq, eq_self]
  refine callT_of (c_all (w := w) hwn (Sep.over (X := [_, _]) (L := [_, _]) hS)) ?_
  rintro v H' ⟨a5, cap5, h5, rfl, hr5, hS⟩
  have hx1 := lx _ hS.tail.tail.tail.tail.tail.tail.tail.tail.tail
  have r0 := fun o => rd_of hx1 o
  have r1 := fun o n => rdn_of hx1 o n
  simp only [e19, e18, e17, e10, e1, e2, e7, e8, e9, e11, hx1, r0, r1, k1, ↓DD, UU, ↓reduceIte, xA, xB, xC, xD, xE, xF, xG, xH, xI, xJ, xK, xL, xM, xN, xO, xP, xQ, ne_eq, eq_self]
  refine callT_of (c_soundV (sh := ⟨P, c, 0⟩) hmay hnW hr5 (fun i _ => hF.tm.of.u i) hS) ?_
  rintro v H' ⟨sb, rfl, hsb, hS⟩
  have hsb := hsb.2 (hF.tm.bs.snd hmay)
  subst hsb
  have hx1 := lx _ hS.tail.tail.tail.tail.tail.tail.tail.tail.tail
  have r0 := fun o => rd_of hx1 o
  have hgz : (((bl.length : Int) == 0) = true → (P == 8) = false) := fun g => by
    have := hgot.ne hF
    refine beq_eq_false_iff_ne.2 fun e => this e ?_
    have := beq_iff_eq.1 g; omega
  obtain ⟨TL, hTL⟩ : ∃ TL, TL = tmD dn c kc cm :: g :: (famL c (tmP ks k2 kn kc rv cm) ++ L) := ⟨_, rfl⟩
  rw [← hTL] at hS
  cases hb0 : ((bl.length : Int) == 0)
  all_goals
    first
      | simp only [e19, e18, e17, e10, e1, e2, e7, e8, e9, e11, hx1, r0, r1, k1, hb0, hgz hb0, ↓DD, UU, ↓reduceIte, xA, xB, xC, xD, xE, xF, xG, xH, xI, xJ, xK, xL, xM, xN, xO, xP, xQ, ne_eq, eq_self]
      | simp only [e19, e18, e17, e10, e1, e2, e7, e8, e9, e11, hx1, r0, r1, k1, hb0, ↓DD, UU, ↓reduceIte, xA, xB, xC, xD, xE, xF, xG, xH, xI, xJ, xK, xL, xM, xN, xO, xP, xQ, ne_eq, eq_self]
    refine loop_intro (tmE bl km cap4 bc a4 ba (h5 :: wB b s w :: wR s w :: gb :: h3 :: mjB km a4 bl.length cap4 (P * 64) :: g4 :: TL)) (fun F' _ => (bl.length - iv (gt F' 25)).toNat)
      ⟨0, by omega, by simp [gt], by simp [gt], by simp [gt, e17], hS⟩ ?_
    clear hS hx1 r0 r1 e10 e1 e2 e7 e8 e9 e11 e17 e18 e19
    rintro F' H' ⟨i, hi, e25, e24, e17, hS⟩
    have hk1 := hS.lk 5 rfl
    have rk := fun o => rd_of hk1 o
    by_cases hlt : i < bl.length
    · have d1 : decide ((i : Int) < (bl.length : Int)) = true := decide_eq_true (by omega)
      have p0 : (0 : Int) ≤ (i : Int) := by omega
      have p1 : (i : Int) < (bl.length : Int) := by omega
      have wi : w64 ((i : Int) + 1) = (i : Int) + 1 := w64_eq (by omega) (by omega)
      have hBL' := hBL
      rcases hBL' with ⟨-, h0, -, -⟩ | ⟨zb, cb, rfl, hg, -, -, hce⟩
      · omega
      obtain ⟨hc0, hc1⟩ := hce i hlt
      have hg1 := hS.lk 3 (b := zb) (o := .cells cb 53 (0, 0)) (by rw [hg]; rfl)
      have rg := fun o => rd_of hg1 o
      have hc0 : cb[i * 2]? = some (.int .i64 (bl.getD i (0, 0)).1) := hc0
      have hc1 : cb[i * 2 + 1]? = some (.int .i64 (bl.getD i (0, 0)).2) := hc1
      obtain ⟨zm, hzm, hr1, hr2, -⟩ := hmd.cell hS (by simp) hlt
      have v1 : ((bl.getD i (0, 0)).1 != (bl.getD i (0, 0)).1) = false := by simp
      have v2 : ((bl.getD i (0, 0)).2 != (bl.getD i (0, 0)).2) = false := by simp
      subst hzm
      simp only [e25, e24, e17, d1, p0, p1, Int.toNat_natCast, hg1, rg, hc0, hc1, hk1, rk, hr1, hr2, v1, v2, wrap_w64, wi, ↓DD, UU, ↓reduceIte, xA, xB, xC, xD, xE, xF, xG, xH, xI, xJ, xK, xL, xM, xN, xO, xP, xQ, ne_eq, eq_self]
      exact ⟨⟨i + 1, hlt, by simp [gt], by simp [gt, e24], by simp [gt, e17], hS⟩, by simp [gt, iv, e25]; omega⟩
    have d1 : decide ((i : Int) < (bl.length : Int)) = false := decide_eq_false (by omega)
    simp only [e25, e24, e17, d1, ↓DD, UU, ↓reduceIte, xA, xB, xC, xD, xE, xF, xG, xH, xI, xJ, xK, xL, xM, xN, xO, xP, xQ, ne_eq, eq_self]
    rw [hTL] at hS
    exact fin _ hS.tail.tail.tail.tail.tail.tail.tail.tail.tail.dropF
end
theorem l_takemany {W : World} {n m cap1 cap2 : Nat} {a1 a2 : Option Addr} {cc tt : Nat → Int} (pg : Int) (hp : 0 ≤ pg ∧ pg ≤ 255) (hn : n ≤ 9223372036854775807) (hr1 : RowV (memOf W) a1 n (fun i => .int .u16 (cc i))) (h1 : ∀ i, i < n → IntKind.u16.has (cc i)) (hm : m ≤ 9223372036854775807) (hr2 : RowV (memOf W) a2 m (fun i => .int .u8 (tt i))) (h2 : ∀ i, i < m → IntKind.u8.has (tt i)) :
    CallP Tryz.prog W 3 #[.int .u8 pg, .slice a1 n cap1, .slice a2 m cap2] (memOf W) fun v H' => v = .bool true ∧ Sub (memOf W) H' :=
  (c_takemany hp hr1 hn (fun i hi => u16_bd (h1 i hi)) hr2 hm (fun i hi => u8_bd (h2 i hi)) (Sep.one _)).mono fun v H' ⟨h1, h2⟩ => ⟨h1, h2.head⟩
end Go.Proofs.YtfdhilnaagpecaaGreat
