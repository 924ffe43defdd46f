/-
  SeekMany, walked: many that seek at the same time, from a blank heap. Conditions: none.
-/
import Derived.Test.YtpdmeneigpipiaaCodeAllotmentlaw13
import Derived.Test.YtpdmeneigpipiaaSeekK
import Derived.Test.YtpdmeneigpipiaaAlt
import Derived.Test.YtpdmeneigpipiaaLawK
import Derived.Test.YtpdmeneigpipiaaGrow
import Derived.Test.YtpdmeneigpipiaaRowB
import Derived.Test.YtpdmeneigpipiaaFam2
import Derived.Test.YtpdmeneigpipiaaMaSeekMany
set_option linter.unusedVariables false
set_option linter.unusedSectionVars false
set_option linter.unusedSimpArgs false
set_option maxRecDepth 8000
namespace Go.Proofs.Ytpdmeneigpipiaa
open Go Go.Ev Go.Pl Go.Ma

theorem xm_shr (v : Int) : Int.fdiv v (2 ^ min 2 IntKind.u8.bits) = v / 4 := by
  rw [show min 2 IntKind.u8.bits = 2 from rfl, Int.fdiv_eq_ediv_of_nonneg v (by decide)]; rfl
theorem xm_cells {H : Hp} {b o : Nat} {v : Value} (h : rd H b o = some v) : ∃ c T f, H b = some (.cells c T f) ∧ c[o]? = some v := by
  unfold rd at h
  split at h
  · rename_i c T f e; exact ⟨c, T, f, e, h⟩
  · cases h
section
variable {W : World} {H h : Hp} {l : List Hp} {n m cap1 cap2 : Nat} {a1 a2 : Option Addr} {cc tt : Nat → Int}
def xmG (n m cap1 cap2 : Nat) (a1 a2 : Option Addr) (x b : Nat) (F' : Fr) : Prop := gt F' 1 = .slice a1 n cap1 ∧ gt F' 2 = .slice a2 m cap2 ∧ gt F' 7 = .int .i64 (n : Int) ∧ gt F' 8 = .pointer (some ⟨x, 0, none⟩) ∧ gt F' 9 = .pointer (some ⟨b, 0, none⟩)
def xmF (ks kn : Nat → Nat) (ts : Nat → Sk) (i : Nat) (L : List Hp) : List Hp := fam i (fun c => skB (ks c) (kn c) (ts c)) ++ (fam i (fun c => nwB (kn c) (ts c).nw) ++ L)
def xmA (sh : Sh) (K f : Nat → Int) (w0 : Wd) (s n m cap1 cap2 : Nat) (a1 a2 : Option Addr) (x b : Nat) (L : List Hp) (F' : Fr) (H' : Hp) : Prop :=
  ∃ (i : Nat) (a : Option Addr) (cap : Nat) (g : Hp) (ks kn : Nat → Nat), i ≤ n ∧ gt F' 11 = .int .i64 (i : Int) ∧ gt F' 10 = .slice a i cap ∧ xmG n m cap1 cap2 a1 a2 x b F' ∧ Gr 31 a i cap (fun j => .pointer (some ⟨ks j, 0, none⟩)) g ∧
    Sep (wB b s w0 :: wR s w0 :: g :: xmF ks kn (fun c => Sk.new sh c (K c) (f c)) i L) H'
def xmB (sh : Sh) (K f : Nat → Int) (a : Option Addr) (cap : Nat) (g : Hp) (ks : Nat → Nat) (s n m cap1 cap2 : Nat) (a1 a2 : Option Addr) (x b : Nat) (L : List Hp) (F' : Fr) (H' : Hp) : Prop :=
  ∃ (i : Nat) (kn : Nat → Nat) (ts : Nat → Sk) (w : Wd), i ≤ m ∧ gt F' 12 = .int .i64 (i : Int) ∧ gt F' 10 = .slice a n cap ∧ xmG n m cap1 cap2 a1 a2 x b F' ∧ SkInv n sh K f ts w ∧ (∀ c, c < n → (ts c).left ≤ 80 * sh.p + 80) ∧
    Sep (wB b s w :: wR s w :: g :: xmF ks kn ts n L) H'
def Blo (ts : Nat → Sk) (d : Nat) (j : Nat) : Prop := (ts d).pg * 64 + (ts d).sl * size (ts d).k ≤ (j : Int) ∧ (j : Int) < (ts d).pg * 64 + (ts d).sl * size (ts d).k + size (ts d).k
def xmC (sh : Sh) (K f : Nat → Int) (N : Nat) (sb : Nat) (a : Option Addr) (cap : Nat) (g : Hp) (ks : Nat → Nat) (s n m cap1 cap2 : Nat) (a1 a2 : Option Addr) (x b : Nat) (L : List Hp) (F' : Fr) (H' : Hp) : Prop :=
  ∃ (c : Nat) (kn : Nat → Nat) (ts : Nat → Sk) (w : Wd) (sv : Nat → Bool), c ≤ n ∧ gt F' 15 = .int .i64 (c : Int) ∧ gt F' 14 = .int .i64 (cnt (fun d => (ts d).fd) c : Nat) ∧ gt F' 13 = .slice (some ⟨sb, 0, none⟩) N N ∧ gt F' 10 = .slice a n cap ∧ xmG n m cap1 cap2 a1 a2 x b F' ∧ SkInv n sh K f ts w ∧
    (∀ c, c < n → (ts c).left ≤ 80 * sh.p + 80) ∧ (∀ d, d < c → (ts d).dn = true) ∧ (∀ j : Nat, sv j = true → ∃ d, d < c ∧ (ts d).fd = true ∧ Blo ts d j) ∧
    Sep (wB b s w :: wR s w :: g :: sg sb (.cells (brow N sv) 4 (0, 0)) :: xmF ks kn ts n L) H'
def xmD (sh : Sh) (K f : Nat → Int) (c : Nat) (ts0 : Nat → Sk) (sv : Nat → Bool) (N : Nat) (sb : Nat) (a : Option Addr) (cap : Nat) (g : Hp) (ks : Nat → Nat) (s n m cap1 cap2 : Nat) (a1 a2 : Option Addr) (x b : Nat) (L : List Hp) (F' : Fr) (H' : Hp) : Prop :=
  ∃ (i : Int) (kn : Nat → Nat) (ts : Nat → Sk) (w : Wd), 0 ≤ i ∧ i ≤ 80 * sh.p + 80 ∧ gt F' 16 = .int .i64 i ∧ gt F' 15 = .int .i64 (c : Int) ∧ gt F' 14 = .int .i64 (cnt (fun d => (ts0 d).fd) c : Nat) ∧ gt F' 13 = .slice (some ⟨sb, 0, none⟩) N N ∧ gt F' 10 = .slice a n cap ∧ xmG n m cap1 cap2 a1 a2 x b F' ∧ SkInv n sh K f ts w ∧
    (∀ c, c < n → (ts c).left ≤ 80 * sh.p + 80) ∧ (∀ d, d ≠ c → ts d = ts0 d) ∧ (ts c).left ≤ max 0 (80 * sh.p + 80 - i) ∧
    Sep (wB b s w :: wR s w :: g :: sg sb (.cells (brow N sv) 4 (0, 0)) :: xmF ks kn ts n L) H'
def xmE (ts : Nat → Sk) (w : Wd) (kn : Nat → Nat) (c : Nat) (q sl K0 : Int) (sv : Nat → Bool) (N : Nat) (sb : Nat) (a : Option Addr) (cap : Nat) (g : Hp) (ks : Nat → Nat) (s n m cap1 cap2 : Nat) (a1 a2 : Option Addr) (x b : Nat) (L : List Hp) (F' : Fr) (H' : Hp) : Prop :=
  ∃ (i : Int), 0 ≤ i ∧ i ≤ size K0 ∧ gt F' 23 = .int .i64 (q * 64 + sl * size K0 + i) ∧ gt F' 17 = .int .i64 q ∧ gt F' 18 = .int .i64 sl ∧ gt F' 20 = .int .i64 K0 ∧ gt F' 15 = .int .i64 (c : Int) ∧ gt F' 14 = .int .i64 (cnt (fun d => (ts d).fd) (c + 1) : Nat) ∧ gt F' 13 = .slice (some ⟨sb, 0, none⟩) N N ∧ gt F' 10 = .slice a n cap ∧ xmG n m cap1 cap2 a1 a2 x b F' ∧
    Sep (wB b s w :: wR s w :: g :: sg sb (.cells (brow N fun j => sv j || (decide (q * 64 + sl * size K0 ≤ (j : Int)) && decide ((j : Int) < q * 64 + sl * size K0 + i))) 4 (0, 0)) :: xmF ks kn ts n L) H'
def xmR (ts : Nat → Sk) (w : Wd) (kn : Nat → Nat) (c : Nat) (q sl K0 v : Int) (sh : Sh) (sv : Nat → Bool) (N : Nat) (sb : Nat) (a : Option Addr) (cap : Nat) (g : Hp) (ks : Nat → Nat) (s n m cap1 cap2 : Nat) (a1 a2 : Option Addr) (x b : Nat) (L : List Hp) (F' : Fr) (H' : Hp) : Prop :=
  gt F' 17 = .int .i64 q ∧ gt F' 18 = .int .i64 sl ∧ gt F' 20 = .int .i64 K0 ∧ gt F' 15 = .int .i64 (c : Int) ∧ gt F' 14 = .int .i64 (cnt (fun d => (ts d).fd) (c + 1) : Nat) ∧ gt F' 13 = .slice (some ⟨sb, 0, none⟩) N N ∧ gt F' 10 = .slice a n cap ∧ xmG n m cap1 cap2 a1 a2 x b F' ∧
    ∃ y, gt F' 21 = .pointer (some ⟨y, 0, none⟩) ∧ Sep (wB b s w :: wR s w :: sg y (.cells #[.int .i64 (pgK sh q v), .int .i64 (pgA sh q v), .int .i64 (pgB sh q v)] 39 (0, 0)) :: g :: sg sb (.cells (brow N sv) 4 (0, 0)) :: xmF ks kn ts n L) H'
/-- No two have a word in common. -/
theorem blo_apart {s : Sh} {K f : Nat → Int} {ts : Nat → Sk} {w : Wd} (hI : SkInv n s K f ts w) {c d : Nat} (hc : c < n) (hd : d < n) (hne : c ≠ d) (c1 : (ts c).dn = true) (c2 : (ts c).fd = true) (d1 : (ts d).dn = true) (d2 : (ts d).fd = true) {j : Nat} (h1 : Blo ts c j) (h2 : Blo ts d j) : False := by
  obtain ⟨g1, g2, g3, g4, g5, -⟩ := (hI.ins c hc).fin c1 c2
  obtain ⟨k1, k2, k3, k4, k5, -⟩ := (hI.ins d hd).fin d1 d2
  have hap := hI.apart hc hd hne c1 c2 d1 d2
  have b1 := slots_four g5.bd.1 g5.bd.2
  have b2 := slots_four k5.bd.1 k5.bd.2
  unfold Blo at h1 h2
  have m1 : 0 ≤ (ts c).sl * size (ts c).k := Int.mul_nonneg g3 (by omega)
  have m2 : 0 ≤ (ts d).sl * size (ts d).k := Int.mul_nonneg k3 (by omega)
  have n1 := Int.mul_le_mul_of_nonneg_right (show (ts c).sl + 1 ≤ slots (ts c).k by omega) (show 0 ≤ size (ts c).k by omega)
  have n2 := Int.mul_le_mul_of_nonneg_right (show (ts d).sl + 1 ≤ slots (ts d).k by omega) (show 0 ≤ size (ts d).k by omega)
  rw [Int.add_mul, b1.2.2.1] at n1
  rw [Int.add_mul, b2.2.2.1] at n2
  by_cases e : (ts c).pg = (ts d).pg
  · obtain ⟨e1, e2⟩ := hap e
    rw [e1] at h1 n1 m1
    rcases Int.lt_or_gt_of_ne e2 with g | g
    · have := Int.mul_le_mul_of_nonneg_right (show (ts c).sl + 1 ≤ (ts d).sl by omega) (show 0 ≤ size (ts d).k by omega)
      rw [Int.add_mul] at this; omega
    · have := Int.mul_le_mul_of_nonneg_right (show (ts d).sl + 1 ≤ (ts c).sl by omega) (show 0 ≤ size (ts d).k by omega)
      rw [Int.add_mul] at this; omega
  · omega
set_option maxHeartbeats 4000000 in
theorem c_seekmany {pg : Int} (hpg : 0 ≤ pg ∧ pg ≤ 255) (hr1 : RowV h a1 n (fun i => .int .u8 (cc i))) (hn1 : n ≤ 9223372036854775807) (hcc : ∀ i, i < n → 0 ≤ cc i ∧ cc i ≤ 255) (hr2 : RowV h a2 m (fun i => .int .u8 (tt i))) (hm1 : m ≤ 9223372036854775807) (htt : ∀ i, i < m → 0 ≤ tt i ∧ tt i ≤ 255) (hS : Sep (h :: l) H) :
    CallP Try.prog W 3 #[.int .u8 pg, .slice a1 n cap1, .slice a2 m cap2] H fun v H' => v = .bool true ∧ Sep (h :: l) H' := by
  refine CallP.of mixed Try.func3 tr3 (by show 3 ≤ _; decide) fun W _ => ?_
  simp only [↓D0, ↓D1, ↓D2, ↓D3, ↓D4, ↓D5, ↓D6, ↓D7, ↓D8, ↓D9, ↓D10, U0, U1, U2, U3, U4, U5, U6, U7, U8, U9, U10, ↓reduceIte, Nat.reduceAdd, Nat.reduceMul, Nat.reduceSub, Nat.reduceEqDiff, Nat.reduceBEq, Nat.reduceLeDiff, Nat.reduceLT, Int.reduceAdd, Int.reduceMul, Int.reduceSub, Int.reduceLT, Int.reduceLE, Int.reduceToNat, Int.reduceEq, Int.reduceNe, Int.reduceBEq, Int.reduceBNe, ne_eq, eq_self]
  refine callT_of (c_awake13 hS) ?_
  rintro v H' ⟨rfl, hS⟩
  by_cases hn0 : n = 0
  · have g0 : ((n : Int) == 0) = true := beq_iff_eq.2 (by omega)
    simp only [g0, ↓D0, ↓D1, ↓D2, ↓D3, ↓D4, ↓D5, ↓D6, ↓D7, ↓D8, ↓D9, ↓D10, U0, U1, U2, U3, U4, U5, U6, U7, U8, U9, U10, ↓reduceIte, Nat.reduceAdd, Nat.reduceMul, Nat.reduceSub, Nat.reduceEqDiff, Nat.reduceBEq, Nat.reduceLeDiff, Nat.reduceLT, Int.reduceAdd, Int.reduceMul, Int.reduceSub, Int.reduceLT, Int.reduceLE, Int.reduceToNat, Int.reduceEq, Int.reduceNe, Int.reduceBEq, Int.reduceBNe, ne_eq, eq_self]
    exact hS
  have g0 : ((n : Int) == 0) = false := beq_eq_false_iff_ne.2 (by omega)
  by_cases hn10 : (10 : Int) < (n : Int)
  · have g1 : decide ((10 : Int) < (n : Int)) = true := decide_eq_true hn10
    simp only [g0, g1, ↓D0, ↓D1, ↓D2, ↓D3, ↓D4, ↓D5, ↓D6, ↓D7, ↓D8, ↓D9, ↓D10, U0, U1, U2, U3, U4, U5, U6, U7, U8, U9, U10, ↓reduceIte, Nat.reduceAdd, Nat.reduceMul, Nat.reduceSub, Nat.reduceEqDiff, Nat.reduceBEq, Nat.reduceLeDiff, Nat.reduceLT, Int.reduceAdd, Int.reduceMul, Int.reduceSub, Int.reduceLT, Int.reduceLE, Int.reduceToNat, Int.reduceEq, Int.reduceNe, Int.reduceBEq, Int.reduceBNe, ne_eq, eq_self]
    exact hS
  have g1 : decide ((10 : Int) < (n : Int)) = false := decide_eq_false hn10
  by_cases hm3 : (3000 : Int) < (m : Int)
  · have g2 : decide ((3000 : Int) < (m : Int)) = true := decide_eq_true hm3
    simp only [g0, g1, g2, ↓D0, ↓D1, ↓D2, ↓D3, ↓D4, ↓D5, ↓D6, ↓D7, ↓D8, ↓D9, ↓D10, U0, U1, U2, U3, U4, U5, U6, U7, U8, U9, U10, ↓reduceIte, Nat.reduceAdd, Nat.reduceMul, Nat.reduceSub, Nat.reduceEqDiff, Nat.reduceBEq, Nat.reduceLeDiff, Nat.reduceLT, Int.reduceAdd, Int.reduceMul, Int.reduceSub, Int.reduceLT, Int.reduceLE, Int.reduceToNat, Int.reduceEq, Int.reduceNe, Int.reduceBEq, Int.reduceBNe, ne_eq, eq_self]
    exact hS
  have g2 : decide ((3000 : Int) < (m : Int)) = false := decide_eq_false hm3
  have wp : w64 pg = pg := w64_eq (by omega) (by omega)
  have t6 : pg.tmod 6 = pg % 6 := Int.tmod_eq_emod_of_nonneg hpg.1
  obtain ⟨P, hP⟩ : ∃ P, 1 + pg % 6 = P := ⟨_, rfl⟩
  have hPb : 1 ≤ P ∧ P ≤ 6 := by omega
  have wP : w64 P = P := w64_eq (by omega) (by omega)
  have hmay : may P n 0 = true := (may_iff _ _ _).2 (by omega)
  simp only [g0, g1, g2, wrap_w64, wp, t6, hP, wP, ↓D0, ↓D1, ↓D2, ↓D3, ↓D4, ↓D5, ↓D6, ↓D7, ↓D8, ↓D9, ↓D10, U0, U1, U2, U3, U4, U5, U6, U7, U8, U9, U10, ↓reduceIte, Nat.reduceAdd, Nat.reduceMul, Nat.reduceSub, Nat.reduceEqDiff, Nat.reduceBEq, Nat.reduceLeDiff, Nat.reduceLT, Int.reduceAdd, Int.reduceMul, Int.reduceSub, Int.reduceLT, Int.reduceLE, Int.reduceToNat, Int.reduceEq, Int.reduceNe, Int.reduceBEq, Int.reduceBNe, ne_eq, eq_self]
  refine newB_intro fun x hx f1 f2 => ?_
  have hS := hS.new f1 (.cells #[.int .i64 0, .int .i64 0, .int .i64 0] 25 (0, 0))
  have hS := hS.set (.cells #[.int .i64 P, .int .i64 n, .int .i64 0] 25 (0, 0))
  rw [Ev.upd_upd] at hS
  have hx1 := hS.look
  have r1 := fun o n => rdn_of hx1 o n
  obtain ⟨N, hN⟩ : ∃ N : Nat, words P n 0 = (N : Int) := ⟨(words P n 0).toNat, by have := words_le hmay; omega⟩
  have hNb := words_le hmay
  simp only [g0, g1, g2, wrap_w64, wp, t6, hP, wP, Ev.upd_upd, hx1, r1, ↓D0, ↓D1, ↓D2, ↓D3, ↓D4, ↓D5, ↓D6, ↓D7, ↓D8, ↓D9, ↓D10, U0, U1, U2, U3, U4, U5, U6, U7, U8, U9, U10, ↓reduceIte, Nat.reduceAdd, Nat.reduceMul, Nat.reduceSub, Nat.reduceEqDiff, Nat.reduceBEq, Nat.reduceLeDiff, Nat.reduceLT, Int.reduceAdd, Int.reduceMul, Int.reduceSub, Int.reduceLT, Int.reduceLE, Int.reduceToNat, Int.reduceEq, Int.reduceNe, Int.reduceBEq, Int.reduceBNe, ne_eq, eq_self]
  refine callT_of (c_blank (sh := ⟨P, n, 0⟩) hN (by omega) hS) ?_
  rintro v H' ⟨y, rfl, hS⟩
  simp only [↓D0, ↓D1, ↓D2, ↓D3, ↓D4, ↓D5, ↓D6, ↓D7, ↓D8, ↓D9, ↓D10, U0, U1, U2, U3, U4, U5, U6, U7, U8, U9, U10, ↓reduceIte, Nat.reduceAdd, Nat.reduceMul, Nat.reduceSub, Nat.reduceEqDiff, Nat.reduceBEq, Nat.reduceLeDiff, Nat.reduceLT, Int.reduceAdd, Int.reduceMul, Int.reduceSub, Int.reduceLT, Int.reduceLE, Int.reduceToNat, Int.reduceEq, Int.reduceNe, Int.reduceBEq, Int.reduceBNe, ne_eq, eq_self]
  refine callT_of (c_fill (n := N) (by omega) (RowU.own y N _ _ _) hS) ?_
  rintro v H' ⟨b, s, rfl, hS⟩
  obtain ⟨w0, hw0⟩ : ∃ w0, w0 = rowW N (fun _ => 0) := ⟨_, rfl⟩
  rw [← hw0] at hS
  have hof0 : w0.of ⟨P, n, 0⟩ := by rw [hw0]; exact rowW_of hN.symm fun i _ => U_0
  have hz0 : ∀ j, w0.ws j = 0 := fun j => by rw [hw0]; show (if j < N then (0 : Int) else 0) = 0; split <;> rfl
  obtain ⟨Kf, hKf⟩ : ∃ Kf : Nat → Int, Kf = fun c => cc c % 4 := ⟨_, rfl⟩
  obtain ⟨ff, hff⟩ : ∃ ff : Nat → Int, ff = fun c => cc c / 4 % P := ⟨_, rfl⟩
  obtain ⟨L, hL⟩ : ∃ L, L = sg y (.cells (urow N fun _ => 0) 42 (0, 0)) :: sg x (.cells #[.int .i64 P, .int .i64 n, .int .i64 0] 25 (0, 0)) :: h :: l := ⟨_, rfl⟩
  have L1 : L[1]? = some (sg x (.cells #[.int .i64 P, .int .i64 n, .int .i64 0] 25 (0, 0))) := by rw [hL]; rfl
  have L2 : L[2]? = some h := by rw [hL]; rfl
  have Lm : h ∈ L := by rw [hL]; simp
  have fin : ∀ H2, Sep L H2 → Sep (h :: l) H2 := fun H2 g => by rw [hL] at g; exact g.tail.tail
  have hS0 : Sep (wB b s w0 :: wR s w0 :: L) H' := by rw [hL]; exact hS
  clear hS hx1 r1
  simp only [↓D0, ↓D1, ↓D2, ↓D3, ↓D4, ↓D5, ↓D6, ↓D7, ↓D8, ↓D9, ↓D10, U0, U1, U2, U3, U4, U5, U6, U7, U8, U9, U10, ↓reduceIte, Nat.reduceAdd, Nat.reduceMul, Nat.reduceSub, Nat.reduceEqDiff, Nat.reduceBEq, Nat.reduceLeDiff, Nat.reduceLT, Int.reduceAdd, Int.reduceMul, Int.reduceSub, Int.reduceLT, Int.reduceLE, Int.reduceToNat, Int.reduceEq, Int.reduceNe, Int.reduceBEq, Int.reduceBNe, ne_eq, eq_self]
  refine loop_intro (xmA ⟨P, n, 0⟩ Kf ff w0 s n m cap1 cap2 a1 a2 x b L) (fun F' _ => (n - iv (gt F' 11)).toNat)
    ⟨0, none, 0, _, fun _ => 0, fun _ => 0, Nat.zero_le _, by simp [gt], by simp [gt], ⟨by simp [gt], by simp [gt], by simp [gt], by simp [gt], by simp [gt]⟩, Gr.none _ _, by show Sep (wB b s w0 :: wR s w0 :: _ :: L) _; exact hS0.nothing.r2⟩ ?_
  clear hS0
  rintro F' H' ⟨i, a, cap, g, ks, kn, hi, e11, e10, ⟨e1, e2, e7, e8, e9⟩, hG, hS⟩
  unfold xmF at hS
  have hQ := hS.tail.tail.tail.drop.drop
  have hx1 := hQ.lk 1 L1
  have r0 := fun o => rd_of hx1 o
  have r1 := fun o n => rdn_of hx1 o n
  by_cases hlt : i < n
  · have d1 : decide ((i : Int) < (n : Int)) = true := decide_eq_true (by omega)
    have p0 : (0 : Int) ≤ (i : Int) := by omega
    have p1 : (i : Int) < (n : Int) := by omega
    have wi : w64 ((i : Int) + 1) = ((i + 1 : Nat) : Int) := by rw [w64_eq (by omega) (by omega)]; omega
    obtain ⟨b1, o1, rfl, hrd⟩ := hr1.at' hlt
    obtain ⟨c1, T1, fz1, hh1, hc1⟩ := xm_cells hrd
    have hb1 := hQ.sb h Lm b1 _ hh1
    have rb := fun o => rd_of hb1 o
    obtain ⟨nxb, nbx⟩ := Sep_far hQ (i := 1) (j := 2) (by decide) L1 L2 hh1
    have hcb := hcc i hlt
    have w4a : w64 (cc i) = cc i := w64_eq (by omega) (by omega)
    have w4b : w64 (cc i / 4) = cc i / 4 := w64_eq (by omega) (by omega)
    have t4a : (cc i).tmod 4 = cc i % 4 := Int.tmod_eq_emod_of_nonneg hcb.1
    have t4b : (cc i / 4).tmod P = cc i / 4 % P := Int.tmod_eq_emod_of_nonneg (by omega)
    have hPne : (P = 0) = False := eq_false (by omega)
    simp only [e11, e10, e1, e2, e7, e8, e9, d1, ↓D0, ↓D1, ↓D2, ↓D3, ↓D4, ↓D5, ↓D6, ↓D7, ↓D8, ↓D9, ↓D10, U0, U1, U2, U3, U4, U5, U6, U7, U8, U9, U10, ↓reduceIte, Nat.reduceAdd, Nat.reduceMul, Nat.reduceSub, Nat.reduceEqDiff, Nat.reduceBEq, Nat.reduceLeDiff, Nat.reduceLT, Int.reduceAdd, Int.reduceMul, Int.reduceSub, Int.reduceLT, Int.reduceLE, Int.reduceToNat, Int.reduceEq, Int.reduceNe, Int.reduceBEq, Int.reduceBNe, ne_eq, eq_self]
    refine draw_intro [(x, #[.int .i64 P, .int .i64 n, .int .i64 0], []), (b1, c1, [])] (by simp only [hx1, hb1, ↓D0, ↓D1, ↓D2, ↓D3, ↓D4, ↓D5, ↓D6, ↓D7, ↓D8, ↓D9, ↓D10, U0, U1, U2, U3, U4, U5, U6, U7, U8, U9, U10, ↓reduceIte, Nat.reduceAdd, Nat.reduceMul, Nat.reduceSub, Nat.reduceEqDiff, Nat.reduceBEq, Nat.reduceLeDiff, Nat.reduceLT, Int.reduceAdd, Int.reduceMul, Int.reduceSub, Int.reduceLT, Int.reduceLE, Int.reduceToNat, Int.reduceEq, Int.reduceNe, Int.reduceBEq, Int.reduceBNe, ne_eq, eq_self]) ?_
    simp only [e11, e10, e1, e2, e7, e8, e9, hx1, r0, r1, hb1, rb, hc1, nxb, nbx, p0, p1, Int.toNat_natCast, wrap_w64, w4a, w4b, t4a, t4b, hPne, xm_shr, ↓D0, ↓D1, ↓D2, ↓D3, ↓D4, ↓D5, ↓D6, ↓D7, ↓D8, ↓D9, ↓D10, U0, U1, U2, U3, U4, U5, U6, U7, U8, U9, U10, ↓reduceIte, Nat.reduceAdd, Nat.reduceMul, Nat.reduceSub, Nat.reduceEqDiff, Nat.reduceBEq, Nat.reduceLeDiff, Nat.reduceLT, Int.reduceAdd, Int.reduceMul, Int.reduceSub, Int.reduceLT, Int.reduceLE, Int.reduceToNat, Int.reduceEq, Int.reduceNe, Int.reduceBEq, Int.reduceBNe, ne_eq, eq_self]
    refine callT_of (c_sknew (sh := ⟨P, n, 0⟩) (c := i) (kk := cc i % 4) (f := cc i / 4 % P) hS) ?_
    rintro v H' ⟨k, k2, rfl, hS⟩
    have hQ := hS.tail.tail.tail.tail.tail.drop.drop
    have hx1 := hQ.lk 1 L1
    have hb1 := hQ.sb h Lm b1 _ hh1
    simp only [e11, e10, e1, e2, e7, e8, e9, hx1, hb1, nxb, nbx, ↓D0, ↓D1, ↓D2, ↓D3, ↓D4, ↓D5, ↓D6, ↓D7, ↓D8, ↓D9, ↓D10, U0, U1, U2, U3, U4, U5, U6, U7, U8, U9, U10, ↓reduceIte, Nat.reduceAdd, Nat.reduceMul, Nat.reduceSub, Nat.reduceEqDiff, Nat.reduceBEq, Nat.reduceLeDiff, Nat.reduceLT, Int.reduceAdd, Int.reduceMul, Int.reduceSub, Int.reduceLT, Int.reduceLE, Int.reduceToNat, Int.reduceEq, Int.reduceNe, Int.reduceBEq, Int.reduceBNe, ne_eq, eq_self]
    refine newB_intro fun y2 hy2 f5 f6 => ?_
    have nxy : (x = y2) = False := f5 x (by rw [hx1]; rfl)
    have nyx : (y2 = x) = False := f6 x (by rw [hx1]; rfl)
    have nby : (b1 = y2) = False := f5 b1 (by rw [hb1]; rfl)
    have nyb : (y2 = b1) = False := f6 b1 (by rw [hb1]; rfl)
    have hS2 := hS.new f5 (.cells #[.pointer (some ⟨k, 0, none⟩)] 31 (0, 0))
    simp only [e11, e10, e1, e2, e7, e8, e9, hx1, hb1, nxb, nbx, nxy, nyx, nby, nyb, ↓D0, ↓D1, ↓D2, ↓D3, ↓D4, ↓D5, ↓D6, ↓D7, ↓D8, ↓D9, ↓D10, U0, U1, U2, U3, U4, U5, U6, U7, U8, U9, U10, ↓reduceIte, Nat.reduceAdd, Nat.reduceMul, Nat.reduceSub, Nat.reduceEqDiff, Nat.reduceBEq, Nat.reduceLeDiff, Nat.reduceLT, Int.reduceAdd, Int.reduceMul, Int.reduceSub, Int.reduceLT, Int.reduceLE, Int.reduceToNat, Int.reduceEq, Int.reduceNe, Int.reduceBEq, Int.reduceBNe, ne_eq, eq_self]
    have ha : rds (upd H' y2 (.cells #[.pointer (some ⟨k, 0, none⟩)] 31 (0, 0))) (some ⟨y2, 0, none⟩) 1 = some #[.pointer (some ⟨k, 0, none⟩)] := by
      simp only [rds, ↓D0, ↓D1, ↓D2, ↓D3, ↓D4, ↓D5, ↓D6, ↓D7, ↓D8, ↓D9, ↓D10, U0, U1, U2, U3, U4, U5, U6, U7, U8, U9, U10, ↓reduceIte, Nat.reduceAdd, Nat.reduceMul, Nat.reduceSub, Nat.reduceEqDiff, Nat.reduceBEq, Nat.reduceLeDiff, Nat.reduceLT, Int.reduceAdd, Int.reduceMul, Int.reduceSub, Int.reduceLT, Int.reduceLE, Int.reduceToNat, Int.reduceEq, Int.reduceNe, Int.reduceBEq, Int.reduceBNe, ne_eq, eq_self]
    simp only [ha, Nat.mul_one, ↓D0, ↓D1, ↓D2, ↓D3, ↓D4, ↓D5, ↓D6, ↓D7, ↓D8, ↓D9, ↓D10, U0, U1, U2, U3, U4, U5, U6, U7, U8, U9, U10, ↓reduceIte, Nat.reduceAdd, Nat.reduceMul, Nat.reduceSub, Nat.reduceEqDiff, Nat.reduceBEq, Nat.reduceLeDiff, Nat.reduceLT, Int.reduceAdd, Int.reduceMul, Int.reduceSub, Int.reduceLT, Int.reduceLE, Int.reduceToNat, Int.reduceEq, Int.reduceNe, Int.reduceBEq, Int.reduceBNe, ne_eq, eq_self]
    refine grow (z0 := .pointer none) (bytes := 8) (v := .pointer (some ⟨k, 0, none⟩)) hG rfl (by omega) (by decide) (hS2.p5) (fun g2 H2 hG2 hS3 => ?_) (fun old cap2' b2 hG2 hS3 => ?_)
    all_goals
      have hQ := hS3.tail.tail.tail.tail.tail.tail.drop.drop
      have hx1 := hQ.lk 1 L1
      have hb1 := hQ.sb h Lm b1 _ hh1
      simp only [e11, e10, e1, e2, e7, e8, e9, hx1, hb1, nxb, nbx, wrap_w64, wi, ↓D0, ↓D1, ↓D2, ↓D3, ↓D4, ↓D5, ↓D6, ↓D7, ↓D8, ↓D9, ↓D10, U0, U1, U2, U3, U4, U5, U6, U7, U8, U9, U10, ↓reduceIte, Nat.reduceAdd, Nat.reduceMul, Nat.reduceSub, Nat.reduceEqDiff, Nat.reduceBEq, Nat.reduceLeDiff, Nat.reduceLT, Int.reduceAdd, Int.reduceMul, Int.reduceSub, Int.reduceLT, Int.reduceLE, Int.reduceToNat, Int.reduceEq, Int.reduceNe, Int.reduceBEq, Int.reduceBNe, ne_eq, eq_self]
      have e : (fun j => Value.pointer (some ⟨if j = i then k else ks j, 0, none⟩)) = fun j => if j = i then Value.pointer (some ⟨k, 0, none⟩) else Value.pointer (some ⟨ks j, 0, none⟩) := by funext j; split <;> rfl
      rw [← e] at hG2
      refine ⟨⟨i + 1, _, _, _, fun j => if j = i then k else ks j, fun j => if j = i then k2 else kn j, by omega, by simp [gt], by simp [gt], ⟨by simp [gt, e1], by simp [gt, e2], by simp [gt, e7], by simp [gt, e8], by simp [gt, e9]⟩, hG2, ?_⟩, by simp [gt, iv, e11]; omega⟩
      exact Sep.moreL [wB b s w0, wR s w0, _] hS3.p1.tail.r4 (by simp [hKf, hff]) (by simp [hKf, hff]) (fun d hd => by simp [show d ≠ i by omega]) (fun d hd => by simp [show d ≠ i by omega])
  have d1 : decide ((i : Int) < (n : Int)) = false := decide_eq_false (by omega)
  have hin : i = n := by omega
  subst hin
  have hP64 : w64 (P * 64) = P * 64 := w64_eq (by omega) (by omega)
  have hl0 : ∀ c, c < i → (Sk.new ⟨P, i, 0⟩ c (Kf c) (ff c)).left ≤ 80 * P + 80 := fun c hc => by
    have := Sk.new_left ⟨P, i, 0⟩ c (Kf c) (ff c) hmay
    have this : (Sk.new ⟨P, i, 0⟩ c (Kf c) (ff c)).left ≤ 0 + 70 * P + 36 := this
    omega
  have hI0 : SkInv i ⟨P, i, 0⟩ Kf ff (fun c => Sk.new ⟨P, i, 0⟩ c (Kf c) (ff c)) w0 := SkInv.init hmay hof0 hz0 rfl (fun c hc => by
    have := hcc c hc
    rw [hKf]
    exact ⟨Int.emod_nonneg _ (by decide), by have := Int.emod_lt_of_pos (cc c) (by decide : (0 : Int) < 4); show cc c % 4 ≤ 3; omega⟩) (fun c hc => by
    rw [hff]
    exact ⟨Int.emod_nonneg _ (by omega), Int.emod_lt_of_pos _ (by show 0 < P; omega)⟩)
  simp only [e11, e10, e1, e2, e7, e8, e9, d1, ↓D0, ↓D1, ↓D2, ↓D3, ↓D4, ↓D5, ↓D6, ↓D7, ↓D8, ↓D9, ↓D10, U0, U1, U2, U3, U4, U5, U6, U7, U8, U9, U10, ↓reduceIte, Nat.reduceAdd, Nat.reduceMul, Nat.reduceSub, Nat.reduceEqDiff, Nat.reduceBEq, Nat.reduceLeDiff, Nat.reduceLT, Int.reduceAdd, Int.reduceMul, Int.reduceSub, Int.reduceLT, Int.reduceLE, Int.reduceToNat, Int.reduceEq, Int.reduceNe, Int.reduceBEq, Int.reduceBNe, ne_eq, eq_self]
  refine loop_intro (xmB ⟨P, i, 0⟩ Kf ff a cap g ks s i m cap1 cap2 a1 a2 x b L) (fun F' _ => (m - iv (gt F' 12)).toNat)
    ⟨0, kn, _, w0, Nat.zero_le _, by simp [gt], by simp [gt, e10], ⟨by simp [gt, e1], by simp [gt, e2], by simp [gt, e7], by simp [gt, e8], by simp [gt, e9]⟩, hI0, hl0, hS⟩ ?_
  clear hS hI0 hl0 hx1 r0 r1 hQ e10 e1 e2 e7 e8 e9 e11
  rintro F' H' ⟨j, kn, ts, w, hj, e12, e10, ⟨e1, e2, e7, e8, e9⟩, hI, hlf, hS⟩
  unfold xmF at hS
  have hQ := hS.tail.tail.tail.drop.drop
  have hx1 := hQ.lk 1 L1
  have r0 := fun o => rd_of hx1 o
  have r1 := fun o n => rdn_of hx1 o n
  by_cases hlt : j < m
  · have d1 : decide ((j : Int) < (m : Int)) = true := decide_eq_true (by omega)
    have p0 : (0 : Int) ≤ (j : Int) := by omega
    have p1 : (j : Int) < (m : Int) := by omega
    have wj : w64 ((j : Int) + 1) = ((j + 1 : Nat) : Int) := by rw [w64_eq (by omega) (by omega)]; omega
    obtain ⟨b1, o1, rfl, hrd⟩ := (hr2.sub (hQ.sb h Lm)).at' hlt
    have htb := htt j hlt
    have wt : w64 (tt j) = tt j := w64_eq (by omega) (by omega)
    have tn : (tt j).tmod (i : Int) = tt j % (i : Int) := Int.tmod_eq_emod_of_nonneg htb.1
    have hne : ((i : Int) = 0) = False := eq_false (by omega)
    obtain ⟨c, hcq⟩ : ∃ c : Nat, (c : Int) = tt j % (i : Int) := ⟨(tt j % (i : Int)).toNat, by have := Int.emod_nonneg (tt j) (show (i : Int) ≠ 0 by omega); omega⟩
    have hc : c < i := by have := Int.emod_lt_of_pos (tt j) (show (0 : Int) < i by omega); omega
    have q0 : (0 : Int) ≤ (c : Int) := by omega
    have q1 : (c : Int) < (i : Int) := by omega
    obtain ⟨zb, rfl, hrz⟩ := hG.rd hS (by simp) (i := c) hc
    have hi := hI.ins c hc
    have hlc := hlf c hc
    simp only [e12, e10, e1, e2, e7, e8, e9, d1, p0, p1, hrd, Int.toNat_natCast, wrap_w64, wt, tn, hne, ← hcq, q0, q1, hrz, Nat.zero_add, ↓D0, ↓D1, ↓D2, ↓D3, ↓D4, ↓D5, ↓D6, ↓D7, ↓D8, ↓D9, ↓D10, U0, U1, U2, U3, U4, U5, U6, U7, U8, U9, U10, ↓reduceIte, Nat.reduceAdd, Nat.reduceMul, Nat.reduceSub, Nat.reduceEqDiff, Nat.reduceBEq, Nat.reduceLeDiff, Nat.reduceLT, Int.reduceAdd, Int.reduceMul, Int.reduceSub, Int.reduceLT, Int.reduceLE, Int.reduceToNat, Int.reduceEq, Int.reduceNe, Int.reduceBEq, Int.reduceBNe, ne_eq, eq_self]
    refine callT_of (c_skstep hi.wf (fun _ => by rw [hi.es]; exact hI.of) (hS.pickL [wB b s w, wR s w, g] hc)) ?_
    rintro v H' ⟨rfl, k2, hS⟩
    have hle : ((ts c).step w).1.left ≤ 80 * P + 80 := by
      have hlc : (ts c).left ≤ 80 * P + 80 := hlc
      have := Sk.left_step (w := w) (m := 80 * P + 80) hi.wf (by omega); omega
    simp only [e12, e10, e1, e2, e7, e8, e9, wrap_w64, wj, ↓D0, ↓D1, ↓D2, ↓D3, ↓D4, ↓D5, ↓D6, ↓D7, ↓D8, ↓D9, ↓D10, U0, U1, U2, U3, U4, U5, U6, U7, U8, U9, U10, ↓reduceIte, Nat.reduceAdd, Nat.reduceMul, Nat.reduceSub, Nat.reduceEqDiff, Nat.reduceBEq, Nat.reduceLeDiff, Nat.reduceLT, Int.reduceAdd, Int.reduceMul, Int.reduceSub, Int.reduceLT, Int.reduceLE, Int.reduceToNat, Int.reduceEq, Int.reduceNe, Int.reduceBEq, Int.reduceBNe, ne_eq, eq_self]
    refine ⟨⟨j + 1, upS kn c k2, _, _, hlt, by simp [gt], by simp [gt, e10], ⟨by simp [gt, e1], by simp [gt, e2], by simp [gt, e7], by simp [gt, e8], by simp [gt, e9]⟩, hI.step hc, fun d hd => ?_, ?_⟩, by simp [gt, iv, e12]; omega⟩
    · by_cases ed : d = c
      · rw [ed, upS_same]; exact hle
      · rw [upS_ne _ _ ed]; exact hlf d hd
    · exact Sep.backL [wB b s _, wR s _, g] hS hc (by simp only [upS_same]) (by simp only [upS_same]) (fun d hd => by simp only [upS_ne _ _ hd]) (fun d hd => by simp only [upS_ne _ _ hd])
  have d1 : decide ((j : Int) < (m : Int)) = false := decide_eq_false (by omega)
  obtain ⟨N, hNP⟩ : ∃ N : Nat, P * 64 = (N : Int) := ⟨(P * 64).toNat, by omega⟩
  have n0 : (0 : Int) ≤ (N : Int) := by omega
  have n8 : 1 * (N : Int) ≤ 281474976710656 := by omega
  have n9 : (N : Int) ≤ 9223372036854775807 := by omega
  have nle : (N : Int) ≤ (N : Int) := Int.le_refl _
  have wN : w64 (N : Int) = (N : Int) := w64_eq (by omega) (by omega)
  simp only [e12, e10, e1, e2, e7, e8, e9, d1, hx1, r0, wrap_w64, hNP, wN, n0, n8, n9, nle, Int.toNat_natCast, ↓D0, ↓D1, ↓D2, ↓D3, ↓D4, ↓D5, ↓D6, ↓D7, ↓D8, ↓D9, ↓D10, U0, U1, U2, U3, U4, U5, U6, U7, U8, U9, U10, ↓reduceIte, Nat.reduceAdd, Nat.reduceMul, Nat.reduceSub, Nat.reduceEqDiff, Nat.reduceBEq, Nat.reduceLeDiff, Nat.reduceLT, Int.reduceAdd, Int.reduceMul, Int.reduceSub, Int.reduceLT, Int.reduceLE, Int.reduceToNat, Int.reduceEq, Int.reduceNe, Int.reduceBEq, Int.reduceBNe, ne_eq, eq_self]
  refine newB_intro fun sb hsb f7 f8 => ?_
  have eb := brow_zero N
  have hS := (hS.new f7 (.cells (brow N fun _ => false) 4 (0, 0))).r3
  simp only [eb, ↓D0, ↓D1, ↓D2, ↓D3, ↓D4, ↓D5, ↓D6, ↓D7, ↓D8, ↓D9, ↓D10, U0, U1, U2, U3, U4, U5, U6, U7, U8, U9, U10, ↓reduceIte, Nat.reduceAdd, Nat.reduceMul, Nat.reduceSub, Nat.reduceEqDiff, Nat.reduceBEq, Nat.reduceLeDiff, Nat.reduceLT, Int.reduceAdd, Int.reduceMul, Int.reduceSub, Int.reduceLT, Int.reduceLE, Int.reduceToNat, Int.reduceEq, Int.reduceNe, Int.reduceBEq, Int.reduceBNe, ne_eq, eq_self]
  refine loop_intro (xmC ⟨P, i, 0⟩ Kf ff N sb a cap g ks s i m cap1 cap2 a1 a2 x b L) (fun F' _ => (i - iv (gt F' 15)).toNat)
    ⟨0, kn, ts, w, fun _ => false, Nat.zero_le _, by simp [gt], by simp [gt, cnt], by simp [gt], by simp [gt, e10], ⟨by simp [gt, e1], by simp [gt, e2], by simp [gt, e7], by simp [gt, e8], by simp [gt, e9]⟩, hI, hlf, fun d hd => (by omega), fun j hj => (by cases hj), hS⟩ ?_
  clear hS hI hlf hx1 r0 r1 hQ e10 e1 e2 e7 e8 e9 e12 hj
  rintro F' H' ⟨c, kn, ts, w, sv, hc, e15, e14, e13, e10, ⟨e1, e2, e7, e8, e9⟩, hI, hlf, hdn, hsv, hS⟩
  unfold xmF at hS
  have hQ := hS.tail.tail.tail.tail.drop.drop
  have hx1 := hQ.lk 1 L1
  have r0 := fun o => rd_of hx1 o
  have r1 := fun o n => rdn_of hx1 o n
  by_cases hlc : c < i
  · have d1 : decide ((c : Int) < (i : Int)) = true := decide_eq_true (by omega)
    have q0 : (0 : Int) ≤ (c : Int) := by omega
    have q1 : (c : Int) < (i : Int) := by omega
    have wc : w64 ((c : Int) + 1) = ((c + 1 : Nat) : Int) := by rw [w64_eq (by omega) (by omega)]; omega
    have wm1 : w64 (80 * P) = 80 * P := w64_eq (by omega) (by omega)
    have wm2 : w64 (80 * P + 80) = 80 * P + 80 := w64_eq (by omega) (by omega)
    simp only [e15, e14, e13, e10, e1, e2, e7, e8, e9, d1, ↓D0, ↓D1, ↓D2, ↓D3, ↓D4, ↓D5, ↓D6, ↓D7, ↓D8, ↓D9, ↓D10, U0, U1, U2, U3, U4, U5, U6, U7, U8, U9, U10, ↓reduceIte, Nat.reduceAdd, Nat.reduceMul, Nat.reduceSub, Nat.reduceEqDiff, Nat.reduceBEq, Nat.reduceLeDiff, Nat.reduceLT, Int.reduceAdd, Int.reduceMul, Int.reduceSub, Int.reduceLT, Int.reduceLE, Int.reduceToNat, Int.reduceEq, Int.reduceNe, Int.reduceBEq, Int.reduceBNe, ne_eq, eq_self]
    refine loop_intro (xmD ⟨P, i, 0⟩ Kf ff c ts sv N sb a cap g ks s i m cap1 cap2 a1 a2 x b L) (fun F' _ => (80 * P + 80 - iv (gt F' 16)).toNat)
      ⟨0, kn, ts, w, by omega, by show (0 : Int) ≤ 80 * P + 80; omega, by simp [gt], by simp [gt, e15], by simp [gt, e14], by simp [gt, e13], by simp [gt, e10], ⟨by simp [gt, e1], by simp [gt, e2], by simp [gt, e7], by simp [gt, e8], by simp [gt, e9]⟩, hI, hlf, fun _ _ => rfl, (by have := hlf c hlc; show (ts c).left ≤ max 0 (80 * P + 80 - 0); have this : (ts c).left ≤ 80 * P + 80 := this; omega), hS⟩ ?_
    have e15o := e15
    clear hS hI hlf hx1 r0 r1 hQ e10 e1 e2 e7 e8 e9 e15 e14 e13
    rintro F' H' ⟨j, kn, ts', w, hj0, hj, e16, e15, e14, e13, e10, ⟨e1, e2, e7, e8, e9⟩, hI, hlf, hsame, hle, hS⟩
    have hj : j ≤ 80 * P + 80 := hj
    have hle : (ts' c).left ≤ max 0 (80 * P + 80 - j) := hle
    unfold xmF at hS
    have hQ := hS.tail.tail.tail.tail.drop.drop
    have hx1 := hQ.lk 1 L1
    have r0 := fun o => rd_of hx1 o
    have r1 := fun o n => rdn_of hx1 o n
    have hi := hI.ins c hlc
    obtain ⟨zb, rfl, hrz⟩ := hG.rd hS (by simp) (i := c) hlc
    by_cases hlt2 : j < 80 * P + 80
    · have d2 : decide (j < 80 * P + 80) = true := decide_eq_true hlt2
      have wj : w64 (j + 1) = j + 1 := w64_eq (by omega) (by omega)
      simp only [e16, e15, e14, e13, e10, e1, e2, e7, e8, e9, d2, hx1, r0, wrap_w64, wm1, wm2, q0, q1, hrz, Nat.zero_add, Int.toNat_natCast, ↓D0, ↓D1, ↓D2, ↓D3, ↓D4, ↓D5, ↓D6, ↓D7, ↓D8, ↓D9, ↓D10, U0, U1, U2, U3, U4, U5, U6, U7, U8, U9, U10, ↓reduceIte, Nat.reduceAdd, Nat.reduceMul, Nat.reduceSub, Nat.reduceEqDiff, Nat.reduceBEq, Nat.reduceLeDiff, Nat.reduceLT, Int.reduceAdd, Int.reduceMul, Int.reduceSub, Int.reduceLT, Int.reduceLE, Int.reduceToNat, Int.reduceEq, Int.reduceNe, Int.reduceBEq, Int.reduceBNe, ne_eq, eq_self]
      refine callT_of (c_skstep hi.wf (fun _ => by rw [hi.es]; exact hI.of) (hS.pickL [wB b s w, wR s w, g, sg sb _] hlc)) ?_
      rintro v H' ⟨rfl, k2, hS⟩
      have hl2 := Sk.left_step (w := w) hi.wf hle
      simp only [e16, e15, e14, e13, e10, e1, e2, e7, e8, e9, wrap_w64, wj, ↓D0, ↓D1, ↓D2, ↓D3, ↓D4, ↓D5, ↓D6, ↓D7, ↓D8, ↓D9, ↓D10, U0, U1, U2, U3, U4, U5, U6, U7, U8, U9, U10, ↓reduceIte, Nat.reduceAdd, Nat.reduceMul, Nat.reduceSub, Nat.reduceEqDiff, Nat.reduceBEq, Nat.reduceLeDiff, Nat.reduceLT, Int.reduceAdd, Int.reduceMul, Int.reduceSub, Int.reduceLT, Int.reduceLE, Int.reduceToNat, Int.reduceEq, Int.reduceNe, Int.reduceBEq, Int.reduceBNe, ne_eq, eq_self]
      refine ⟨⟨j + 1, upS kn c k2, _, _, by omega, by show j + 1 ≤ 80 * P + 80; omega, by simp [gt], by simp [gt, e15], by simp [gt, e14], by simp [gt, e13], by simp [gt, e10], ⟨by simp [gt, e1], by simp [gt, e2], by simp [gt, e7], by simp [gt, e8], by simp [gt, e9]⟩, hI.step hlc, fun d hd => ?_, fun d hd => by rw [upS_ne _ _ hd]; exact hsame d hd, by rw [upS_same]; show _ ≤ max 0 (80 * P + 80 - (j + 1)); omega, ?_⟩, by simp [gt, iv, e16]; omega⟩
      · by_cases ed : d = c
        · rw [ed, upS_same]
          have := hlf c hlc
          have this : (ts' c).left ≤ 80 * P + 80 := this
          show _ ≤ 80 * P + 80; omega
        · rw [upS_ne _ _ ed]; exact hlf d hd
      · exact Sep.backL [wB b s _, wR s _, g, sg sb _] hS hlc (by simp only [upS_same]) (by simp only [upS_same]) (fun d hd => by simp only [upS_ne _ _ hd]) (fun d hd => by simp only [upS_ne _ _ hd])
    have d2 : decide (j < 80 * P + 80) = false := decide_eq_false hlt2
    have hd : (ts' c).dn = true := Sk.left_dn hi.wf (by omega)
    have hdn' : ∀ d, d < c + 1 → (ts' d).dn = true := fun d hd' => by
      by_cases e : d = c
      · rw [e]; exact hd
      · rw [hsame d e]; exact hdn d (by omega)
    have hcnt : cnt (fun d => (ts d).fd) c = cnt (fun d => (ts' d).fd) c := cnt_congr fun d hd' => by rw [hsame d (by omega)]
    have hsv' : ∀ j : Nat, sv j = true → ∃ d, d < c ∧ (ts' d).fd = true ∧ Blo ts' d j := fun j hj => by
      obtain ⟨d, g1, g2, g3⟩ := hsv j hj
      unfold Blo at g3 ⊢
      rw [← hsame d (by omega)] at g2 g3
      exact ⟨d, g1, g2, g3⟩
    simp only [e16, e15, e14, e13, e10, e1, e2, e7, e8, e9, d2, hx1, r0, wrap_w64, wm1, wm2, q0, q1, hrz, Nat.zero_add, Int.toNat_natCast, ↓D0, ↓D1, ↓D2, ↓D3, ↓D4, ↓D5, ↓D6, ↓D7, ↓D8, ↓D9, ↓D10, U0, U1, U2, U3, U4, U5, U6, U7, U8, U9, U10, ↓reduceIte, Nat.reduceAdd, Nat.reduceMul, Nat.reduceSub, Nat.reduceEqDiff, Nat.reduceBEq, Nat.reduceLeDiff, Nat.reduceLT, Int.reduceAdd, Int.reduceMul, Int.reduceSub, Int.reduceLT, Int.reduceLE, Int.reduceToNat, Int.reduceEq, Int.reduceNe, Int.reduceBEq, Int.reduceBNe, ne_eq, eq_self]
    refine callT_of (c_skfound (hS.pickL [wB b s w, wR s w, g, sg sb _] hlc)) ?_
    rintro v H' ⟨rfl, hS⟩
    have hS := Sep.backL (g' := fun c => skB (ks c) (kn c) (ts' c)) (k' := fun c => nwB (kn c) (ts' c).nw) [wB b s w, wR s w, g, sg sb _] hS hlc rfl rfl (fun _ _ => rfl) (fun _ _ => rfl)
    obtain ⟨zb2, hz2, hrz⟩ := hG.rd hS (by simp) (i := c) hlc
    cases hz2
    simp only [e16, e15, e14, e13, e10, e1, e2, e7, e8, e9, q0, q1, hrz, Nat.zero_add, Int.toNat_natCast, ↓D0, ↓D1, ↓D2, ↓D3, ↓D4, ↓D5, ↓D6, ↓D7, ↓D8, ↓D9, ↓D10, U0, U1, U2, U3, U4, U5, U6, U7, U8, U9, U10, ↓reduceIte, Nat.reduceAdd, Nat.reduceMul, Nat.reduceSub, Nat.reduceEqDiff, Nat.reduceBEq, Nat.reduceLeDiff, Nat.reduceLT, Int.reduceAdd, Int.reduceMul, Int.reduceSub, Int.reduceLT, Int.reduceLE, Int.reduceToNat, Int.reduceEq, Int.reduceNe, Int.reduceBEq, Int.reduceBNe, ne_eq, eq_self]
    refine callT_of (c_skdone (hS.pickL [wB b s w, wR s w, g, sg sb _] hlc)) ?_
    rintro v H' ⟨rfl, hS⟩
    have hS : Sep (wB b s w :: wR s w :: g :: sg sb (.cells (brow N sv) 4 (0, 0)) :: (fam i (fun c => skB (ks c) (kn c) (ts' c)) ++ (fam i (fun c => nwB (kn c) (ts' c).nw) ++ L))) H' := Sep.backL (g' := fun c => skB (ks c) (kn c) (ts' c)) (k' := fun c => nwB (kn c) (ts' c).nw) [wB b s w, wR s w, g, sg sb _] hS hlc rfl rfl (fun _ _ => rfl) (fun _ _ => rfl)
    cases hok : (ts' c).fd
    · have hc2 : cnt (fun d => (ts' d).fd) (c + 1) = cnt (fun d => (ts d).fd) c := by show _ + (if (ts' c).fd = true then 1 else 0) = _; rw [hok, hcnt]; rfl
      simp only [e16, e15, e14, e13, e10, e1, e2, e7, e8, e9, hd, hok, wrap_w64, wc, ↓D0, ↓D1, ↓D2, ↓D3, ↓D4, ↓D5, ↓D6, ↓D7, ↓D8, ↓D9, ↓D10, U0, U1, U2, U3, U4, U5, U6, U7, U8, U9, U10, ↓reduceIte, Nat.reduceAdd, Nat.reduceMul, Nat.reduceSub, Nat.reduceEqDiff, Nat.reduceBEq, Nat.reduceLeDiff, Nat.reduceLT, Int.reduceAdd, Int.reduceMul, Int.reduceSub, Int.reduceLT, Int.reduceLE, Int.reduceToNat, Int.reduceEq, Int.reduceNe, Int.reduceBEq, Int.reduceBNe, ne_eq, eq_self]
      exact ⟨⟨c + 1, kn, ts', w, sv, by omega, by simp [gt], by rw [hc2]; simp [gt, e14], by simp [gt, e13], by simp [gt, e10], ⟨by simp [gt, e1], by simp [gt, e2], by simp [gt, e7], by simp [gt, e8], by simp [gt, e9]⟩, hI, hlf, hdn', fun j hj => by obtain ⟨d, g1, g2, g3⟩ := hsv' j hj; exact ⟨d, by omega, g2, g3⟩, hS⟩, by simp [gt, iv, e15o]; omega⟩
    have hc2 : cnt (fun d => (ts' d).fd) (c + 1) = cnt (fun d => (ts d).fd) c + 1 := by show _ + (if (ts' c).fd = true then 1 else 0) = _; rw [hok, hcnt]; rfl
    have wg : w64 ((cnt (fun d => (ts d).fd) c : Nat) + 1 : Int) = ((cnt (fun d => (ts' d).fd) (c + 1) : Nat) : Int) := by
      have := cnt_le (fun d => (ts d).fd) c
      rw [hc2, w64_eq (by omega) (by omega)]; omega
    obtain ⟨a1', a2', a3', a4', a5', a6'⟩ := hi.fin hd hok
    have hkc := (hI.kk c hlc).1
    obtain ⟨q, hq⟩ : ∃ q, (ts' c).pg = q := ⟨_, rfl⟩
    obtain ⟨sl, hsl⟩ : ∃ sl, (ts' c).sl = sl := ⟨_, rfl⟩
    obtain ⟨K0, hK0⟩ : ∃ K0, (ts' c).k = K0 := ⟨_, rfl⟩
    obtain ⟨vv, hvv⟩ : ∃ vv, pgAt ⟨P, i, 0⟩ w.ws q = vv := ⟨_, rfl⟩
    have a1' : 0 ≤ q := hq ▸ a1'
    have a2' : q < P := hq ▸ a2'
    have a3' : 0 ≤ sl := hsl ▸ a3'
    rw [hsl, hK0] at a4'
    rw [hq, hvv, hK0] at a5'
    rw [hq, hsl] at a6'
    have hKc : cc c % 4 = K0 := by rw [← hK0, hkc, hKf]
    have hkb := a5'.bd
    have hsk := slots_four hkb.1 hkb.2
    obtain ⟨w1, w2, w3⟩ := Ow.sup_read (s := ⟨P, i, 0⟩) hmay a1' a2' a5'
    have hpg : page P i 0 q = i + q := page_yes hmay a1' a2'
    have hu : U vv := by rw [← hvv]; exact hI.of.u _
    have hgv : w.get ((i : Int) + q) = vv := by rw [← hvv, ← hpg]; rfl
    have hwn : (w.n : Int) = i + P + P * 16 := by
      have := hI.of.n
      rw [this]
      show words P i 0 = _
      unfold words; rw [if_pos hmay]; omega
    have hin : (i : Int) + q < (w.n : Int) := by omega
    obtain ⟨b1, o1, rfl, hrd⟩ := (hr1.sub (hS.tail.tail.tail.tail.drop.drop.sb h Lm)).at' hlc
    have hcb := hcc c hlc
    have w4a : w64 (cc c) = cc c := w64_eq (by omega) (by omega)
    have t4a : (cc c).tmod 4 = cc c % 4 := Int.tmod_eq_emod_of_nonneg hcb.1
    simp only [e16, e15, e14, e13, e10, e1, e2, e7, e8, e9, hd, hok, hq, hsl, q0, q1, hrd, wrap_w64, wg, w4a, t4a, hKc, if_true, Int.toNat_natCast, ↓D0, ↓D1, ↓D2, ↓D3, ↓D4, ↓D5, ↓D6, ↓D7, ↓D8, ↓D9, ↓D10, U0, U1, U2, U3, U4, U5, U6, U7, U8, U9, U10, ↓reduceIte, Nat.reduceAdd, Nat.reduceMul, Nat.reduceSub, Nat.reduceEqDiff, Nat.reduceBEq, Nat.reduceLeDiff, Nat.reduceLT, Int.reduceAdd, Int.reduceMul, Int.reduceSub, Int.reduceLT, Int.reduceLE, Int.reduceToNat, Int.reduceEq, Int.reduceNe, Int.reduceBEq, Int.reduceBNe, ne_eq, eq_self]
    have hQ := hS.tail.tail.tail.tail.drop.drop
    have hx1 := hQ.lk 1 L1
    have r1 := fun o n => rdn_of hx1 o n
    refine draw_cut [(x, #[.int .i64 P, .int .i64 i, .int .i64 0], [])] (xmR ts' w kn c q sl K0 vv ⟨P, i, 0⟩ sv N sb (some ⟨zb, 0, none⟩) cap g ks s i m cap1 cap2 (some ⟨b1, o1, none⟩) a2 x b L) (by simp only [hx1, ↓D0, ↓D1, ↓D2, ↓D3, ↓D4, ↓D5, ↓D6, ↓D7, ↓D8, ↓D9, ↓D10, U0, U1, U2, U3, U4, U5, U6, U7, U8, U9, U10, ↓reduceIte, Nat.reduceAdd, Nat.reduceMul, Nat.reduceSub, Nat.reduceEqDiff, Nat.reduceBEq, Nat.reduceLeDiff, Nat.reduceLT, Int.reduceAdd, Int.reduceMul, Int.reduceSub, Int.reduceLT, Int.reduceLE, Int.reduceToNat, Int.reduceEq, Int.reduceNe, Int.reduceBEq, Int.reduceBNe, ne_eq, eq_self]) ?_ ?_
    · simp only [e16, e15, e14, e13, e10, e1, e2, e7, e8, e9, hx1, r1, u_page, hpg, ↓e_dalt2, ↓D0, ↓D1, ↓D2, ↓D3, ↓D4, ↓D5, ↓D6, ↓D7, ↓D8, ↓D9, ↓D10, U0, U1, U2, U3, U4, U5, U6, U7, U8, U9, U10, ↓reduceIte, Nat.reduceAdd, Nat.reduceMul, Nat.reduceSub, Nat.reduceEqDiff, Nat.reduceBEq, Nat.reduceLeDiff, Nat.reduceLT, Int.reduceAdd, Int.reduceMul, Int.reduceSub, Int.reduceLT, Int.reduceLE, Int.reduceToNat, Int.reduceEq, Int.reduceNe, Int.reduceBEq, Int.reduceBNe, ne_eq, eq_self]
      refine ⟨⟨?_, ?_⟩, ?_⟩
      · refine callT_of (c_look ((i : Int) + q) (by omega) hin hS) ?_
        rintro v' H' ⟨rfl, hS⟩
        have hQ := hS.tail.tail.tail.tail.drop.drop
        have hx1 := hQ.lk 1 L1
        have r1 := fun o n => rdn_of hx1 o n
        simp only [e16, e15, e14, e13, e10, e1, e2, e7, e8, e9, hx1, r1, hgv, u_readpg ⟨P, i, 0⟩ q hu, ↓e_dalt2, ↓D0, ↓D1, ↓D2, ↓D3, ↓D4, ↓D5, ↓D6, ↓D7, ↓D8, ↓D9, ↓D10, U0, U1, U2, U3, U4, U5, U6, U7, U8, U9, U10, ↓reduceIte, Nat.reduceAdd, Nat.reduceMul, Nat.reduceSub, Nat.reduceEqDiff, Nat.reduceBEq, Nat.reduceLeDiff, Nat.reduceLT, Int.reduceAdd, Int.reduceMul, Int.reduceSub, Int.reduceLT, Int.reduceLE, Int.reduceToNat, Int.reduceEq, Int.reduceNe, Int.reduceBEq, Int.reduceBNe, ne_eq, eq_self]
        refine ⟨?_, ?_⟩
        all_goals
          refine newB_intro fun y2 hy2 f9 f10 => ?_
          have nxy : (x = y2) = False := f9 x (by rw [hx1]; rfl)
          have nyx : (y2 = x) = False := f10 x (by rw [hx1]; rfl)
          have hS := hS.new f9 (.cells #[.int .i64 (pgK ⟨P, i, 0⟩ q vv), .int .i64 (pgA ⟨P, i, 0⟩ q vv), .int .i64 (pgB ⟨P, i, 0⟩ q vv)] 39 (0, 0))
          simp only [e16, e15, e14, e13, e10, e1, e2, e7, e8, e9, hx1, r1, hgv, nxy, nyx, u_readpg ⟨P, i, 0⟩ q hu, Ev.upd_upd, ↓D0, ↓D1, ↓D2, ↓D3, ↓D4, ↓D5, ↓D6, ↓D7, ↓D8, ↓D9, ↓D10, U0, U1, U2, U3, U4, U5, U6, U7, U8, U9, U10, ↓reduceIte, Nat.reduceAdd, Nat.reduceMul, Nat.reduceSub, Nat.reduceEqDiff, Nat.reduceBEq, Nat.reduceLeDiff, Nat.reduceLT, Int.reduceAdd, Int.reduceMul, Int.reduceSub, Int.reduceLT, Int.reduceLE, Int.reduceToNat, Int.reduceEq, Int.reduceNe, Int.reduceBEq, Int.reduceBNe, ne_eq, eq_self]
          exact ⟨by simp [gt], by simp [gt], by simp [gt], by simp [gt, e15], by simp [gt], by simp [gt, e13], by simp [gt, e10], ⟨by simp [gt, e1], by simp [gt, e2], by simp [gt, e7], by simp [gt, e8], by simp [gt, e9]⟩, y2, by simp [gt], hS.p2.p2⟩
      all_goals
        refine newB_intro fun y2 hy2 f9 f10 => ?_
        have nxy : (x = y2) = False := f9 x (by rw [hx1]; rfl)
        have nyx : (y2 = x) = False := f10 x (by rw [hx1]; rfl)
        have hS := hS.new f9 (.cells #[.int .i64 0, .int .i64 0, .int .i64 0] 39 (0, 0))
        simp only [e16, e15, e14, e13, e10, e1, e2, e7, e8, e9, hx1, r1, nxy, nyx, u_page, hpg, ↓D0, ↓D1, ↓D2, ↓D3, ↓D4, ↓D5, ↓D6, ↓D7, ↓D8, ↓D9, ↓D10, U0, U1, U2, U3, U4, U5, U6, U7, U8, U9, U10, ↓reduceIte, Nat.reduceAdd, Nat.reduceMul, Nat.reduceSub, Nat.reduceEqDiff, Nat.reduceBEq, Nat.reduceLeDiff, Nat.reduceLT, Int.reduceAdd, Int.reduceMul, Int.reduceSub, Int.reduceLT, Int.reduceLE, Int.reduceToNat, Int.reduceEq, Int.reduceNe, Int.reduceBEq, Int.reduceBNe, ne_eq, eq_self]
        refine callT_of (c_look ((i : Int) + q) (by omega) hin hS.p2.p2) ?_
        rintro v' H' ⟨rfl, hS⟩
        have hQ := hS.tail.tail.tail.tail.tail.drop.drop
        have hx1 := hQ.lk 1 L1
        have r1 := fun o n => rdn_of hx1 o n
        have hy1 := hS.lk 2 rfl
        have hS := (hS.p2.set (.cells #[.int .i64 (pgK ⟨P, i, 0⟩ q vv), .int .i64 (pgA ⟨P, i, 0⟩ q vv), .int .i64 (pgB ⟨P, i, 0⟩ q vv)] 39 (0, 0))).p2.p2
        simp only [e16, e15, e14, e13, e10, e1, e2, e7, e8, e9, hx1, r1, hy1, hgv, nxy, nyx, u_readpg ⟨P, i, 0⟩ q hu, ↓D0, ↓D1, ↓D2, ↓D3, ↓D4, ↓D5, ↓D6, ↓D7, ↓D8, ↓D9, ↓D10, U0, U1, U2, U3, U4, U5, U6, U7, U8, U9, U10, ↓reduceIte, Nat.reduceAdd, Nat.reduceMul, Nat.reduceSub, Nat.reduceEqDiff, Nat.reduceBEq, Nat.reduceLeDiff, Nat.reduceLT, Int.reduceAdd, Int.reduceMul, Int.reduceSub, Int.reduceLT, Int.reduceLE, Int.reduceToNat, Int.reduceEq, Int.reduceNe, Int.reduceBEq, Int.reduceBNe, ne_eq, eq_self]
        exact ⟨by simp [gt], by simp [gt], by simp [gt], by simp [gt, e15], by simp [gt], by simp [gt, e13], by simp [gt, e10], ⟨by simp [gt, e1], by simp [gt, e2], by simp [gt, e7], by simp [gt, e8], by simp [gt, e9]⟩, y2, by simp [gt], hS⟩
    · have e15o' := e15o
      clear hS hQ hx1 r1 e10 e1 e2 e7 e8 e9 e16 e15 e14 e13 hrz hrd
      rintro F3 H' ⟨e17, e18, e20, e15, e14, e13, e10, ⟨e1, e2, e7, e8, e9⟩, y2, e21, hS⟩
      have hQ := hS.tail.tail.tail.tail.tail.drop.drop
      have hx1 := hQ.lk 1 L1
      have r0 := fun o => rd_of hx1 o
      have r1 := fun o n => rdn_of hx1 o n
      have hy1 := hS.lk 2 rfl
      have r4 := fun o => rd_of hy1 o
      have gk2 : (pgK ⟨P, i, 0⟩ q vv != 2) = false := by rw [w2]; rfl
      have gK : (pgA ⟨P, i, 0⟩ q vv != K0) = false := by rw [w3]; simp
      have hslt : slot P i 0 q sl = i + P + q * 16 + sl := slot_yes hmay a1' a2' a3' (by omega)
      have hgs : w.get ((i : Int) + P + q * 16 + sl) = putSl 2 c := by
        rw [show w.get ((i : Int) + P + q * 16 + sl) = slAt ⟨P, i, 0⟩ w.ws q sl from rfl, a6']
        exact (Ow.way_v (by omega) (by omega)).symm
      have gp : (putSl 2 (c : Int) != putSl 2 (c : Int)) = false := by simp
      have hin2 : (i : Int) + P + q * 16 + sl < (w.n : Int) := by omega
      simp only [e17, e18, e20, e15, e14, e13, e10, e21, e1, e2, e7, e8, e9, hx1, r0, r1, hy1, r4, gk2, gK, u_slot, hslt, ↓D0, ↓D1, ↓D2, ↓D3, ↓D4, ↓D5, ↓D6, ↓D7, ↓D8, ↓D9, ↓D10, U0, U1, U2, U3, U4, U5, U6, U7, U8, U9, U10, ↓reduceIte, Nat.reduceAdd, Nat.reduceMul, Nat.reduceSub, Nat.reduceEqDiff, Nat.reduceBEq, Nat.reduceLeDiff, Nat.reduceLT, Int.reduceAdd, Int.reduceMul, Int.reduceSub, Int.reduceLT, Int.reduceLE, Int.reduceToNat, Int.reduceEq, Int.reduceNe, Int.reduceBEq, Int.reduceBNe, ne_eq, eq_self]
      refine callT_of (c_look ((i : Int) + P + q * 16 + sl) (by omega) hin2 hS) ?_
      rintro v' H' ⟨rfl, hS⟩
      have hmul : 0 ≤ sl * size K0 := Int.mul_nonneg a3' (by omega)
      have hmul2 : sl * size K0 + size K0 ≤ 64 := by
        have := Int.mul_le_mul_of_nonneg_right (show sl + 1 ≤ slots K0 by omega) (show 0 ≤ size K0 by omega)
        rw [Int.add_mul, hsk.2.2.1] at this; omega
      have hadd : (sl + 1) * size K0 = sl * size K0 + size K0 := by rw [Int.add_mul]; omega
      have z1 : w64 (q * 64) = q * 64 := w64_eq (by omega) (by omega)
      have z2 : w64 (sl * size K0) = sl * size K0 := w64_eq (by omega) (by omega)
      have z3 : w64 (q * 64 + sl * size K0) = q * 64 + sl * size K0 := w64_eq (by omega) (by omega)
      have z4 : w64 (sl + 1) = sl + 1 := w64_eq (by omega) (by omega)
      have z5 : w64 (sl * size K0 + size K0) = sl * size K0 + size K0 := w64_eq (by omega) (by omega)
      have z6 : w64 (q * 64 + (sl * size K0 + size K0)) = q * 64 + (sl * size K0 + size K0) := w64_eq (by omega) (by omega)
      simp only [e17, e18, e20, e15, e14, e13, e10, e21, e1, e2, e7, e8, e9, hgs, gp, u_putsl, u_size, wrap_w64, z1, z2, z3, ↓D0, ↓D1, ↓D2, ↓D3, ↓D4, ↓D5, ↓D6, ↓D7, ↓D8, ↓D9, ↓D10, U0, U1, U2, U3, U4, U5, U6, U7, U8, U9, U10, ↓reduceIte, Nat.reduceAdd, Nat.reduceMul, Nat.reduceSub, Nat.reduceEqDiff, Nat.reduceBEq, Nat.reduceLeDiff, Nat.reduceLT, Int.reduceAdd, Int.reduceMul, Int.reduceSub, Int.reduceLT, Int.reduceLE, Int.reduceToNat, Int.reduceEq, Int.reduceNe, Int.reduceBEq, Int.reduceBNe, ne_eq, eq_self]
      have z5' : w64 ((sl + 1) * size K0) = sl * size K0 + size K0 := by rw [hadd]; exact z5
      refine loop_intro (xmE ts' w kn c q sl K0 sv N sb (some ⟨zb, 0, none⟩) cap g ks s i m cap1 cap2 (some ⟨b1, o1, none⟩) a2 x b L) (fun F' _ => (q * 64 + sl * size K0 + size K0 - iv (gt F' 23)).toNat)
        ⟨0, Int.le_refl _, by omega, by simp [gt, z1, z2, z3], by simp [gt, e17], by simp [gt, e18], by simp [gt, e20], by simp [gt, e15], by simp [gt, e14], by simp [gt, e13], by simp [gt, e10], ⟨by simp [gt, e1], by simp [gt, e2], by simp [gt, e7], by simp [gt, e8], by simp [gt, e9]⟩, ?_⟩ ?_
      · have eb2 : (fun j : Nat => sv j || (decide (q * 64 + sl * size K0 ≤ (j : Int)) && decide ((j : Int) < q * 64 + sl * size K0 + 0))) = sv := by
          funext j
          by_cases g : q * 64 + sl * size K0 ≤ (j : Int)
          · rw [decide_eq_false (by omega : ¬ (j : Int) < q * 64 + sl * size K0 + 0)]; simp
          · rw [decide_eq_false g]; simp
        rw [eb2]
        exact hS.p2.tail
      clear hS hQ hx1 r0 r1 hy1 r4 e10 e1 e2 e7 e8 e9 e15 e14 e13 e17 e18 e20 e21
      rintro F4 H' ⟨a, ha0, ha1, e23, e17, e18, e20, e15, e14, e13, e10, ⟨e1, e2, e7, e8, e9⟩, hS⟩
      by_cases hla : a < size K0
      · obtain ⟨A, hA⟩ : ∃ A : Nat, (A : Int) = q * 64 + sl * size K0 + a := ⟨(q * 64 + sl * size K0 + a).toNat, by omega⟩
        have d3 : decide ((A : Int) < q * 64 + (sl * size K0 + size K0)) = true := decide_eq_true (by omega)
        have hAN : A < N := by omega
        have v0 : (0 : Int) ≤ (A : Int) := by omega
        have v1 : (A : Int) < (N : Int) := by omega
        have wA : w64 ((A : Int) + 1) = q * 64 + sl * size K0 + (a + 1) := by rw [w64_eq (by omega) (by omega)]; omega
        have hsA : sv A = false := by
          cases hb : sv A
          · rfl
          · exfalso
            obtain ⟨d, g1, g2, g3⟩ := hsv' A hb
            refine blo_apart hI hlc (by omega) (by omega) hd hok (hdn' d (by omega)) g2 (j := A) ?_ g3
            unfold Blo
            rw [hq, hsl, hK0]; omega
        have hb1 := hS.lk 3 rfl
        have hrs : rd H' sb A = some (.bool false) := by
          rw [rd_of hb1, brow_at hAN, hsA, decide_eq_false (by omega : ¬ (A : Int) < q * 64 + sl * size K0 + a)]; simp
        simp only [e23, e17, e18, e20, e15, e14, e13, e10, e1, e2, e7, e8, e9, u_size, wrap_w64, z1, z4, z5', z6, d3, ← hA, v0, v1, Int.toNat_natCast, Nat.zero_add, hrs, hb1, brow_size, hAN, brow_set, wA, ↓D0, ↓D1, ↓D2, ↓D3, ↓D4, ↓D5, ↓D6, ↓D7, ↓D8, ↓D9, ↓D10, U0, U1, U2, U3, U4, U5, U6, U7, U8, U9, U10, ↓reduceIte, Nat.reduceAdd, Nat.reduceMul, Nat.reduceSub, Nat.reduceEqDiff, Nat.reduceBEq, Nat.reduceLeDiff, Nat.reduceLT, Int.reduceAdd, Int.reduceMul, Int.reduceSub, Int.reduceLT, Int.reduceLE, Int.reduceToNat, Int.reduceEq, Int.reduceNe, Int.reduceBEq, Int.reduceBNe, ne_eq, eq_self]
        refine ⟨⟨a + 1, by omega, by omega, by simp [gt], by simp [gt, e17], by simp [gt, e18], by simp [gt, e20], by simp [gt, e15], by simp [gt, e14], by simp [gt, e13], by simp [gt, e10], ⟨by simp [gt, e1], by simp [gt, e2], by simp [gt, e7], by simp [gt, e8], by simp [gt, e9]⟩, ?_⟩, by simp [gt, iv, e23]; omega⟩
        have eb3 : (fun j : Nat => if j = A then true else sv j || (decide (q * 64 + sl * size K0 ≤ (j : Int)) && decide ((j : Int) < (A : Int)))) = fun j : Nat => sv j || (decide (q * 64 + sl * size K0 ≤ (j : Int)) && decide ((j : Int) < q * 64 + sl * size K0 + (a + 1))) := by
          funext j
          by_cases e : j = A
          · subst e
            rw [if_pos rfl, decide_eq_true (by omega : q * 64 + sl * size K0 ≤ (j : Int)), decide_eq_true (by omega : (j : Int) < q * 64 + sl * size K0 + (a + 1))]; simp
          · rw [if_neg e]
            have : decide ((j : Int) < q * 64 + sl * size K0 + (a + 1)) = decide ((j : Int) < (A : Int)) := decide_eq_decide.2 (by omega)
            rw [this]
        rw [eb3]
        exact (hS.p3.set _).r3
      · have d3 : decide (q * 64 + sl * size K0 + a < q * 64 + (sl * size K0 + size K0)) = false := decide_eq_false (by omega)
        simp only [e23, e17, e18, e20, e15, e14, e13, e10, e1, e2, e7, e8, e9, u_size, wrap_w64, z1, z4, z5', z6, d3, wc, ↓D0, ↓D1, ↓D2, ↓D3, ↓D4, ↓D5, ↓D6, ↓D7, ↓D8, ↓D9, ↓D10, U0, U1, U2, U3, U4, U5, U6, U7, U8, U9, U10, ↓reduceIte, Nat.reduceAdd, Nat.reduceMul, Nat.reduceSub, Nat.reduceEqDiff, Nat.reduceBEq, Nat.reduceLeDiff, Nat.reduceLT, Int.reduceAdd, Int.reduceMul, Int.reduceSub, Int.reduceLT, Int.reduceLE, Int.reduceToNat, Int.reduceEq, Int.reduceNe, Int.reduceBEq, Int.reduceBNe, ne_eq, eq_self]
        refine ⟨⟨c + 1, kn, ts', w, _, by omega, by simp [gt], by simp [gt, e14], by simp [gt, e13], by simp [gt, e10], ⟨by simp [gt, e1], by simp [gt, e2], by simp [gt, e7], by simp [gt, e8], by simp [gt, e9]⟩, hI, hlf, hdn', fun j hj => ?_, hS⟩, by simp [gt, iv, e15o']; omega⟩
        cases hb : sv j
        · rw [hb] at hj
          simp only [Bool.false_or, Bool.and_eq_true, decide_eq_true_eq] at hj
          refine ⟨c, by omega, hok, ?_⟩
          unfold Blo
          rw [hq, hsl, hK0]; omega
        · obtain ⟨d, g1, g2, g3⟩ := hsv' j hb
          exact ⟨d, by omega, g2, g3⟩
  · have d1 : decide ((c : Int) < (i : Int)) = false := decide_eq_false (by omega)
    have hci : c = i := by omega
    subst hci
    have hmost := hI.most hdn
    have ge : decide ((if P < (c : Int) then P else (c : Int)) ≤ ((cnt (fun d => (ts d).fd) c : Nat) : Int)) = true := by
      refine decide_eq_true ?_
      have hmost : min c P.toNat ≤ cnt (fun c => (ts c).fd) c := hmost
      split <;> omega
    simp only [e15, e14, e13, e10, e1, e2, e7, e8, e9, d1, hx1, r0, ge, ↓D0, ↓D1, ↓D2, ↓D3, ↓D4, ↓D5, ↓D6, ↓D7, ↓D8, ↓D9, ↓D10, U0, U1, U2, U3, U4, U5, U6, U7, U8, U9, U10, ↓reduceIte, Nat.reduceAdd, Nat.reduceMul, Nat.reduceSub, Nat.reduceEqDiff, Nat.reduceBEq, Nat.reduceLeDiff, Nat.reduceLT, Int.reduceAdd, Int.reduceMul, Int.reduceSub, Int.reduceLT, Int.reduceLE, Int.reduceToNat, Int.reduceEq, Int.reduceNe, Int.reduceBEq, Int.reduceBNe, ne_eq, eq_self]
    exact fin _ hQ
end
theorem l_seekmany {W : World} {n m cap1 cap2 : Nat} {a1 a2 : Option Addr} {cc tt : Nat → Int} (pg : Int) (hp : 0 ≤ pg ∧ pg ≤ 255) (hn : n ≤ 9223372036854775807) (hr1 : RowV (memOf W) a1 n (fun i => .int .u8 (cc i))) (h1 : ∀ i, i < n → IntKind.u8.has (cc i)) (hm : m ≤ 9223372036854775807) (hr2 : RowV (memOf W) a2 m (fun i => .int .u8 (tt i))) (h2 : ∀ i, i < m → IntKind.u8.has (tt i)) :
    CallP Try.prog W 3 #[.int .u8 pg, .slice a1 n cap1, .slice a2 m cap2] (memOf W) fun v H' => v = .bool true ∧ Sub (memOf W) H' :=
  (c_seekmany hp hr1 hn (fun i hi => u8_bd (h1 i hi)) hr2 hm (fun i hi => u8_bd (h2 i hi)) (Sep.one _)).mono fun v H' ⟨h1, h2⟩ => ⟨h1, h2.head⟩
end Go.Proofs.Ytpdmeneigpipiaa
