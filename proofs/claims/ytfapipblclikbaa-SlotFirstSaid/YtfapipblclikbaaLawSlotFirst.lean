/-
  SlotFirst, walked: alone a claimer comes to the first open slot of its class. Conditions: none.
-/
import Derived.Test.YtfapipblclikbaaSlotK
import Derived.Test.YtfapipblclikbaaMaBd
import Derived.Test.YtfapipblclikbaaMaMany2
import Derived.Test.YtfapipblclikbaaRowV
import Derived.Test.YtfapipblclikbaaAlt
set_option linter.unusedVariables false
set_option linter.unusedSimpArgs false
set_option maxRecDepth 8000
namespace Go.Proofs.Ytfapipblclikbaa
open Go Go.Ev Go.Pl Go.Ma

theorem rowW_get2 {n : Nat} {ws : Nat → Int} {q : Int} (h1 : q.toNat < n) : (rowW n ws).get q = ws q.toNat := by
  show (if _ then _ else _) = _; rw [if_pos h1]
theorem rd_cells2 {H : Hp} {b o : Nat} {v : Value} (h : rd H b o = some v) : ∃ c T f, H b = some (.cells c T f) ∧ c[o]? = some v := by
  unfold rd at h
  split at h
  · rename_i c T f e; exact ⟨c, T, f, e, h⟩
  · cases h
section
variable {W : World} {H h : Hp} {l : List Hp} {n cap : Nat} {a : Option Addr} {ws : Nat → Int}

def sfG (K : Int) (n cap : Nat) (a : Option Addr) (x y b kt : Nat) (F' : Fr) : Prop := gt F' 1 = .slice a n cap ∧ gt F' 3 = .pointer (some ⟨x, 0, none⟩) ∧ gt F' 5 = .pointer (some ⟨y, 0, none⟩) ∧ gt F' 7 = .int .i64 K ∧ gt F' 8 = .pointer (some ⟨b, 0, none⟩) ∧ gt F' 9 = .pointer (some ⟨kt, 0, none⟩)
def sf1 (sh : Sh) (f : Int) (w0 : Wd) (K : Int) (n cap : Nat) (a : Option Addr) (x y b kt : Nat) (L : List Hp) (F' : Fr) (H' : Hp) : Prop :=
  ∃ (i pg at' : Int), -1 ≤ i ∧ i < sh.p ∧ -1 ≤ pg ∧ pg ≤ 100 ∧ -1 ≤ at' ∧ at' ≤ 100 ∧ gt F' 12 = .int .i64 i ∧ gt F' 10 = .int .i64 pg ∧ gt F' 11 = .int .i64 at' ∧ sfG K n cap a x y b kt F' ∧ Sc.First sh K f w0 (i + 1) pg at' ∧ Sep L H'
def sfC (sh : Sh) (i pg at' q xw : Int) (K : Int) (n cap : Nat) (a : Option Addr) (x y b kt : Nat) (L : List Hp) (F' : Fr) (H' : Hp) : Prop :=
  ∃ pb : Nat, gt F' 12 = .int .i64 i ∧ gt F' 10 = .int .i64 pg ∧ gt F' 11 = .int .i64 at' ∧ gt F' 13 = .int .i64 q ∧ gt F' 14 = .pointer (some ⟨pb, 0, none⟩) ∧ gt F' 15 = .bool (okPg sh q xw) ∧ sfG K n cap a x y b kt F' ∧
    Sep (sg pb (.cells #[.int .i64 (pgK sh q xw), .int .i64 (pgA sh q xw), .int .i64 (pgB sh q xw)] 68 (0, 0)) :: L) H'
def sfJ (sh : Sh) (f i q xw : Int) (w0 : Wd) (pb : Nat) (K : Int) (n cap : Nat) (a : Option Addr) (x y b kt : Nat) (L : List Hp) (F' : Fr) (H' : Hp) : Prop :=
  ∃ (j pg at' : Int), -1 ≤ j ∧ j < slots K ∧ -1 ≤ pg ∧ pg ≤ 100 ∧ -1 ≤ at' ∧ at' ≤ 100 ∧ gt F' 16 = .int .i64 j ∧ gt F' 12 = .int .i64 i ∧ gt F' 10 = .int .i64 pg ∧ gt F' 11 = .int .i64 at' ∧ gt F' 13 = .int .i64 q ∧ gt F' 14 = .pointer (some ⟨pb, 0, none⟩) ∧ gt F' 15 = .bool (okPg sh q xw) ∧ sfG K n cap a x y b kt F' ∧
    (mineAt sh K q w0 = true ∨ Sc.First sh K f w0 (i + 1) pg at') ∧ Sc.Within sh K f w0 i (j + 1) pg at' ∧ Sep (sg pb (.cells #[.int .i64 (pgK sh q xw), .int .i64 (pgA sh q xw), .int .i64 (pgB sh q xw)] 68 (0, 0)) :: L) H'
def sf2 (sh : Sh) (c f : Int) (w0 : Wd) (pg at' : Int) (K : Int) (n cap : Nat) (a : Option Addr) (x y b kt : Nat) (s : Nat) (L : List Hp) (F' : Fr) (H' : Hp) : Prop :=
  ∃ (i : Int) (t : Sc) (w : Wd), 0 ≤ i ∧ i ≤ 33 * sh.p + 2 ∧ gt F' 17 = .int .i64 i ∧ gt F' 10 = .int .i64 pg ∧ gt F' 11 = .int .i64 at' ∧ sfG K n cap a x y b kt F' ∧
    Sc.Al sh c K f w0 t w ∧ w.of sh ∧ t.left ≤ max 0 (33 * sh.p - i) ∧ Sep (scB kt t :: wB b s w :: wR s w :: L) H'
def sf3 (pg at' : Int) (ok : Bool) (n cap cap2 : Nat) (a a2 : Option Addr) (x : Nat) (L : List Hp) (F' : Fr) (H' : Hp) : Prop :=
  ∃ (j : Nat), j ≤ n ∧ gt F' 22 = .int .i64 (j : Int) ∧ gt F' 10 = .int .i64 pg ∧ gt F' 11 = .int .i64 at' ∧ gt F' 20 = .bool ok ∧ (gt F' 1 = .slice a n cap ∧ gt F' 3 = .pointer (some ⟨x, 0, none⟩) ∧ gt F' 21 = .slice a2 n cap2) ∧ Sep L H'

theorem c_slotfirst (sh : Sh) (c kk f : Int) (hkk : -9223372036854775808 ≤ kk ∧ kk ≤ 9223372036854775807) (hr : RowU h a n ws) (hU : ∀ i, i < n → U (ws i)) (hS : Sep (h :: l) H) :
    CallP Try.prog W 23 #[.agg #[.int .i64 sh.p, .int .i64 sh.c, .int .i64 sh.m], .slice a n cap, .agg #[.int .i64 c, .int .i64 kk, .int .i64 f]] H fun v H' => v = .bool true ∧ Sep (h :: l) H' := by
  refine CallP.of mixed Try.func23 tr23 (by show 3 ≤ _; decide) fun W _ => ?_
  simp only [↓D0, ↓D1, ↓D2, ↓D3, ↓D4, ↓D5, ↓D6, ↓D7, ↓D8, ↓D9, U0, U1, U2, U3, U4, U5, U6, U7, U8, U9, U10, ↓reduceIte, Nat.reduceAdd, Nat.reduceMul, Nat.reduceSub, Nat.reduceEqDiff, Nat.reduceBEq, Nat.reduceLeDiff, Nat.reduceLT, Int.reduceAdd, Int.reduceMul, Int.reduceSub, Int.reduceLT, Int.reduceLE, Int.reduceToNat, Int.reduceEq, Int.reduceNe, Int.reduceBEq, Int.reduceBNe, ne_eq, eq_self]
  refine newB_intro fun x hx f1 f2 => ?_
  simp only [↓D0, ↓D1, ↓D2, ↓D3, ↓D4, ↓D5, ↓D6, ↓D7, ↓D8, ↓D9, U0, U1, U2, U3, U4, U5, U6, U7, U8, U9, U10, ↓reduceIte, Nat.reduceAdd, Nat.reduceMul, Nat.reduceSub, Nat.reduceEqDiff, Nat.reduceBEq, Nat.reduceLeDiff, Nat.reduceLT, Int.reduceAdd, Int.reduceMul, Int.reduceSub, Int.reduceLT, Int.reduceLE, Int.reduceToNat, Int.reduceEq, Int.reduceNe, Int.reduceBEq, Int.reduceBNe, ne_eq, eq_self]
  refine newB_intro fun y hy f3 f4 => ?_
  have hS := (hS.new f1 (.cells #[.int .i64 sh.p, .int .i64 sh.c, .int .i64 sh.m] 57 (0, 0))).new f3 (.cells #[.int .i64 c, .int .i64 kk, .int .i64 f] 95 (0, 0))
  simp only [↓D0, ↓D1, ↓D2, ↓D3, ↓D4, ↓D5, ↓D6, ↓D7, ↓D8, ↓D9, U0, U1, U2, U3, U4, U5, U6, U7, U8, U9, U10, ↓reduceIte, Nat.reduceAdd, Nat.reduceMul, Nat.reduceSub, Nat.reduceEqDiff, Nat.reduceBEq, Nat.reduceLeDiff, Nat.reduceLT, Int.reduceAdd, Int.reduceMul, Int.reduceSub, Int.reduceLT, Int.reduceLE, Int.reduceToNat, Int.reduceEq, Int.reduceNe, Int.reduceBEq, Int.reduceBNe, ne_eq, eq_self]
  refine callT_of (c_awake9 hS) ?_
  rintro v H' ⟨rfl, hS⟩
  have hx1 := hS.lk 1 rfl
  have hy1 := hS.look
  have r1 := fun o n => rdn_of hx1 o n
  simp only [hx1, hy1, r1, ↓D0, ↓D1, ↓D2, ↓D3, ↓D4, ↓D5, ↓D6, ↓D7, ↓D8, ↓D9, U0, U1, U2, U3, U4, U5, U6, U7, U8, U9, U10, ↓reduceIte, Nat.reduceAdd, Nat.reduceMul, Nat.reduceSub, Nat.reduceEqDiff, Nat.reduceBEq, Nat.reduceLeDiff, Nat.reduceLT, Int.reduceAdd, Int.reduceMul, Int.reduceSub, Int.reduceLT, Int.reduceLE, Int.reduceToNat, Int.reduceEq, Int.reduceNe, Int.reduceBEq, Int.reduceBNe, ne_eq, eq_self]
  refine callT_of (c_fair (sh := sh) hS) ?_
  rintro v H' ⟨rfl, hS⟩
  have hx1 := hS.lk 1 rfl
  have hy1 := hS.look
  have r1 := fun o n => rdn_of hx1 o n
  have r2 := fun o => rd_of hy1 o
  have i0 : (0 : Int) < ((3 : Nat) : Int) := by decide
  have i1 : (1 : Int) < ((3 : Nat) : Int) := by decide
  have i2 : (2 : Int) < ((3 : Nat) : Int) := by decide
  cases hfair : (may sh.p sh.c sh.m && ((n : Int) == words sh.p sh.c sh.m))
  · simp only [hfair, hx1, hy1, r1, r2, i0, i1, i2, ↓D0, ↓D1, ↓D2, ↓D3, ↓D4, ↓D5, ↓D6, ↓D7, ↓D8, ↓D9, U0, U1, U2, U3, U4, U5, U6, U7, U8, U9, U10, ↓reduceIte, Nat.reduceAdd, Nat.reduceMul, Nat.reduceSub, Nat.reduceEqDiff, Nat.reduceBEq, Nat.reduceLeDiff, Nat.reduceLT, Int.reduceAdd, Int.reduceMul, Int.reduceSub, Int.reduceLT, Int.reduceLE, Int.reduceToNat, Int.reduceEq, Int.reduceNe, Int.reduceBEq, Int.reduceBNe, ne_eq, eq_self]
    exact hS.tail.tail
  have hfair2 := hfair
  simp only [Bool.and_eq_true, beq_iff_eq] at hfair2
  obtain ⟨hm, hn⟩ := hfair2
  have hwl := words_le hm
  have hn2 : n ≤ 2000 := by omega
  obtain ⟨a1, a2, a3, a4, a5, a6⟩ := (may_iff _ _ _).1 hm
  by_cases hst : 0 ≤ c ∧ c < sh.c
  case neg =>
    have g1 : decide (status sh.p sh.c sh.m c < 0) = true := decide_eq_true ((status_lt0 _ _ _ _).2 fun h => hst h.2)
    simp only [hfair, hx1, hy1, r1, r2, i0, i1, i2, u_status, g1, ↓D0, ↓D1, ↓D2, ↓D3, ↓D4, ↓D5, ↓D6, ↓D7, ↓D8, ↓D9, U0, U1, U2, U3, U4, U5, U6, U7, U8, U9, U10, ↓reduceIte, Nat.reduceAdd, Nat.reduceMul, Nat.reduceSub, Nat.reduceEqDiff, Nat.reduceBEq, Nat.reduceLeDiff, Nat.reduceLT, Int.reduceAdd, Int.reduceMul, Int.reduceSub, Int.reduceLT, Int.reduceLE, Int.reduceToNat, Int.reduceEq, Int.reduceNe, Int.reduceBEq, Int.reduceBNe, ne_eq, eq_self]
    exact hS.tail.tail
  have g1 : decide (status sh.p sh.c sh.m c < 0) = false := decide_eq_false fun h => (status_lt0 _ _ _ _).1 h ⟨hm, hst⟩
  by_cases hpg : 0 ≤ f ∧ f < sh.p
  case neg =>
    have g2 : decide (page sh.p sh.c sh.m f < 0) = true := decide_eq_true ((page_lt0 _ _ _ _).2 fun h => hpg h.2)
    simp only [hfair, hx1, hy1, r1, r2, i0, i1, i2, u_status, u_page, g1, g2, ↓D0, ↓D1, ↓D2, ↓D3, ↓D4, ↓D5, ↓D6, ↓D7, ↓D8, ↓D9, U0, U1, U2, U3, U4, U5, U6, U7, U8, U9, U10, ↓reduceIte, Nat.reduceAdd, Nat.reduceMul, Nat.reduceSub, Nat.reduceEqDiff, Nat.reduceBEq, Nat.reduceLeDiff, Nat.reduceLT, Int.reduceAdd, Int.reduceMul, Int.reduceSub, Int.reduceLT, Int.reduceLE, Int.reduceToNat, Int.reduceEq, Int.reduceNe, Int.reduceBEq, Int.reduceBNe, ne_eq, eq_self]
    exact hS.tail.tail
  have g2 : decide (page sh.p sh.c sh.m f < 0) = false := decide_eq_false fun h => (page_lt0 _ _ _ _).1 h ⟨hm, hpg⟩
  have k1 : -4 < kk.tmod 4 := Int.lt_tmod_of_pos _ (by decide)
  have k2 : kk.tmod 4 < 4 := Int.tmod_lt_of_pos _ (by decide)
  have wk1 : w64 (kk.tmod 4) = kk.tmod 4 := w64_eq (by omega) (by omega)
  have wk2 : w64 (kk.tmod 4 + 4) = kk.tmod 4 + 4 := w64_eq (by omega) (by omega)
  obtain ⟨K, hK, K0, K1⟩ : ∃ K : Int, (kk.tmod 4 + 4).tmod 4 = K ∧ 0 ≤ K ∧ K < 4 := ⟨_, rfl, Int.tmod_nonneg _ (by omega), Int.tmod_lt_of_pos _ (by decide)⟩
  have wk3 : w64 K = K := w64_eq (by omega) (by omega)
  have sb := slots_bd K
  have sp := slots_pos K0 (by omega)
  simp only [hfair, hx1, hy1, r1, r2, i0, i1, i2, u_status, u_page, g1, g2, wrap_w64, wk1, wk2, hK, wk3, ↓D0, ↓D1, ↓D2, ↓D3, ↓D4, ↓D5, ↓D6, ↓D7, ↓D8, ↓D9, U0, U1, U2, U3, U4, U5, U6, U7, U8, U9, U10, ↓reduceIte, Nat.reduceAdd, Nat.reduceMul, Nat.reduceSub, Nat.reduceEqDiff, Nat.reduceBEq, Nat.reduceLeDiff, Nat.reduceLT, Int.reduceAdd, Int.reduceMul, Int.reduceSub, Int.reduceLT, Int.reduceLE, Int.reduceToNat, Int.reduceEq, Int.reduceNe, Int.reduceBEq, Int.reduceBNe, ne_eq, eq_self]
  refine callT_of (c_fill hn2 hr hS.p2) ?_
  rintro v H' ⟨b, s, rfl, hS⟩
  have hx1 := hS.lk 4 rfl
  have hy1 := hS.lk 3 rfl
  have r1 := fun o n => rdn_of hx1 o n
  have r2 := fun o => rd_of hy1 o
  simp only [hx1, hy1, r1, r2, i0, i1, i2, ↓D0, ↓D1, ↓D2, ↓D3, ↓D4, ↓D5, ↓D6, ↓D7, ↓D8, ↓D9, U0, U1, U2, U3, U4, U5, U6, U7, U8, U9, U10, ↓reduceIte, Nat.reduceAdd, Nat.reduceMul, Nat.reduceSub, Nat.reduceEqDiff, Nat.reduceBEq, Nat.reduceLeDiff, Nat.reduceLT, Int.reduceAdd, Int.reduceMul, Int.reduceSub, Int.reduceLT, Int.reduceLE, Int.reduceToNat, Int.reduceEq, Int.reduceNe, Int.reduceBEq, Int.reduceBNe, ne_eq, eq_self]
  refine callT_of (c_scnew (sh := sh) hS) ?_
  rintro v H' ⟨kt, rfl, hS⟩
  have hx1 := hS.lk 5 rfl
  have r0 := fun o => rd_of hx1 o
  have wp : w64 (sh.p - 1) = sh.p - 1 := w64_eq (by omega) (by omega)
  simp only [hx1, r0, wrap_w64, wp, ↓D0, ↓D1, ↓D2, ↓D3, ↓D4, ↓D5, ↓D6, ↓D7, ↓D8, ↓D9, U0, U1, U2, U3, U4, U5, U6, U7, U8, U9, U10, ↓reduceIte, Nat.reduceAdd, Nat.reduceMul, Nat.reduceSub, Nat.reduceEqDiff, Nat.reduceBEq, Nat.reduceLeDiff, Nat.reduceLT, Int.reduceAdd, Int.reduceMul, Int.reduceSub, Int.reduceLT, Int.reduceLE, Int.reduceToNat, Int.reduceEq, Int.reduceNe, Int.reduceBEq, Int.reduceBNe, ne_eq, eq_self]
  have hof := rowW_of (ws := ws) hn hU
  have hmd := fun z => mod_bd (a := z) (p := sh.p) (by omega)
  refine loop_intro (sf1 sh f (rowW n ws) K n cap a x y b kt (scB kt (Sc.new sh c K f) :: wB b s (rowW n ws) :: wR s (rowW n ws) :: h :: sg y (.cells #[.int .i64 c, .int .i64 kk, .int .i64 f] 95 (0, 0)) :: sg x (.cells #[.int .i64 sh.p, .int .i64 sh.c, .int .i64 sh.m] 57 (0, 0)) :: l)) (fun F' _ => (iv (gt F' 12) + 1).toNat)
    ⟨sh.p - 1, -1, -1, by omega, by omega, by omega, by omega, by omega, by omega, rfl, rfl, rfl, ⟨rfl, rfl, rfl, rfl, rfl, rfl⟩, by rw [show sh.p - 1 + 1 = sh.p by omega]; exact Sc.First.top, hS⟩ ?_
  rintro F' H' ⟨i, pg, at', h0, h1, p0, p1, t0, t1, e12, e10, e11, ⟨e1, e3, e5, e7, e8, e9⟩, hF, hS⟩
  have hx1 := hS.lk 5 rfl
  have hy1 := hS.lk 4 rfl
  have r0 := fun o => rd_of hx1 o
  have r1 := fun o n => rdn_of hx1 o n
  have r2 := fun o => rd_of hy1 o
  by_cases hi : 0 ≤ i
  · have d1 : decide (0 ≤ i) = true := decide_eq_true hi
    have wf1 : w64 (f + i) = f + i := w64_eq (by omega) (by omega)
    have wi : w64 (i - 1) = i - 1 := w64_eq (by omega) (by omega)
    have pn0 : (sh.p = 0) = False := eq_false (by omega)
    have et : (f + i).tmod sh.p = (f + i) % sh.p := Int.tmod_eq_emod_of_nonneg (by omega)
    obtain ⟨q, hq⟩ : ∃ q, (f + i) % sh.p = q := ⟨_, rfl⟩
    have qb : 0 ≤ q ∧ q < sh.p := by rw [← hq]; exact hmd _
    have wq : w64 q = q := w64_eq (by omega) (by omega)
    have pin := page_in hof hm qb.1 qb.2
    have hnn : (rowW n ws).n = n := rfl
    rw [hnn] at pin
    obtain ⟨pa, hpa⟩ : ∃ pa, page sh.p sh.c sh.m q = pa := ⟨_, rfl⟩
    rw [hpa] at pin
    have pa0 := pin.1
    have pa1 := pin.2
    obtain ⟨xb, xo, hxa, hrd0⟩ := hr.at' (i := pa.toNat) (by omega)
    obtain ⟨xc, xT, xf, hxh, hxc⟩ := rd_cells2 hrd0
    subst hxa
    have hU2 := hU pa.toNat (by omega)
    have hgq : (rowW n ws).get (page sh.p sh.c sh.m q) = ws pa.toNat := by rw [hpa]; exact rowW_get2 (by omega)
    have hmi : mineAt sh K q (rowW n ws) = (okPg sh q (ws pa.toNat) && decide (pgK sh q (ws pa.toNat) = 2) && decide (pgA sh q (ws pa.toNat) = K)) := by unfold mineAt; rw [hgq]
    obtain ⟨xw, hxw⟩ : ∃ xw, ws pa.toNat = xw := ⟨_, rfl⟩
    rw [hxw] at hrd0 hxc hU2 hmi
    have xrd : ∀ {L : List Hp} {H2 : Hp}, Sep L H2 → h ∈ L → H2 xb = some (.cells xc xT xf) := fun hS hm => hS.sb h hm xb _ hxh
    have rrd : ∀ {L : List Hp} {H2 : Hp}, Sep L H2 → h ∈ L → rd H2 xb (xo + pa.toNat) = some (.int .u64 xw) := fun hS hm => by rw [rd_of (xrd hS hm)]; exact hxc
    have hxm := xrd hS (by simp)
    have hrd := rrd hS (by simp)
    have hxo : H' xb = some (.cells xc xT xf) := hxm
    have nxb : (x = xb) = False ∧ (xb = x) = False := by
      have : xb ≠ x := fun e => by
        have hd := List.pairwise_iff_getElem.1 hS.dj 3 5 (by simp) (by simp) (by decide)
        rcases hd xb with h' | h'
        · have h' : h xb = none := h'
          rw [hxh] at h'; cases h'
        · have h' : sg x (.cells #[.int .i64 sh.p, .int .i64 sh.c, .int .i64 sh.m] 57 (0, 0)) xb = none := h'
          rw [e, sg_at] at h'; cases h'
      exact ⟨eq_false fun e => this e.symm, eq_false this⟩
    obtain ⟨nxx, nxx'⟩ := nxb
    simp only [e12, e10, e11, e1, e3, e5, e7, e8, e9, d1, hx1, hy1, r0, r1, r2, i0, i1, i2, wrap_w64, wf1, pn0, et, hq, wq, ↓D0, ↓D1, ↓D2, ↓D3, ↓D4, ↓D5, ↓D6, ↓D7, ↓D8, ↓D9, U0, U1, U2, U3, U4, U5, U6, U7, U8, U9, U10, ↓reduceIte, Nat.reduceAdd, Nat.reduceMul, Nat.reduceSub, Nat.reduceEqDiff, Nat.reduceBEq, Nat.reduceLeDiff, Nat.reduceLT, Int.reduceAdd, Int.reduceMul, Int.reduceSub, Int.reduceLT, Int.reduceLE, Int.reduceToNat, Int.reduceEq, Int.reduceNe, Int.reduceBEq, Int.reduceBNe, ne_eq, eq_self]
    refine draw_cut [(x, #[.int .i64 sh.p, .int .i64 sh.c, .int .i64 sh.m], []), (xb, xc, [])] (sfC sh i pg at' q xw K n cap (some ⟨xb, xo, none⟩) x y b kt (scB kt (Sc.new sh c K f) :: wB b s (rowW n ws) :: wR s (rowW n ws) :: h :: sg y (.cells #[.int .i64 c, .int .i64 kk, .int .i64 f] 95 (0, 0)) :: sg x (.cells #[.int .i64 sh.p, .int .i64 sh.c, .int .i64 sh.m] 57 (0, 0)) :: l)) (by simp only [hx1, hxm, ↓D0, ↓D1, ↓D2, ↓D3, ↓D4, ↓D5, ↓D6, ↓D7, ↓D8, ↓D9, U0, U1, U2, U3, U4, U5, U6, U7, U8, U9, U10, ↓reduceIte, Nat.reduceAdd, Nat.reduceMul, Nat.reduceSub, Nat.reduceEqDiff, Nat.reduceBEq, Nat.reduceLeDiff, Nat.reduceLT, Int.reduceAdd, Int.reduceMul, Int.reduceSub, Int.reduceLT, Int.reduceLE, Int.reduceToNat, Int.reduceEq, Int.reduceNe, Int.reduceBEq, Int.reduceBNe, ne_eq, eq_self]) ?_ ?_
    · simp only [e12, e10, e11, e1, e3, e5, e7, e8, e9, hx1, hxm, r0, r1, nxx, nxx', u_page, hpa, pa0, pa1, hrd, hxc, u_readpg sh q hU2, ↓e_dalt2, ↓D0, ↓D1, ↓D2, ↓D3, ↓D4, ↓D5, ↓D6, ↓D7, ↓D8, ↓D9, U0, U1, U2, U3, U4, U5, U6, U7, U8, U9, U10, ↓reduceIte, Nat.reduceAdd, Nat.reduceMul, Nat.reduceSub, Nat.reduceEqDiff, Nat.reduceBEq, Nat.reduceLeDiff, Nat.reduceLT, Int.reduceAdd, Int.reduceMul, Int.reduceSub, Int.reduceLT, Int.reduceLE, Int.reduceToNat, Int.reduceEq, Int.reduceNe, Int.reduceBEq, Int.reduceBNe, ne_eq, eq_self]
      refine ⟨⟨?_, ?_⟩, ?_⟩
      all_goals
        refine newB_intro fun pb hpb f5 f6 => ?_
        have hS2 := hS.new f5 (.cells #[.int .i64 0, .int .i64 0, .int .i64 0] 68 (0, 0))
        have hx2 := hS2.lk 6 rfl
        have hxm2 := xrd hS2 (by simp)
        have hrd2 := rrd hS2 (by simp)
        have hp2 := hS2.look
        have nxp : (x = pb) = False := f5 x (by rw [hx1]; rfl)
        have npx : (pb = x) = False := f6 x (by rw [hx1]; rfl)
        have nbp : (xb = pb) = False := f5 xb (by rw [hxm]; rfl)
        have npb : (pb = xb) = False := f6 xb (by rw [hxm]; rfl)
        have r1 := fun o n => rdn_of hx2 o n
        have hS3 := hS2.set (.cells #[.int .i64 (pgK sh q xw), .int .i64 (pgA sh q xw), .int .i64 (pgB sh q xw)] 68 (0, 0))
        have hx3 := hS3.lk 6 rfl
        have hxm3 := xrd hS3 (by simp)
        rw [Ev.upd_upd] at hS3
        simp only [e12, e10, e11, e1, e3, e5, e7, e8, e9, hx1, hxm, hx2, hxm2, hp2, r1, nxx, nxx', nxp, npx, nbp, npb, u_page, hpa, pa0, pa1, hrd2, hxc, u_readpg sh q hU2, Ev.upd_upd, ↓D0, ↓D1, ↓D2, ↓D3, ↓D4, ↓D5, ↓D6, ↓D7, ↓D8, ↓D9, U0, U1, U2, U3, U4, U5, U6, U7, U8, U9, U10, ↓reduceIte, Nat.reduceAdd, Nat.reduceMul, Nat.reduceSub, Nat.reduceEqDiff, Nat.reduceBEq, Nat.reduceLeDiff, Nat.reduceLT, Int.reduceAdd, Int.reduceMul, Int.reduceSub, Int.reduceLT, Int.reduceLE, Int.reduceToNat, Int.reduceEq, Int.reduceNe, Int.reduceBEq, Int.reduceBNe, ne_eq, eq_self]
        exact ⟨pb, by simp [gt, e12], by simp [gt, e10], by simp [gt, e11], by simp [gt], by simp [gt], by simp [gt], ⟨by simp [gt, e1], by simp [gt, e3], by simp [gt, e5], by simp [gt, e7], by simp [gt, e8], by simp [gt, e9]⟩, hS3⟩
    · rintro F' H' ⟨pb, e12, e10, e11, e13, e14, e15, ⟨e1, e3, e5, e7, e8, e9⟩, hS⟩
      have hp1 := hS.look
      have rp := fun o => rd_of hp1 o
      have ws1 : w64 (slots K - 1) = slots K - 1 := w64_eq (by omega) (by omega)
      simp only [e12, e10, e11, e13, e14, e15, e1, e3, e5, e7, e8, e9, u_slots, wrap_w64, ws1, ↓D0, ↓D1, ↓D2, ↓D3, ↓D4, ↓D5, ↓D6, ↓D7, ↓D8, ↓D9, U0, U1, U2, U3, U4, U5, U6, U7, U8, U9, U10, ↓reduceIte, Nat.reduceAdd, Nat.reduceMul, Nat.reduceSub, Nat.reduceEqDiff, Nat.reduceBEq, Nat.reduceLeDiff, Nat.reduceLT, Int.reduceAdd, Int.reduceMul, Int.reduceSub, Int.reduceLT, Int.reduceLE, Int.reduceToNat, Int.reduceEq, Int.reduceNe, Int.reduceBEq, Int.reduceBNe, ne_eq, eq_self]
      refine loop_intro (sfJ sh f i q xw (rowW n ws) pb K n cap (some ⟨xb, xo, none⟩) x y b kt (scB kt (Sc.new sh c K f) :: wB b s (rowW n ws) :: wR s (rowW n ws) :: h :: sg y (.cells #[.int .i64 c, .int .i64 kk, .int .i64 f] 95 (0, 0)) :: sg x (.cells #[.int .i64 sh.p, .int .i64 sh.c, .int .i64 sh.m] 57 (0, 0)) :: l)) (fun F' _ => (iv (gt F' 16) + 1).toNat)
        ⟨slots K - 1, pg, at', by omega, by omega, by omega, by omega, by omega, by omega, by simp [gt], by simp [gt, e12], by simp [gt, e10], by simp [gt, e11], by simp [gt, e13], by simp [gt, e14], by simp [gt, e15], ⟨by simp [gt, e1], by simp [gt, e3], by simp [gt, e5], by simp [gt, e7], by simp [gt, e8], by simp [gt, e9]⟩, .inr hF, by rw [show slots K - 1 + 1 = slots K by omega]; exact hF.within, hS⟩ ?_
      rintro F' H' ⟨j, pg, at', j0, j1, p0, p1, t0, t1, e16, e12, e10, e11, e13, e14, e15, ⟨e1, e3, e5, e7, e8, e9⟩, hmo, hW, hS⟩
      have hp1 := hS.look
      have rp := fun o => rd_of hp1 o
      cases hmine : mineAt sh K q (rowW n ws)
      · have hFi : Sc.First sh K f (rowW n ws) i pg at' := by
          rcases hmo with h | h
          · rw [hmine] at h; cases h
          · exact h.skip (.inl (by rw [hq]; exact hmine))
        rw [hmi] at hmine
        by_cases hj : 0 ≤ j
        · have d2 : decide (0 ≤ j) = true := decide_eq_true hj
          cases c1 : okPg sh q xw
          · simp only [e16, e12, e10, e11, e13, e14, e15, e1, e3, e5, e7, e8, e9, hp1, rp, d2, c1, wrap_w64, wi, ↓D0, ↓D1, ↓D2, ↓D3, ↓D4, ↓D5, ↓D6, ↓D7, ↓D8, ↓D9, U0, U1, U2, U3, U4, U5, U6, U7, U8, U9, U10, ↓reduceIte, Nat.reduceAdd, Nat.reduceMul, Nat.reduceSub, Nat.reduceEqDiff, Nat.reduceBEq, Nat.reduceLeDiff, Nat.reduceLT, Int.reduceAdd, Int.reduceMul, Int.reduceSub, Int.reduceLT, Int.reduceLE, Int.reduceToNat, Int.reduceEq, Int.reduceNe, Int.reduceBEq, Int.reduceBNe, ne_eq, eq_self]
            exact ⟨⟨i - 1, pg, at', by omega, by omega, p0, p1, t0, t1, by simp [gt], by simp [gt, e10], by simp [gt, e11], ⟨by simp [gt, e1], by simp [gt, e3], by simp [gt, e5], by simp [gt, e7], by simp [gt, e8], by simp [gt, e9]⟩, by rw [show i - 1 + 1 = i by omega]; exact hFi, hS.tail⟩, by simp [gt, iv, e12]; omega⟩
          · cases c2 : (pgK sh q xw == 2)
            · simp only [e16, e12, e10, e11, e13, e14, e15, e1, e3, e5, e7, e8, e9, hp1, rp, d2, c1, c2, wrap_w64, wi, ↓D0, ↓D1, ↓D2, ↓D3, ↓D4, ↓D5, ↓D6, ↓D7, ↓D8, ↓D9, U0, U1, U2, U3, U4, U5, U6, U7, U8, U9, U10, ↓reduceIte, Nat.reduceAdd, Nat.reduceMul, Nat.reduceSub, Nat.reduceEqDiff, Nat.reduceBEq, Nat.reduceLeDiff, Nat.reduceLT, Int.reduceAdd, Int.reduceMul, Int.reduceSub, Int.reduceLT, Int.reduceLE, Int.reduceToNat, Int.reduceEq, Int.reduceNe, Int.reduceBEq, Int.reduceBNe, ne_eq, eq_self]
              exact ⟨⟨i - 1, pg, at', by omega, by omega, p0, p1, t0, t1, by simp [gt], by simp [gt, e10], by simp [gt, e11], ⟨by simp [gt, e1], by simp [gt, e3], by simp [gt, e5], by simp [gt, e7], by simp [gt, e8], by simp [gt, e9]⟩, by rw [show i - 1 + 1 = i by omega]; exact hFi, hS.tail⟩, by simp [gt, iv, e12]; omega⟩
            · have c3 : (pgA sh q xw == K) = false := by
                rw [c1, decide_eq_true (beq_iff_eq.1 c2)] at hmine
                have : decide (pgA sh q xw = K) = false := by simpa using hmine
                exact beq_eq_false_iff_ne.2 (of_decide_eq_false this)
              simp only [e16, e12, e10, e11, e13, e14, e15, e1, e3, e5, e7, e8, e9, hp1, rp, d2, c1, c2, c3, wrap_w64, wi, ↓D0, ↓D1, ↓D2, ↓D3, ↓D4, ↓D5, ↓D6, ↓D7, ↓D8, ↓D9, U0, U1, U2, U3, U4, U5, U6, U7, U8, U9, U10, ↓reduceIte, Nat.reduceAdd, Nat.reduceMul, Nat.reduceSub, Nat.reduceEqDiff, Nat.reduceBEq, Nat.reduceLeDiff, Nat.reduceLT, Int.reduceAdd, Int.reduceMul, Int.reduceSub, Int.reduceLT, Int.reduceLE, Int.reduceToNat, Int.reduceEq, Int.reduceNe, Int.reduceBEq, Int.reduceBNe, ne_eq, eq_self]
              exact ⟨⟨i - 1, pg, at', by omega, by omega, p0, p1, t0, t1, by simp [gt], by simp [gt, e10], by simp [gt, e11], ⟨by simp [gt, e1], by simp [gt, e3], by simp [gt, e5], by simp [gt, e7], by simp [gt, e8], by simp [gt, e9]⟩, by rw [show i - 1 + 1 = i by omega]; exact hFi, hS.tail⟩, by simp [gt, iv, e12]; omega⟩
        · have d2 : decide (0 ≤ j) = false := decide_eq_false hj
          simp only [e16, e12, e10, e11, e13, e14, e15, e1, e3, e5, e7, e8, e9, hp1, rp, d2, wrap_w64, wi, ↓D0, ↓D1, ↓D2, ↓D3, ↓D4, ↓D5, ↓D6, ↓D7, ↓D8, ↓D9, U0, U1, U2, U3, U4, U5, U6, U7, U8, U9, U10, ↓reduceIte, Nat.reduceAdd, Nat.reduceMul, Nat.reduceSub, Nat.reduceEqDiff, Nat.reduceBEq, Nat.reduceLeDiff, Nat.reduceLT, Int.reduceAdd, Int.reduceMul, Int.reduceSub, Int.reduceLT, Int.reduceLE, Int.reduceToNat, Int.reduceEq, Int.reduceNe, Int.reduceBEq, Int.reduceBNe, ne_eq, eq_self]
          exact ⟨⟨i - 1, pg, at', by omega, by omega, p0, p1, t0, t1, by simp [gt], by simp [gt, e10], by simp [gt, e11], ⟨by simp [gt, e1], by simp [gt, e3], by simp [gt, e5], by simp [gt, e7], by simp [gt, e8], by simp [gt, e9]⟩, by rw [show i - 1 + 1 = i by omega]; exact hFi, hS.tail⟩, by simp [gt, iv, e12]; omega⟩
      · have hmine0 := hmine
        rw [hmi, Bool.and_eq_true, Bool.and_eq_true] at hmine
        obtain ⟨⟨c1, c2⟩, c3⟩ := hmine
        have c2 : (pgK sh q xw == 2) = true := beq_iff_eq.2 (of_decide_eq_true c2)
        have c3 : (pgA sh q xw == K) = true := beq_iff_eq.2 (of_decide_eq_true c3)
        by_cases hj : 0 ≤ j
        · have d2 : decide (0 ≤ j) = true := decide_eq_true hj
          have wj : w64 (j - 1) = j - 1 := w64_eq (by omega) (by omega)
          have hx1 := hS.lk 6 rfl
          have r1 := fun o n => rdn_of hx1 o n
          have sin := slot_in hof hm qb.1 qb.2 hj (by omega : j < 16)
          rw [hnn] at sin
          obtain ⟨sa, hsa⟩ : ∃ sa, slot sh.p sh.c sh.m q j = sa := ⟨_, rfl⟩
          rw [hsa] at sin
          have sa0 := sin.1
          have sa1 := sin.2
          have hgs : (rowW n ws).get (slot sh.p sh.c sh.m ((f + i) % sh.p) j) = ws sa.toNat := by rw [hq, hsa]; exact rowW_get2 (by omega)
          obtain ⟨ub, uo, hua, hrs⟩ := (hr.sub (hS.sb h (by simp))).at' (i := sa.toNat) (by omega)
          cases hua
          cases c4 : (ws sa.toNat == opn K)
          · have c5 : (ws sa.toNat == putSl 1 K) = false := c4
            have hne : (rowW n ws).get (slot sh.p sh.c sh.m ((f + i) % sh.p) j) ≠ opn K := by rw [hgs]; exact beq_eq_false_iff_ne.1 c4
            simp only [e16, e12, e10, e11, e13, e14, e15, e1, e3, e5, e7, e8, e9, hp1, rp, hx1, r1, d2, c1, c2, c3, u_slot, hsa, sa0, sa1, hrs, u_putsl, c5, wrap_w64, wj, ↓D0, ↓D1, ↓D2, ↓D3, ↓D4, ↓D5, ↓D6, ↓D7, ↓D8, ↓D9, U0, U1, U2, U3, U4, U5, U6, U7, U8, U9, U10, ↓reduceIte, Nat.reduceAdd, Nat.reduceMul, Nat.reduceSub, Nat.reduceEqDiff, Nat.reduceBEq, Nat.reduceLeDiff, Nat.reduceLT, Int.reduceAdd, Int.reduceMul, Int.reduceSub, Int.reduceLT, Int.reduceLE, Int.reduceToNat, Int.reduceEq, Int.reduceNe, Int.reduceBEq, Int.reduceBNe, ne_eq, eq_self]
            exact ⟨⟨j - 1, pg, at', by omega, by omega, p0, p1, t0, t1, by simp [gt], by simp [gt, e12], by simp [gt, e10], by simp [gt, e11], by simp [gt, e13], by simp [gt, e14], by simp [gt, e15], ⟨by simp [gt, e1], by simp [gt, e3], by simp [gt, e5], by simp [gt, e7], by simp [gt, e8], by simp [gt, e9]⟩, .inl hmine0, by rw [show j - 1 + 1 = j by omega]; exact hW.no hne, hS⟩, by simp [gt, iv, e16]; omega⟩
          · have c5 : (ws sa.toNat == putSl 1 K) = true := c4
            have heq : (rowW n ws).get (slot sh.p sh.c sh.m ((f + i) % sh.p) j) = opn K := by rw [hgs]; exact beq_iff_eq.1 c4
            simp only [e16, e12, e10, e11, e13, e14, e15, e1, e3, e5, e7, e8, e9, hp1, rp, hx1, r1, d2, c1, c2, c3, u_slot, hsa, sa0, sa1, hrs, u_putsl, c5, wrap_w64, wj, ↓D0, ↓D1, ↓D2, ↓D3, ↓D4, ↓D5, ↓D6, ↓D7, ↓D8, ↓D9, U0, U1, U2, U3, U4, U5, U6, U7, U8, U9, U10, ↓reduceIte, Nat.reduceAdd, Nat.reduceMul, Nat.reduceSub, Nat.reduceEqDiff, Nat.reduceBEq, Nat.reduceLeDiff, Nat.reduceLT, Int.reduceAdd, Int.reduceMul, Int.reduceSub, Int.reduceLT, Int.reduceLE, Int.reduceToNat, Int.reduceEq, Int.reduceNe, Int.reduceBEq, Int.reduceBNe, ne_eq, eq_self]
            exact ⟨⟨j - 1, q, j, by omega, by omega, by omega, by omega, by omega, by omega, by simp [gt], by simp [gt, e12], by simp [gt], by simp [gt], by simp [gt, e13], by simp [gt, e14], by simp [gt, e15], ⟨by simp [gt, e1], by simp [gt, e3], by simp [gt, e5], by simp [gt, e7], by simp [gt, e8], by simp [gt, e9]⟩, .inl hmine0, by rw [show j - 1 + 1 = j by omega, ← hq]; exact Sc.Within.yes hj j1 heq, hS⟩, by simp [gt, iv, e16]; omega⟩
        · have d2 : decide (0 ≤ j) = false := decide_eq_false hj
          simp only [e16, e12, e10, e11, e13, e14, e15, e1, e3, e5, e7, e8, e9, hp1, rp, d2, wrap_w64, wi, ↓D0, ↓D1, ↓D2, ↓D3, ↓D4, ↓D5, ↓D6, ↓D7, ↓D8, ↓D9, U0, U1, U2, U3, U4, U5, U6, U7, U8, U9, U10, ↓reduceIte, Nat.reduceAdd, Nat.reduceMul, Nat.reduceSub, Nat.reduceEqDiff, Nat.reduceBEq, Nat.reduceLeDiff, Nat.reduceLT, Int.reduceAdd, Int.reduceMul, Int.reduceSub, Int.reduceLT, Int.reduceLE, Int.reduceToNat, Int.reduceEq, Int.reduceNe, Int.reduceBEq, Int.reduceBNe, ne_eq, eq_self]
          exact ⟨⟨i - 1, pg, at', by omega, by omega, p0, p1, t0, t1, by simp [gt], by simp [gt, e10], by simp [gt, e11], ⟨by simp [gt, e1], by simp [gt, e3], by simp [gt, e5], by simp [gt, e7], by simp [gt, e8], by simp [gt, e9]⟩, by rw [show i - 1 + 1 = i by omega]; exact Sc.Within.done (by rw [show (0 : Int) = j + 1 by omega]; exact hW) h1 (by rw [hq]; exact hmine0), hS.tail⟩, by simp [gt, iv, e12]; omega⟩
  have hi1 : i = -1 := by omega
  have d1 : decide (0 ≤ i) = false := decide_eq_false hi
  subst hi1
  have hF : Sc.First sh K f (rowW n ws) 0 pg at' := hF
  simp only [e12, e10, e11, e1, e3, e5, e7, e8, e9, d1, ↓D0, ↓D1, ↓D2, ↓D3, ↓D4, ↓D5, ↓D6, ↓D7, ↓D8, ↓D9, U0, U1, U2, U3, U4, U5, U6, U7, U8, U9, U10, ↓reduceIte, Nat.reduceAdd, Nat.reduceMul, Nat.reduceSub, Nat.reduceEqDiff, Nat.reduceBEq, Nat.reduceLeDiff, Nat.reduceLT, Int.reduceAdd, Int.reduceMul, Int.reduceSub, Int.reduceLT, Int.reduceLE, Int.reduceToNat, Int.reduceEq, Int.reduceNe, Int.reduceBEq, Int.reduceBNe, ne_eq, eq_self]
  have hnd : (Sc.new sh c K f).dn = false := by
    show (!(good sh c K && decide (0 ≤ page sh.p sh.c sh.m f))) = false
    unfold good
    rw [status_yes hm hst.1 hst.2, page_yes hm hpg.1 hpg.2, decide_eq_true hst.1, decide_eq_true sp, decide_eq_true (show 0 ≤ sh.c + f by omega)]; rfl
  have wm1 : w64 (33 * sh.p) = 33 * sh.p := w64_eq (by omega) (by omega)
  have wm2 : w64 (33 * sh.p + 2) = 33 * sh.p + 2 := w64_eq (by omega) (by omega)
  refine loop_intro (sf2 sh c f (rowW n ws) pg at' K n cap a x y b kt s (h :: sg y (.cells #[.int .i64 c, .int .i64 kk, .int .i64 f] 95 (0, 0)) :: sg x (.cells #[.int .i64 sh.p, .int .i64 sh.c, .int .i64 sh.m] 57 (0, 0)) :: l)) (fun F' _ => (33 * sh.p + 2 - iv (gt F' 17)).toNat)
    ⟨0, Sc.new sh c K f, rowW n ws, by omega, by omega, rfl, by simp [gt, e10], by simp [gt, e11], ⟨by simp [gt, e1], by simp [gt, e3], by simp [gt, e5], by simp [gt, e7], by simp [gt, e8], by simp [gt, e9]⟩, Sc.Al.start (Sc.new_wf sh c K f) hnd rfl rfl rfl rfl, hof, by have := Sc.left_le (Sc.new_wf sh c K f) (by show 0 ≤ sh.p; omega); have e : (Sc.new sh c K f).s.p = sh.p := rfl; rw [e] at this; omega, hS⟩ ?_
  rintro F' H' ⟨i, t, w, h0, h1, e17, e10, e11, ⟨e1, e3, e5, e7, e8, e9⟩, hA, hofw, hlf, hS⟩
  have hx1 := hS.lk 5 rfl
  have r0 := fun o => rd_of hx1 o
  by_cases hlt : i < 33 * sh.p + 2
  · have d1 : decide (i < 33 * sh.p + 2) = true := decide_eq_true hlt
    have wi : w64 (i + 1) = i + 1 := w64_eq (by omega) (by omega)
    have l2 := Sc.left_step (w := w) hA.wf hlf
    simp only [e17, e10, e11, e1, e3, e5, e7, e8, e9, d1, hx1, r0, wrap_w64, wm1, wm2, ↓D0, ↓D1, ↓D2, ↓D3, ↓D4, ↓D5, ↓D6, ↓D7, ↓D8, ↓D9, U0, U1, U2, U3, U4, U5, U6, U7, U8, U9, U10, ↓reduceIte, Nat.reduceAdd, Nat.reduceMul, Nat.reduceSub, Nat.reduceEqDiff, Nat.reduceBEq, Nat.reduceLeDiff, Nat.reduceLT, Int.reduceAdd, Int.reduceMul, Int.reduceSub, Int.reduceLT, Int.reduceLE, Int.reduceToNat, Int.reduceEq, Int.reduceNe, Int.reduceBEq, Int.reduceBNe, ne_eq, eq_self]
    refine callT_of (c_scstep hA.wf (fun _ => by rw [hA.hs]; exact hofw) hS) ?_
    rintro v H' ⟨rfl, hS⟩
    simp only [e17, e10, e11, e1, e3, e5, e7, e8, e9, wrap_w64, wi, ↓D0, ↓D1, ↓D2, ↓D3, ↓D4, ↓D5, ↓D6, ↓D7, ↓D8, ↓D9, U0, U1, U2, U3, U4, U5, U6, U7, U8, U9, U10, ↓reduceIte, Nat.reduceAdd, Nat.reduceMul, Nat.reduceSub, Nat.reduceEqDiff, Nat.reduceBEq, Nat.reduceLeDiff, Nat.reduceLT, Int.reduceAdd, Int.reduceMul, Int.reduceSub, Int.reduceLT, Int.reduceLE, Int.reduceToNat, Int.reduceEq, Int.reduceNe, Int.reduceBEq, Int.reduceBNe, ne_eq, eq_self]
    exact ⟨⟨i + 1, (t.step w).1, (t.step w).2, by omega, by omega, by simp [gt], by simp [gt, e10], by simp [gt, e11], ⟨by simp [gt, e1], by simp [gt, e3], by simp [gt, e5], by simp [gt, e7], by simp [gt, e8], by simp [gt, e9]⟩, hA.step, Sc.step_of hofw, by omega, hS⟩, by simp [gt, iv, e17]; omega⟩
  have d1 : decide (i < 33 * sh.p + 2) = false := decide_eq_false hlt
  have hd : t.dn = true := Sc.left_dn hA.wf (by have := Sc.left_nn hA.wf; omega)
  obtain ⟨hfd, hpgw⟩ := hA.first hd (by omega) hF
  simp only [e17, e10, e11, e1, e3, e5, e7, e8, e9, d1, hx1, r0, wrap_w64, wm1, wm2, ↓D0, ↓D1, ↓D2, ↓D3, ↓D4, ↓D5, ↓D6, ↓D7, ↓D8, ↓D9, U0, U1, U2, U3, U4, U5, U6, U7, U8, U9, U10, ↓reduceIte, Nat.reduceAdd, Nat.reduceMul, Nat.reduceSub, Nat.reduceEqDiff, Nat.reduceBEq, Nat.reduceLeDiff, Nat.reduceLT, Int.reduceAdd, Int.reduceMul, Int.reduceSub, Int.reduceLT, Int.reduceLE, Int.reduceToNat, Int.reduceEq, Int.reduceNe, Int.reduceBEq, Int.reduceBNe, ne_eq, eq_self]
  refine callT_of (c_scfound (fun _ => ⟨by rw [hA.hs]; omega, by rw [hA.hf]; have := hA.many; omega, by rw [hA.hf]; have := hA.many; omega⟩) hS) ?_
  rintro v H' ⟨rfl, hS⟩
  simp only [e17, e10, e11, e1, e3, e5, e7, e8, e9, ↓D0, ↓D1, ↓D2, ↓D3, ↓D4, ↓D5, ↓D6, ↓D7, ↓D8, ↓D9, U0, U1, U2, U3, U4, U5, U6, U7, U8, U9, U10, ↓reduceIte, Nat.reduceAdd, Nat.reduceMul, Nat.reduceSub, Nat.reduceEqDiff, Nat.reduceBEq, Nat.reduceLeDiff, Nat.reduceLT, Int.reduceAdd, Int.reduceMul, Int.reduceSub, Int.reduceLT, Int.reduceLE, Int.reduceToNat, Int.reduceEq, Int.reduceNe, Int.reduceBEq, Int.reduceBNe, ne_eq, eq_self]
  refine callT_of (c_scdone hS) ?_
  rintro v H' ⟨rfl, hS⟩
  have hrest := hA.rest
  have hnw : w.n = n := hA.hn
  have hat : t.fd = true → t.at' = slot sh.p sh.c sh.m pg at' := fun h => by unfold Sc.at'; rw [(hpgw h).1, (hpgw h).2, hA.hs]
  have key : ∀ (j : Nat), j < n → (w.ws j != ws j) = false ∨ ((w.ws j != ws j) = true ∧ t.fd = true ∧ ((j : Int) == slot sh.p sh.c sh.m pg at') = true) := fun j hj => by
    cases hb : (w.ws j != ws j)
    · exact .inl rfl
    · right
      have hb' : w.ws j ≠ ws j := by simpa using hb
      have e0 : (rowW n ws).ws j = ws j := by show (if _ then _ else _) = _; rw [if_pos hj]
      rcases hrest j with h1 | ⟨h1, h2, h3⟩
      · rw [e0] at h1; exact absurd h1 hb'
      · refine ⟨rfl, h1, ?_⟩
        rw [hat h1] at h2
        obtain ⟨⟨y1, y2, y3, y4, y5, y6⟩, -⟩ := hA.yes h1
        have hpw := hpgw h1
        have hsin : 0 ≤ slot sh.p sh.c sh.m pg at' := by
          have hb2 := hmd (t.f + t.many)
          have : t.pg = (t.f + t.many) % t.s.p := rfl
          rw [hA.hs] at this
          exact (slot_in hof hm (by omega) (by omega) (by omega) (by omega)).1
        exact beq_iff_eq.2 (by omega)
  cases hok : t.fd
  · have hw1 : decide (0 ≤ pg) = false := by rw [← hfd, hok]
    simp only [e17, e10, e11, e1, e3, e5, e7, e8, e9, hd, hok, hw1, ↓D0, ↓D1, ↓D2, ↓D3, ↓D4, ↓D5, ↓D6, ↓D7, ↓D8, ↓D9, U0, U1, U2, U3, U4, U5, U6, U7, U8, U9, U10, ↓reduceIte, Nat.reduceAdd, Nat.reduceMul, Nat.reduceSub, Nat.reduceEqDiff, Nat.reduceBEq, Nat.reduceLeDiff, Nat.reduceLT, Int.reduceAdd, Int.reduceMul, Int.reduceSub, Int.reduceLT, Int.reduceLE, Int.reduceToNat, Int.reduceEq, Int.reduceNe, Int.reduceBEq, Int.reduceBNe, ne_eq, eq_self]
    refine callT_of (c_all (by omega) hS.tail) ?_
    rintro v H' ⟨a2, cap2, h2, rfl, hr2, hS⟩
    rw [hnw] at hr2
    simp only [e17, e10, e11, e1, e3, e5, e7, e8, e9, hnw, ↓D0, ↓D1, ↓D2, ↓D3, ↓D4, ↓D5, ↓D6, ↓D7, ↓D8, ↓D9, U0, U1, U2, U3, U4, U5, U6, U7, U8, U9, U10, ↓reduceIte, Nat.reduceAdd, Nat.reduceMul, Nat.reduceSub, Nat.reduceEqDiff, Nat.reduceBEq, Nat.reduceLeDiff, Nat.reduceLT, Int.reduceAdd, Int.reduceMul, Int.reduceSub, Int.reduceLT, Int.reduceLE, Int.reduceToNat, Int.reduceEq, Int.reduceNe, Int.reduceBEq, Int.reduceBNe, ne_eq, eq_self]
    refine loop_intro (sf3 pg at' false n cap cap2 a a2 x (h2 :: wB b s w :: wR s w :: h :: sg y (.cells #[.int .i64 c, .int .i64 kk, .int .i64 f] 95 (0, 0)) :: sg x (.cells #[.int .i64 sh.p, .int .i64 sh.c, .int .i64 sh.m] 57 (0, 0)) :: l)) (fun F' _ => (n - iv (gt F' 22)).toNat)
      ⟨0, by omega, rfl, by simp [gt, e10], by simp [gt, e11], by simp [gt], ⟨by simp [gt, e1], by simp [gt, e3], by simp [gt]⟩, hS⟩ ?_
    rintro F' H' ⟨j, hj, e22, e10, e11, e20, ⟨e1, e3, e21⟩, hS⟩
    by_cases hlt : j < n
    · have d1 : decide ((j : Int) < (n : Int)) = true := decide_eq_true (by omega)
      have d2 : (0 : Int) ≤ (j : Int) := by omega
      have d3 : (j : Int) < (n : Int) := by omega
      have wj : w64 ((j : Int) + 1) = ((j + 1 : Nat) : Int) := by rw [w64_eq (by omega) (by omega)]; omega
      obtain ⟨xb, xo, rfl, hrd⟩ := (hr.sub (hS.sb h (by simp))).at' hlt
      obtain ⟨yb, yo, rfl, hrd2⟩ := (hr2.sub (hS.sb h2 (by simp))).at' hlt
      have hx1 := hS.lk 5 rfl
      have r1 := fun o n => rdn_of hx1 o n
      rcases key j hlt with hk | ⟨hk, hk2, hk3⟩
      · simp only [e22, e10, e11, e20, e1, e3, e21, d1, d2, d3, hrd, hrd2, hk, wrap_w64, wj, Int.toNat_natCast, ↓D0, ↓D1, ↓D2, ↓D3, ↓D4, ↓D5, ↓D6, ↓D7, ↓D8, ↓D9, U0, U1, U2, U3, U4, U5, U6, U7, U8, U9, U10, ↓reduceIte, Nat.reduceAdd, Nat.reduceMul, Nat.reduceSub, Nat.reduceEqDiff, Nat.reduceBEq, Nat.reduceLeDiff, Nat.reduceLT, Int.reduceAdd, Int.reduceMul, Int.reduceSub, Int.reduceLT, Int.reduceLE, Int.reduceToNat, Int.reduceEq, Int.reduceNe, Int.reduceBEq, Int.reduceBNe, ne_eq, eq_self]
        exact ⟨⟨j + 1, by omega, rfl, by simp [gt, e10], by simp [gt, e11], by simp [gt, e20], ⟨by simp [gt, e1], by simp [gt, e3], by simp [gt, e21]⟩, hS⟩, by simp [gt, iv, e22]; omega⟩
      · rw [hok] at hk2; cases hk2
    · have hin : j = n := by omega
      have hSe := hS
      have d1 : decide ((j : Int) < (n : Int)) = false := decide_eq_false (by omega)
      simp only [e22, e10, e11, e20, e1, e3, e21, d1, ↓D0, ↓D1, ↓D2, ↓D3, ↓D4, ↓D5, ↓D6, ↓D7, ↓D8, ↓D9, U0, U1, U2, U3, U4, U5, U6, U7, U8, U9, U10, ↓reduceIte, Nat.reduceAdd, Nat.reduceMul, Nat.reduceSub, Nat.reduceEqDiff, Nat.reduceBEq, Nat.reduceLeDiff, Nat.reduceLT, Int.reduceAdd, Int.reduceMul, Int.reduceSub, Int.reduceLT, Int.reduceLE, Int.reduceToNat, Int.reduceEq, Int.reduceNe, Int.reduceBEq, Int.reduceBNe, ne_eq, eq_self]
      exact hSe.tail.tail.tail.p2.tail.p1.tail
  · have hw1 : decide (0 ≤ pg) = true := by rw [← hfd, hok]
    have hpw1 : (t.pg != pg) = false := by rw [(hpgw hok).1]; simp
    have hpw2 : (t.i != at') = false := by rw [(hpgw hok).2]; simp
    simp only [e17, e10, e11, e1, e3, e5, e7, e8, e9, hd, hok, hw1, hpw1, hpw2, ↓D0, ↓D1, ↓D2, ↓D3, ↓D4, ↓D5, ↓D6, ↓D7, ↓D8, ↓D9, U0, U1, U2, U3, U4, U5, U6, U7, U8, U9, U10, ↓reduceIte, Nat.reduceAdd, Nat.reduceMul, Nat.reduceSub, Nat.reduceEqDiff, Nat.reduceBEq, Nat.reduceLeDiff, Nat.reduceLT, Int.reduceAdd, Int.reduceMul, Int.reduceSub, Int.reduceLT, Int.reduceLE, Int.reduceToNat, Int.reduceEq, Int.reduceNe, Int.reduceBEq, Int.reduceBNe, ne_eq, eq_self]
    refine callT_of (c_all (by omega) hS.tail) ?_
    rintro v H' ⟨a2, cap2, h2, rfl, hr2, hS⟩
    rw [hnw] at hr2
    simp only [e17, e10, e11, e1, e3, e5, e7, e8, e9, hnw, ↓D0, ↓D1, ↓D2, ↓D3, ↓D4, ↓D5, ↓D6, ↓D7, ↓D8, ↓D9, U0, U1, U2, U3, U4, U5, U6, U7, U8, U9, U10, ↓reduceIte, Nat.reduceAdd, Nat.reduceMul, Nat.reduceSub, Nat.reduceEqDiff, Nat.reduceBEq, Nat.reduceLeDiff, Nat.reduceLT, Int.reduceAdd, Int.reduceMul, Int.reduceSub, Int.reduceLT, Int.reduceLE, Int.reduceToNat, Int.reduceEq, Int.reduceNe, Int.reduceBEq, Int.reduceBNe, ne_eq, eq_self]
    refine loop_intro (sf3 pg at' true n cap cap2 a a2 x (h2 :: wB b s w :: wR s w :: h :: sg y (.cells #[.int .i64 c, .int .i64 kk, .int .i64 f] 95 (0, 0)) :: sg x (.cells #[.int .i64 sh.p, .int .i64 sh.c, .int .i64 sh.m] 57 (0, 0)) :: l)) (fun F' _ => (n - iv (gt F' 22)).toNat)
      ⟨0, by omega, rfl, by simp [gt, e10], by simp [gt, e11], by simp [gt], ⟨by simp [gt, e1], by simp [gt, e3], by simp [gt]⟩, hS⟩ ?_
    rintro F' H' ⟨j, hj, e22, e10, e11, e20, ⟨e1, e3, e21⟩, hS⟩
    by_cases hlt : j < n
    · have d1 : decide ((j : Int) < (n : Int)) = true := decide_eq_true (by omega)
      have d2 : (0 : Int) ≤ (j : Int) := by omega
      have d3 : (j : Int) < (n : Int) := by omega
      have wj : w64 ((j : Int) + 1) = ((j + 1 : Nat) : Int) := by rw [w64_eq (by omega) (by omega)]; omega
      obtain ⟨xb, xo, rfl, hrd⟩ := (hr.sub (hS.sb h (by simp))).at' hlt
      obtain ⟨yb, yo, rfl, hrd2⟩ := (hr2.sub (hS.sb h2 (by simp))).at' hlt
      have hx1 := hS.lk 5 rfl
      have r1 := fun o n => rdn_of hx1 o n
      rcases key j hlt with hk | ⟨hk, hk2, hk3⟩
      · simp only [e22, e10, e11, e20, e1, e3, e21, d1, d2, d3, hrd, hrd2, hk, wrap_w64, wj, Int.toNat_natCast, ↓D0, ↓D1, ↓D2, ↓D3, ↓D4, ↓D5, ↓D6, ↓D7, ↓D8, ↓D9, U0, U1, U2, U3, U4, U5, U6, U7, U8, U9, U10, ↓reduceIte, Nat.reduceAdd, Nat.reduceMul, Nat.reduceSub, Nat.reduceEqDiff, Nat.reduceBEq, Nat.reduceLeDiff, Nat.reduceLT, Int.reduceAdd, Int.reduceMul, Int.reduceSub, Int.reduceLT, Int.reduceLE, Int.reduceToNat, Int.reduceEq, Int.reduceNe, Int.reduceBEq, Int.reduceBNe, ne_eq, eq_self]
        exact ⟨⟨j + 1, by omega, rfl, by simp [gt, e10], by simp [gt, e11], by simp [gt, e20], ⟨by simp [gt, e1], by simp [gt, e3], by simp [gt, e21]⟩, hS⟩, by simp [gt, iv, e22]; omega⟩
      · simp only [e22, e10, e11, e20, e1, e3, e21, d1, d2, d3, hrd, hrd2, hk, hk3, hx1, r1, u_slot, wrap_w64, wj, Int.toNat_natCast, ↓D0, ↓D1, ↓D2, ↓D3, ↓D4, ↓D5, ↓D6, ↓D7, ↓D8, ↓D9, U0, U1, U2, U3, U4, U5, U6, U7, U8, U9, U10, ↓reduceIte, Nat.reduceAdd, Nat.reduceMul, Nat.reduceSub, Nat.reduceEqDiff, Nat.reduceBEq, Nat.reduceLeDiff, Nat.reduceLT, Int.reduceAdd, Int.reduceMul, Int.reduceSub, Int.reduceLT, Int.reduceLE, Int.reduceToNat, Int.reduceEq, Int.reduceNe, Int.reduceBEq, Int.reduceBNe, ne_eq, eq_self]
        exact ⟨⟨j + 1, by omega, rfl, by simp [gt, e10], by simp [gt, e11], by simp [gt, e20], ⟨by simp [gt, e1], by simp [gt, e3], by simp [gt, e21]⟩, hS⟩, by simp [gt, iv, e22]; omega⟩
    · have hin : j = n := by omega
      have hSe := hS
      have d1 : decide ((j : Int) < (n : Int)) = false := decide_eq_false (by omega)
      simp only [e22, e10, e11, e20, e1, e3, e21, d1, ↓D0, ↓D1, ↓D2, ↓D3, ↓D4, ↓D5, ↓D6, ↓D7, ↓D8, ↓D9, U0, U1, U2, U3, U4, U5, U6, U7, U8, U9, U10, ↓reduceIte, Nat.reduceAdd, Nat.reduceMul, Nat.reduceSub, Nat.reduceEqDiff, Nat.reduceBEq, Nat.reduceLeDiff, Nat.reduceLT, Int.reduceAdd, Int.reduceMul, Int.reduceSub, Int.reduceLT, Int.reduceLE, Int.reduceToNat, Int.reduceEq, Int.reduceNe, Int.reduceBEq, Int.reduceBNe, ne_eq, eq_self]
      exact hSe.tail.tail.tail.p2.tail.p1.tail
end

theorem l_slotfirst {W : World} {a : Option Addr} {n cap : Nat} {ws : Nat → Int} (p q m : Int) (hp : -9223372036854775808 ≤ p ∧ p ≤ 9223372036854775807) (hq : -9223372036854775808 ≤ q ∧ q ≤ 9223372036854775807) (hm : -9223372036854775808 ≤ m ∧ m ≤ 9223372036854775807)
    (hn : n ≤ 9223372036854775807) (hr : RowU (memOf W) a n ws) (hU : ∀ i, i < n → IntKind.u64.has (ws i)) (c kk f : Int) (hc : -9223372036854775808 ≤ c ∧ c ≤ 9223372036854775807) (hk : -9223372036854775808 ≤ kk ∧ kk ≤ 9223372036854775807) (hf : -9223372036854775808 ≤ f ∧ f ≤ 9223372036854775807) :
    CallP Try.prog W 23 #[.agg #[.int .i64 p, .int .i64 q, .int .i64 m], .slice a n cap, .agg #[.int .i64 c, .int .i64 kk, .int .i64 f]] (memOf W) fun v H' => v = .bool true ∧ Sub (memOf W) H' :=
  (c_slotfirst ⟨p, q, m⟩ c kk f hk hr (fun i hi => u64_bd (hU i hi)) (Sep.one _)).mono fun v H' ⟨h1, h2⟩ => ⟨h1, h2.head⟩
end Go.Proofs.Ytfapipblclikbaa
