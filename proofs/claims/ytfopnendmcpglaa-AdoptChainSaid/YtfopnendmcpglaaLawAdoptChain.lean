/-
  AdoptChain, walked: whoever adopts is killed at any step; the last one frees all. Conditions: none.
-/
import Derived.Test.YtfopnendmcpglaaCodeAllotmentlaw18
import Derived.Test.YtfopnendmcpglaaAdoptK
import Derived.Test.YtfopnendmcpglaaSoundV
import Derived.Test.YtfopnendmcpglaaBlk
import Derived.Test.YtfopnendmcpglaaHold
import Derived.Test.YtfopnendmcpglaaRowV
import Derived.Test.YtfopnendmcpglaaLawAdoptOthers
set_option linter.unusedVariables false
set_option linter.unusedSectionVars false
set_option linter.unusedSimpArgs false
set_option maxRecDepth 8000
namespace Go.Proofs.Ytfopnendmcpglaa
open Go Go.Ev Go.Pl Go.Ma

theorem blks_sta {s : Sh} {ws : Nat → Int} {c y : Int} (hm : may s.p s.c s.m = true) (h0 : 0 ≤ c) (h1 : c < s.c) {n : Nat} (hn : (n : Int) ≤ s.p) : blks s (upW ws (status s.p s.c s.m c) y) n = blks s ws n :=
  blks_congr fun p hp => blkPg_congr (by rw [pg_st hm h0 h1 (by omega) (by omega)]) (fun _ => by rw [pg_st hm h0 h1 (by omega) (by omega)]) fun _ i hi => by rw [sl_st hm h0 h1 (by omega) (by omega)]
theorem blks_row {sh : Sh} {n : Nat} {ws : Nat → Int} (hm : may sh.p sh.c sh.m = true) (hn : (n : Int) = words sh.p sh.c sh.m) {k : Nat} (hk : (k : Int) ≤ sh.p) : blks sh (rowW n ws).ws k = blks sh ws k := by
  have hb := (may_iff _ _ _).1 hm
  have hw := words_ge hm hn
  have key : ∀ j : Nat, j < n → (rowW n ws).ws j = ws j := fun j hj => if_pos hj
  have hp : ∀ q : Nat, (q : Int) < sh.p → pgAt sh (rowW n ws).ws q = pgAt sh ws q := fun q hq => by unfold pgAt; rw [page_yes hm (by omega) hq]; exact key _ (by omega)
  refine blks_congr fun p hp' => blkPg_congr (by rw [hp p (by omega)]) (fun _ => by rw [hp p (by omega)]) fun _ i hi => ?_
  rw [show slAt sh (rowW n ws).ws p i = slAt sh ws p i from key _ (by omega)]
section
variable {W : World} {H h : Hp} {l : List Hp} {n m cap cap2 : Nat} {a a2 : Option Addr} {ws : Nat → Int} {ks : Nat → Int}
def acG (x b n m cap cap2 : Nat) (a a2 : Option Addr) (F' : Fr) : Prop := gt F' 1 = .slice a n cap ∧ gt F' 2 = .slice a2 m cap2 ∧ gt F' 3 = .pointer (some ⟨x, 0, none⟩) ∧ gt F' 7 = .pointer (some ⟨b, 0, none⟩)
def acA (sh : Sh) (ws0 : Nat → Int) (x b s n m cap cap2 : Nat) (a a2 : Option Addr) (L : List Hp) (F' : Fr) (H' : Hp) : Prop :=
  ∃ (c : Nat) (w : Wd), 1 ≤ c ∧ (c : Int) ≤ sh.c ∧ gt F' 8 = .int .i64 (c : Int) ∧ acG x b n m cap cap2 a a2 F' ∧ w.n = n ∧ w.of sh ∧ Snd sh w.ws ∧ (∀ k : Nat, (k : Int) ≤ sh.p → blks sh w.ws k = blks sh ws0 k) ∧ (∀ y : Int, 1 ≤ y → y < (c : Int) → w.get y = putSt 1 0) ∧ Sep (wB b s w :: wR s w :: L) H'
def acH (sh : Sh) (N : Int) (x b n m cap cap2 : Nat) (a a2 : Option Addr) (F' : Fr) : Prop := acG x b n m cap cap2 a a2 F' ∧ gt F' 9 = .int .i64 (sh.c - 1) ∧ gt F' 10 = .int .i64 N
def acB (sh : Sh) (A : Nat → Int) (N : Int) (x b s n m cap cap2 : Nat) (a a2 : Option Addr) (L : List Hp) (F' : Fr) (H' : Hp) : Prop :=
  ∃ (c : Nat) (w : Wd), 1 ≤ c ∧ (c : Int) ≤ sh.c - 1 ∧ gt F' 11 = .int .i64 (c : Int) ∧ acH sh N x b n m cap cap2 a a2 F' ∧ w.n = n ∧ Stg sh A c w ∧ Sep (wB b s w :: wR s w :: L) H'
def acC (sh : Sh) (A : Nat → Int) (N M : Int) (c : Nat) (w0 : Wd) (k x b s n m cap cap2 : Nat) (a a2 : Option Addr) (L : List Hp) (F' : Fr) (H' : Hp) : Prop :=
  ∃ (i : Int) (t : Ad) (w : Wd), 0 ≤ i ∧ i ≤ M ∧ gt F' 14 = .int .i64 i ∧ gt F' 13 = .int .i64 M ∧ gt F' 12 = .pointer (some ⟨k, 0, none⟩) ∧ gt F' 11 = .int .i64 (c : Int) ∧ acH sh N x b n m cap cap2 a a2 F' ∧ w.n = n ∧ Run sh A c 0 w0 t w ∧ Sep (adB k t :: wB b s w :: wR s w :: L) H'
/-- The last one's stages. -/
def acS (sh : Sh) (A : Nat → Int) (d : Nat) (w : Wd) : Prop := (d = 0 ∧ Stg sh A (sh.c - 1) w) ∨ (1 ≤ d ∧ Lst sh A d w)
def acD (sh : Sh) (A : Nat → Int) (N : Int) (x b s n m cap cap2 : Nat) (a a2 : Option Addr) (L : List Hp) (F' : Fr) (H' : Hp) : Prop :=
  ∃ (d : Nat) (w : Wd), (d : Int) ≤ sh.c - 1 ∧ gt F' 15 = .int .i64 (d : Int) ∧ acH sh N x b n m cap cap2 a a2 F' ∧ w.n = n ∧ acS sh A d w ∧ Sep (wB b s w :: wR s w :: L) H'
def acE (sh : Sh) (B : Nat → Int) (N : Int) (d : Nat) (w0 : Wd) (k x b s n m cap cap2 : Nat) (a a2 : Option Addr) (L : List Hp) (F' : Fr) (H' : Hp) : Prop :=
  ∃ (i : Int) (t : Ad) (w : Wd), 0 ≤ i ∧ i ≤ N ∧ gt F' 17 = .int .i64 i ∧ gt F' 16 = .pointer (some ⟨k, 0, none⟩) ∧ gt F' 15 = .int .i64 (d : Int) ∧ acH sh N x b n m cap cap2 a a2 F' ∧ w.n = n ∧ Run sh B (sh.c - 1) d w0 t w ∧ t.left ≤ max 0 (N - i) ∧ Sep (adB k t :: wB b s w :: wR s w :: L) H'
def acF (sh : Sh) (N : Int) (x b n m cap cap2 cap3 : Nat) (a a2 a3 : Option Addr) (L : List Hp) (F' : Fr) (H' : Hp) : Prop :=
  ∃ i : Int, 0 ≤ i ∧ i ≤ sh.p * 64 ∧ gt F' 21 = .int .i64 i ∧ gt F' 20 = .slice a3 n cap3 ∧ acH sh N x b n m cap cap2 a a2 F' ∧ Sep L H'
set_option maxHeartbeats 8000000 in
theorem c_adoptchain (sh : Sh) (hmm : m ≤ 9223372036854775807) (hr : RowU h a n ws) (hU : ∀ i, i < n → U (ws i)) (hv : RowV h a2 m (fun i => .int .u16 (ks i))) (hk : ∀ i, i < m → 0 ≤ ks i ∧ ks i ≤ 65535) (hS : Sep (h :: l) H) :
    CallP Try.prog W 5 #[.agg #[.int .i64 sh.p, .int .i64 sh.c, .int .i64 sh.m], .slice a n cap, .slice a2 m cap2] H fun v H' => v = .bool true ∧ Sep (h :: l) H' := by
  refine CallP.of mixed Try.func5 tr5 (by show 3 ≤ _; decide) fun W _ => ?_
  simp only [↓D0, ↓D1, ↓D2, ↓D3, ↓D4, ↓D5, ↓D6, ↓D7, ↓D8, ↓D9, ↓D10, U0, U1, U2, U3, U4, U5, U6, U7, U8, U9, U10, ↓reduceIte, Nat.reduceAdd, Nat.reduceMul, Nat.reduceSub, Nat.reduceEqDiff, Nat.reduceBEq, Nat.reduceLeDiff, Nat.reduceLT, Int.reduceAdd, Int.reduceMul, Int.reduceSub, Int.reduceLT, Int.reduceLE, Int.reduceToNat, Int.reduceEq, Int.reduceNe, Int.reduceBEq, Int.reduceBNe, ne_eq, eq_self]
  refine newB_intro fun x hx f1 f2 => ?_
  simp only [↓D0, ↓D1, ↓D2, ↓D3, ↓D4, ↓D5, ↓D6, ↓D7, ↓D8, ↓D9, ↓D10, U0, U1, U2, U3, U4, U5, U6, U7, U8, U9, U10, ↓reduceIte, Nat.reduceAdd, Nat.reduceMul, Nat.reduceSub, Nat.reduceEqDiff, Nat.reduceBEq, Nat.reduceLeDiff, Nat.reduceLT, Int.reduceAdd, Int.reduceMul, Int.reduceSub, Int.reduceLT, Int.reduceLE, Int.reduceToNat, Int.reduceEq, Int.reduceNe, Int.reduceBEq, Int.reduceBNe, ne_eq, eq_self]
  have hS := hS.new f1 (.cells #[.int .i64 sh.p, .int .i64 sh.c, .int .i64 sh.m] 23 (0, 0))
  refine callT_of (c_awake18 hS) ?_
  rintro v H' ⟨rfl, hS⟩
  have hx1 := hS.look
  have r0 := fun o => rd_of hx1 o
  have r1 := fun o n => rdn_of hx1 o n
  simp only [hx1, r1, ↓D0, ↓D1, ↓D2, ↓D3, ↓D4, ↓D5, ↓D6, ↓D7, ↓D8, ↓D9, ↓D10, U0, U1, U2, U3, U4, U5, U6, U7, U8, U9, U10, ↓reduceIte, Nat.reduceAdd, Nat.reduceMul, Nat.reduceSub, Nat.reduceEqDiff, Nat.reduceBEq, Nat.reduceLeDiff, Nat.reduceLT, Int.reduceAdd, Int.reduceMul, Int.reduceSub, Int.reduceLT, Int.reduceLE, Int.reduceToNat, Int.reduceEq, Int.reduceNe, Int.reduceBEq, Int.reduceBNe, ne_eq, eq_self]
  refine callT_of (c_fair (sh := sh) hS) ?_
  rintro v H' ⟨rfl, hS⟩
  have hx1 := hS.look
  have r0 := fun o => rd_of hx1 o
  have r1 := fun o n => rdn_of hx1 o n
  cases hfair : (may sh.p sh.c sh.m && ((n : Int) == words sh.p sh.c sh.m))
  · simp only [hfair, ↓D0, ↓D1, ↓D2, ↓D3, ↓D4, ↓D5, ↓D6, ↓D7, ↓D8, ↓D9, ↓D10, U0, U1, U2, U3, U4, U5, U6, U7, U8, U9, U10, ↓reduceIte, Nat.reduceAdd, Nat.reduceMul, Nat.reduceSub, Nat.reduceEqDiff, Nat.reduceBEq, Nat.reduceLeDiff, Nat.reduceLT, Int.reduceAdd, Int.reduceMul, Int.reduceSub, Int.reduceLT, Int.reduceLE, Int.reduceToNat, Int.reduceEq, Int.reduceNe, Int.reduceBEq, Int.reduceBNe, ne_eq, eq_self]
    exact hS.tail
  have hfair' := hfair
  simp only [Bool.and_eq_true, beq_iff_eq] at hfair
  obtain ⟨hm, hn⟩ := hfair
  simp only [hfair', hx1, r0, r1, ↓D0, ↓D1, ↓D2, ↓D3, ↓D4, ↓D5, ↓D6, ↓D7, ↓D8, ↓D9, ↓D10, U0, U1, U2, U3, U4, U5, U6, U7, U8, U9, U10, ↓reduceIte, Nat.reduceAdd, Nat.reduceMul, Nat.reduceSub, Nat.reduceEqDiff, Nat.reduceBEq, Nat.reduceLeDiff, Nat.reduceLT, Int.reduceAdd, Int.reduceMul, Int.reduceSub, Int.reduceLT, Int.reduceLE, Int.reduceToNat, Int.reduceEq, Int.reduceNe, Int.reduceBEq, Int.reduceBNe, ne_eq, eq_self]
  refine callT_of (c_soundV hm hn hr hU hS.p1) ?_
  rintro v H' ⟨sb, rfl, hsnd, hS⟩
  cases sb
  · simp only [↓D0, ↓D1, ↓D2, ↓D3, ↓D4, ↓D5, ↓D6, ↓D7, ↓D8, ↓D9, ↓D10, U0, U1, U2, U3, U4, U5, U6, U7, U8, U9, U10, ↓reduceIte, Nat.reduceAdd, Nat.reduceMul, Nat.reduceSub, Nat.reduceEqDiff, Nat.reduceBEq, Nat.reduceLeDiff, Nat.reduceLT, Int.reduceAdd, Int.reduceMul, Int.reduceSub, Int.reduceLT, Int.reduceLE, Int.reduceToNat, Int.reduceEq, Int.reduceNe, Int.reduceBEq, Int.reduceBNe, ne_eq, eq_self]
    exact hS.p1.tail
  have hsnd0 := hsnd.1 rfl
  clear hsnd
  have hx1 := hS.lk 1 rfl
  have r0 := fun o => rd_of hx1 o
  have r1 := fun o n => rdn_of hx1 o n
  by_cases hc3 : sh.c < 3
  · have g3 : decide (sh.c < 3) = true := decide_eq_true hc3
    simp only [hx1, r0, g3, ↓D0, ↓D1, ↓D2, ↓D3, ↓D4, ↓D5, ↓D6, ↓D7, ↓D8, ↓D9, ↓D10, U0, U1, U2, U3, U4, U5, U6, U7, U8, U9, U10, ↓reduceIte, Nat.reduceAdd, Nat.reduceMul, Nat.reduceSub, Nat.reduceEqDiff, Nat.reduceBEq, Nat.reduceLeDiff, Nat.reduceLT, Int.reduceAdd, Int.reduceMul, Int.reduceSub, Int.reduceLT, Int.reduceLE, Int.reduceToNat, Int.reduceEq, Int.reduceNe, Int.reduceBEq, Int.reduceBNe, ne_eq, eq_self]
    exact hS.p1.tail
  have g3 : decide (sh.c < 3) = false := decide_eq_false hc3
  by_cases hm5 : (5 : Int) < (m : Int)
  · have g5 : decide ((5 : Int) < (m : Int)) = true := decide_eq_true hm5
    simp only [hx1, r0, g3, g5, ↓D0, ↓D1, ↓D2, ↓D3, ↓D4, ↓D5, ↓D6, ↓D7, ↓D8, ↓D9, ↓D10, U0, U1, U2, U3, U4, U5, U6, U7, U8, U9, U10, ↓reduceIte, Nat.reduceAdd, Nat.reduceMul, Nat.reduceSub, Nat.reduceEqDiff, Nat.reduceBEq, Nat.reduceLeDiff, Nat.reduceLT, Int.reduceAdd, Int.reduceMul, Int.reduceSub, Int.reduceLT, Int.reduceLE, Int.reduceToNat, Int.reduceEq, Int.reduceNe, Int.reduceBEq, Int.reduceBNe, ne_eq, eq_self]
    exact hS.p1.tail
  have g5 : decide ((5 : Int) < (m : Int)) = false := decide_eq_false hm5
  have hwl := words_le hm
  have hwg := words_ge hm hn
  have hn2 : n ≤ 2000 := by omega
  have hb := (may_iff _ _ _).1 hm
  simp only [hx1, r0, g3, g5, ↓D0, ↓D1, ↓D2, ↓D3, ↓D4, ↓D5, ↓D6, ↓D7, ↓D8, ↓D9, ↓D10, U0, U1, U2, U3, U4, U5, U6, U7, U8, U9, U10, ↓reduceIte, Nat.reduceAdd, Nat.reduceMul, Nat.reduceSub, Nat.reduceEqDiff, Nat.reduceBEq, Nat.reduceLeDiff, Nat.reduceLT, Int.reduceAdd, Int.reduceMul, Int.reduceSub, Int.reduceLT, Int.reduceLE, Int.reduceToNat, Int.reduceEq, Int.reduceNe, Int.reduceBEq, Int.reduceBNe, ne_eq, eq_self]
  refine callT_of (c_fill hn2 hr hS) ?_
  rintro v H' ⟨b, s, rfl, hS⟩
  have hp1 : putSt 1 0 = 1 := rfl
  have hp2 : putSt 2 0 = 2 := rfl
  have hof : (rowW n ws).of sh := rowW_of hn hU
  simp only [↓D0, ↓D1, ↓D2, ↓D3, ↓D4, ↓D5, ↓D6, ↓D7, ↓D8, ↓D9, ↓D10, U0, U1, U2, U3, U4, U5, U6, U7, U8, U9, U10, ↓reduceIte, Nat.reduceAdd, Nat.reduceMul, Nat.reduceSub, Nat.reduceEqDiff, Nat.reduceBEq, Nat.reduceLeDiff, Nat.reduceLT, Int.reduceAdd, Int.reduceMul, Int.reduceSub, Int.reduceLT, Int.reduceLE, Int.reduceToNat, Int.reduceEq, Int.reduceNe, Int.reduceBEq, Int.reduceBNe, ne_eq, eq_self]
  obtain ⟨L, hL⟩ : ∃ L, h :: sg x (.cells #[.int .i64 sh.p, .int .i64 sh.c, .int .i64 sh.m] 23 (0, 0)) :: l = L := ⟨_, rfl⟩
  have L0 : L[0]? = some h := by subst hL; rfl
  have L1 : L[1]? = some (sg x (.cells #[.int .i64 sh.p, .int .i64 sh.c, .int .i64 sh.m] 23 (0, 0))) := by subst hL; rfl
  have toh : ∀ H', Sep L H' → Sep (h :: sg x (.cells #[.int .i64 sh.p, .int .i64 sh.c, .int .i64 sh.m] 23 (0, 0)) :: l) H' := fun H' hS => by subst hL; exact hS
  have ofh : ∀ H', Sep (h :: sg x (.cells #[.int .i64 sh.p, .int .i64 sh.c, .int .i64 sh.m] 23 (0, 0)) :: l) H' → Sep L H' := fun H' hS => by subst hL; exact hS
  rw [hL] at hS
  refine loop_intro (acA sh ws x b s n m cap cap2 a a2 L) (fun F' _ => (sh.c - iv (gt F' 8)).toNat)
    ⟨1, _, Nat.le_refl _, by omega, by simp [gt], ⟨by simp [gt], by simp [gt], by simp [gt], by simp [gt]⟩, rfl, hof, snd_row hm hn hsnd0, fun k hk => blks_row hm hn hk, fun y y1 y2 => by omega, hS⟩ ?_
  clear hS hx1 r0 r1 hof
  rintro F' H' ⟨c, w, hc1, hcc, e8, ⟨e1, e2, e3, e7⟩, hwn, hof, hsn, hbl, hst, hS⟩
  have hx1 := hS.lk 3 L1
  have r0 := fun o => rd_of hx1 o
  by_cases hlt : (c : Int) < sh.c
  · have d1 : decide ((c : Int) < sh.c) = true := decide_eq_true hlt
    have wi : w64 ((c : Int) + 1) = (c : Int) + 1 := w64_eq (by omega) (by omega)
    simp only [e8, e1, e2, e3, e7, hx1, r0, d1, u_putst, hp1, ↓D0, ↓D1, ↓D2, ↓D3, ↓D4, ↓D5, ↓D6, ↓D7, ↓D8, ↓D9, ↓D10, U0, U1, U2, U3, U4, U5, U6, U7, U8, U9, U10, ↓reduceIte, Nat.reduceAdd, Nat.reduceMul, Nat.reduceSub, Nat.reduceEqDiff, Nat.reduceBEq, Nat.reduceLeDiff, Nat.reduceLT, Int.reduceAdd, Int.reduceMul, Int.reduceSub, Int.reduceLT, Int.reduceLE, Int.reduceToNat, Int.reduceEq, Int.reduceNe, Int.reduceBEq, Int.reduceBNe, ne_eq, eq_self]
    refine callT_of (c_put (c : Int) 1 (by omega) (by omega) hS) ?_
    rintro v H' ⟨rfl, hS⟩
    have epw : (w.put c 1).ws = upW w.ws (status sh.p sh.c sh.m c) 1 := by rw [status_yes hm (by omega) hlt]; rfl
    simp only [e8, e1, e2, e3, e7, wrap_w64, wi, ↓D0, ↓D1, ↓D2, ↓D3, ↓D4, ↓D5, ↓D6, ↓D7, ↓D8, ↓D9, ↓D10, U0, U1, U2, U3, U4, U5, U6, U7, U8, U9, U10, ↓reduceIte, Nat.reduceAdd, Nat.reduceMul, Nat.reduceSub, Nat.reduceEqDiff, Nat.reduceBEq, Nat.reduceLeDiff, Nat.reduceLT, Int.reduceAdd, Int.reduceMul, Int.reduceSub, Int.reduceLT, Int.reduceLE, Int.reduceToNat, Int.reduceEq, Int.reduceNe, Int.reduceBEq, Int.reduceBNe, ne_eq, eq_self]
    refine ⟨⟨c + 1, w.put c 1, by omega, by omega, by simp [gt, wi], ⟨by simp [gt, e1], by simp [gt, e2], by simp [gt, e3], by simp [gt, e7]⟩, hwn, Wd.of_put hof (U_putSt 1 0) _, ?_, fun k hk => ?_, fun y y1 y2 => ?_, hS⟩, by simp [gt, iv, e8, wi]; omega⟩
    · rw [epw]; exact hsn.sta hm (by omega) hlt
    · rw [epw, blks_sta hm (by omega) hlt hk]; exact hbl k hk
    · rw [get_put (by omega) (by omega)]
      split
      · rfl
      · exact hst y y1 (by omega)
  have d1 : decide ((c : Int) < sh.c) = false := decide_eq_false hlt
  have wc1 : w64 (sh.c - 1) = sh.c - 1 := w64_eq (by omega) (by omega)
  have wm1 : w64 (60 * sh.p) = 60 * sh.p := w64_eq (by omega) (by omega)
  have wm2 : w64 (60 * sh.p + sh.m) = 60 * sh.p + sh.m := w64_eq (by omega) (by omega)
  have wm3 : w64 (60 * sh.p + sh.m + 20) = 60 * sh.p + sh.m + 20 := w64_eq (by omega) (by omega)
  obtain ⟨N, hN⟩ : ∃ N, 60 * sh.p + sh.m + 20 = N := ⟨_, rfl⟩
  rw [hN] at wm3
  simp only [e8, e1, e2, e3, e7, hx1, r0, d1, u_putst, hp2, ↓D0, ↓D1, ↓D2, ↓D3, ↓D4, ↓D5, ↓D6, ↓D7, ↓D8, ↓D9, ↓D10, U0, U1, U2, U3, U4, U5, U6, U7, U8, U9, U10, ↓reduceIte, Nat.reduceAdd, Nat.reduceMul, Nat.reduceSub, Nat.reduceEqDiff, Nat.reduceBEq, Nat.reduceLeDiff, Nat.reduceLT, Int.reduceAdd, Int.reduceMul, Int.reduceSub, Int.reduceLT, Int.reduceLE, Int.reduceToNat, Int.reduceEq, Int.reduceNe, Int.reduceBEq, Int.reduceBNe, ne_eq, eq_self]
  refine callT_of (c_put 0 2 (by decide) (by omega) hS) ?_
  rintro v H' ⟨rfl, hS⟩
  have hx1 := hS.lk 3 L1
  have r0 := fun o => rd_of hx1 o
  have epw : (w.put 0 2).ws = upW w.ws (status sh.p sh.c sh.m 0) 2 := by rw [status_yes hm (by decide) (by omega)]; rfl
  have hstg : Stg sh (w.put 0 2).ws 1 (w.put 0 2) := by
    refine ⟨Wd.of_put hof (U_putSt 2 0) _, ?_, fun y y1 y2 => by omega, fun y y1 y2 y3 => ?_, .inr ⟨Pt.self .., .inl ?_⟩⟩
    · rw [epw]; exact hsn.sta hm (by decide) (by omega)
    · rw [get_put (by decide) (by omega), if_neg (by omega)]; exact hst y y1 (by omega)
    · rw [get_put (by decide) (by decide), if_pos rfl]; rfl
  have hbA : ∀ k : Nat, (k : Int) ≤ sh.p → blks sh (w.put 0 2).ws k = blks sh ws k := fun k hk => by rw [epw, blks_sta hm (by decide) (by omega) hk]; exact hbl k hk
  have hwn2 : (w.put 0 2).n = n := hwn
  generalize (w.put 0 2) = w1 at hS hstg hbA hwn2 hx1 r0
  clear epw hof hsn hbl hst hwn
  obtain ⟨A, hA⟩ : ∃ A, w1.ws = A := ⟨_, rfl⟩
  rw [hA] at hstg hbA
  simp only [e8, e1, e2, e3, e7, hx1, r0, wrap_w64, wc1, wm1, wm2, hN, wm3, ↓D0, ↓D1, ↓D2, ↓D3, ↓D4, ↓D5, ↓D6, ↓D7, ↓D8, ↓D9, ↓D10, U0, U1, U2, U3, U4, U5, U6, U7, U8, U9, U10, ↓reduceIte, Nat.reduceAdd, Nat.reduceMul, Nat.reduceSub, Nat.reduceEqDiff, Nat.reduceBEq, Nat.reduceLeDiff, Nat.reduceLT, Int.reduceAdd, Int.reduceMul, Int.reduceSub, Int.reduceLT, Int.reduceLE, Int.reduceToNat, Int.reduceEq, Int.reduceNe, Int.reduceBEq, Int.reduceBNe, ne_eq, eq_self]
  refine loop_intro (acB sh A N x b s n m cap cap2 a a2 L) (fun F' _ => (sh.c - 1 - iv (gt F' 11)).toNat)
    ⟨1, w1, Nat.le_refl _, by omega, by simp [gt], ⟨⟨by simp [gt, e1], by simp [gt, e2], by simp [gt, e3], by simp [gt, e7]⟩, by simp [gt], by simp [gt]⟩, hwn2, hstg, hS⟩ ?_
  clear hS hx1 r0 e8 e1 e2 e3 e7 hstg hwn2 hA d1 hlt hc1 hcc
  clear w1
  rintro F' H' ⟨c, w, hc1, hcc, e11, ⟨⟨e1, e2, e3, e7⟩, e9, e10⟩, hwn, hstg, hS⟩
  have hx1 := hS.lk 3 L1
  have r0 := fun o => rd_of hx1 o
  have r1 := fun o n => rdn_of hx1 o n
  by_cases hlt : (c : Int) < sh.c - 1
  · have d1 : decide ((c : Int) < sh.c - 1) = true := decide_eq_true hlt
    have wi : w64 ((c : Int) + 1) = (c : Int) + 1 := w64_eq (by omega) (by omega)
    have wj : w64 ((c : Int) - 1) = (c : Int) - 1 := w64_eq (by omega) (by omega)
    simp only [e11, e1, e2, e3, e7, e9, e10, hx1, r1, d1, ↓D0, ↓D1, ↓D2, ↓D3, ↓D4, ↓D5, ↓D6, ↓D7, ↓D8, ↓D9, ↓D10, U0, U1, U2, U3, U4, U5, U6, U7, U8, U9, U10, ↓reduceIte, Nat.reduceAdd, Nat.reduceMul, Nat.reduceSub, Nat.reduceEqDiff, Nat.reduceBEq, Nat.reduceLeDiff, Nat.reduceLT, Int.reduceAdd, Int.reduceMul, Int.reduceSub, Int.reduceLT, Int.reduceLE, Int.reduceToNat, Int.reduceEq, Int.reduceNe, Int.reduceBEq, Int.reduceBNe, ne_eq, eq_self]
    refine callT_of (c_adnew (sh := sh) (c := c) (d := 0) hS) ?_
    rintro v H' ⟨k, rfl, hS⟩
    have hrun := hstg.run hm (by omega) (by omega)
    by_cases hlm : (c : Int) - 1 < (m : Int)
    · have d2 : decide ((c : Int) - 1 < (m : Int)) = true := decide_eq_true hlm
      have q0 : (0 : Int) ≤ (c : Int) - 1 := by omega
      rcases hv with hv0 | ⟨vb, vo, rfl, hvq⟩
      · omega
      have hvq1 : rd h vb (vo + ((c : Int) - 1).toNat) = some (.int .u16 (ks ((c : Int) - 1).toNat)) := hvq _ (by omega)
      obtain ⟨vc, vT, vf, hvc, hvco, -⟩ := part_cell hS 3 L0 hvq1
      have r2 := fun o => rd_of hvc o
      have hkb := hk ((c : Int) - 1).toNat (by omega)
      obtain ⟨kv, hkv⟩ : ∃ kv, ks ((c : Int) - 1).toNat = kv := ⟨_, rfl⟩
      rw [hkv] at hkb hvco
      have wk : w64 kv = kv := w64_eq (by omega) (by omega)
      have z0 : (N = 0) = False := eq_false (by omega)
      obtain ⟨M, hM⟩ : ∃ M, kv % N = M := ⟨_, rfl⟩
      have tk : kv.tmod N = M := by rw [Int.tmod_eq_emod_of_nonneg hkb.1]; exact hM
      have hM0 : 0 ≤ M := by rw [← hM]; exact Int.emod_nonneg _ (by omega)
      have hMN : M ≤ N := by rw [← hM]; exact Int.le_of_lt (Int.emod_lt_of_pos _ (by omega))
      clear hM
      have hM := True.intro
      simp only [e11, e1, e2, e3, e7, e9, e10, hx1, r0, wrap_w64, wj, d2, q0, hlm, r2, hvco, wk, z0, tk, ↓D0, ↓D1, ↓D2, ↓D3, ↓D4, ↓D5, ↓D6, ↓D7, ↓D8, ↓D9, ↓D10, U0, U1, U2, U3, U4, U5, U6, U7, U8, U9, U10, ↓reduceIte, Nat.reduceAdd, Nat.reduceMul, Nat.reduceSub, Nat.reduceEqDiff, Nat.reduceBEq, Nat.reduceLeDiff, Nat.reduceLT, Int.reduceAdd, Int.reduceMul, Int.reduceSub, Int.reduceLT, Int.reduceLE, Int.reduceToNat, Int.reduceEq, Int.reduceNe, Int.reduceBEq, Int.reduceBNe, ne_eq, eq_self]
      refine loop_intro (acC sh A N M c w k x b s n m cap cap2 a (some ⟨vb, vo, none⟩) L) (fun F' _ => (M - iv (gt F' 14)).toNat)
        ⟨0, _, w, by omega, hM0, by simp [gt], by simp [gt, hM], by simp [gt], by simp [gt, e11], ⟨⟨by simp [gt, e1], by simp [gt, e2], by simp [gt, e3], by simp [gt, e7]⟩, by simp [gt, e9], by simp [gt, e10]⟩, hwn, hrun, hS⟩ ?_
      clear hS hx1 r0 r1 e1 e2 e3 e7 e9 e10 hrun
      have e11o := e11
      clear e11
      rintro F2 H' ⟨i, t, w2, i0, i1, e14, e13, e12, e11, ⟨⟨e1, e2, e3, e7⟩, e9, e10⟩, hwn2, hrun, hS⟩
      by_cases hil : i < M
      · have d3 : decide (i < M) = true := decide_eq_true hil
        have wi2 : w64 (i + 1) = i + 1 := w64_eq (by omega) (by omega)
        simp only [e14, e13, e12, e11, e1, e2, e3, e7, e9, e10, d3, ↓D0, ↓D1, ↓D2, ↓D3, ↓D4, ↓D5, ↓D6, ↓D7, ↓D8, ↓D9, ↓D10, U0, U1, U2, U3, U4, U5, U6, U7, U8, U9, U10, ↓reduceIte, Nat.reduceAdd, Nat.reduceMul, Nat.reduceSub, Nat.reduceEqDiff, Nat.reduceBEq, Nat.reduceLeDiff, Nat.reduceLT, Int.reduceAdd, Int.reduceMul, Int.reduceSub, Int.reduceLT, Int.reduceLE, Int.reduceToNat, Int.reduceEq, Int.reduceNe, Int.reduceBEq, Int.reduceBNe, ne_eq, eq_self]
        refine callT_of (c_adstep hrun.wf.1 (fun _ => by rw [hrun.wf.2]; exact hrun.of) hS) ?_
        rintro v H' ⟨rfl, hS⟩
        have hn3 : (t.step w2).2.n = n := by
          have h5 := (Ad.step_of (t := t) hrun.of).n
          have h6 := hrun.of.n
          omega
        simp only [e14, e13, e12, e11, e1, e2, e3, e7, e9, e10, wrap_w64, wi2, ↓D0, ↓D1, ↓D2, ↓D3, ↓D4, ↓D5, ↓D6, ↓D7, ↓D8, ↓D9, ↓D10, U0, U1, U2, U3, U4, U5, U6, U7, U8, U9, U10, ↓reduceIte, Nat.reduceAdd, Nat.reduceMul, Nat.reduceSub, Nat.reduceEqDiff, Nat.reduceBEq, Nat.reduceLeDiff, Nat.reduceLT, Int.reduceAdd, Int.reduceMul, Int.reduceSub, Int.reduceLT, Int.reduceLE, Int.reduceToNat, Int.reduceEq, Int.reduceNe, Int.reduceBEq, Int.reduceBNe, ne_eq, eq_self]
        exact ⟨⟨i + 1, _, _, by omega, by omega, by simp [gt], by simp [gt, e13], by simp [gt, e12], by simp [gt, e11], ⟨⟨by simp [gt, e1], by simp [gt, e2], by simp [gt, e3], by simp [gt, e7]⟩, by simp [gt, e9], by simp [gt, e10]⟩, hn3, hrun.step hm, hS⟩, by simp [gt, iv, e14]; omega⟩
      · have d3 : decide (i < M) = false := decide_eq_false hil
        simp only [e14, e13, e12, e11, e1, e2, e3, e7, e9, e10, d3, u_putst, hp2, ↓D0, ↓D1, ↓D2, ↓D3, ↓D4, ↓D5, ↓D6, ↓D7, ↓D8, ↓D9, ↓D10, U0, U1, U2, U3, U4, U5, U6, U7, U8, U9, U10, ↓reduceIte, Nat.reduceAdd, Nat.reduceMul, Nat.reduceSub, Nat.reduceEqDiff, Nat.reduceBEq, Nat.reduceLeDiff, Nat.reduceLT, Int.reduceAdd, Int.reduceMul, Int.reduceSub, Int.reduceLT, Int.reduceLE, Int.reduceToNat, Int.reduceEq, Int.reduceNe, Int.reduceBEq, Int.reduceBNe, ne_eq, eq_self]
        refine callT_of (c_put (c : Int) 2 (by omega) (by omega) hS.tail) ?_
        rintro v H' ⟨rfl, hS⟩
        have hnx : Stg sh A ((c + 1 : Nat) : Int) (w2.put (c : Int) 2) := by
          have := hstg.next hm (by omega) (by omega) hrun
          rw [hp2] at this
          rw [show ((c + 1 : Nat) : Int) = (c : Int) + 1 by omega]; exact this
        simp only [e14, e13, e12, e11, e1, e2, e3, e7, e9, e10, wrap_w64, wi, ↓D0, ↓D1, ↓D2, ↓D3, ↓D4, ↓D5, ↓D6, ↓D7, ↓D8, ↓D9, ↓D10, U0, U1, U2, U3, U4, U5, U6, U7, U8, U9, U10, ↓reduceIte, Nat.reduceAdd, Nat.reduceMul, Nat.reduceSub, Nat.reduceEqDiff, Nat.reduceBEq, Nat.reduceLeDiff, Nat.reduceLT, Int.reduceAdd, Int.reduceMul, Int.reduceSub, Int.reduceLT, Int.reduceLE, Int.reduceToNat, Int.reduceEq, Int.reduceNe, Int.reduceBEq, Int.reduceBNe, ne_eq, eq_self]
        exact ⟨⟨c + 1, w2.put (c : Int) 2, by omega, by omega, by simp [gt, wi], ⟨⟨by simp [gt, e1], by simp [gt, e2], by simp [gt, e3], by simp [gt, e7]⟩, by simp [gt, e9], by simp [gt, e10]⟩, hwn2, hnx, hS⟩, by simp [gt, iv, e11o, wi]; omega⟩
    · have d2 : decide ((c : Int) - 1 < (m : Int)) = false := decide_eq_false hlm
      obtain ⟨M, hM⟩ : ∃ M, N = M := ⟨_, rfl⟩
      have hM0 : 0 ≤ M := by omega
      have hMN : M ≤ N := by omega
      simp only [e11, e1, e2, e3, e7, e9, e10, hx1, r0, wrap_w64, wj, d2, ↓D0, ↓D1, ↓D2, ↓D3, ↓D4, ↓D5, ↓D6, ↓D7, ↓D8, ↓D9, ↓D10, U0, U1, U2, U3, U4, U5, U6, U7, U8, U9, U10, ↓reduceIte, Nat.reduceAdd, Nat.reduceMul, Nat.reduceSub, Nat.reduceEqDiff, Nat.reduceBEq, Nat.reduceLeDiff, Nat.reduceLT, Int.reduceAdd, Int.reduceMul, Int.reduceSub, Int.reduceLT, Int.reduceLE, Int.reduceToNat, Int.reduceEq, Int.reduceNe, Int.reduceBEq, Int.reduceBNe, ne_eq, eq_self]
      refine loop_intro (acC sh A N M c w k x b s n m cap cap2 a a2 L) (fun F' _ => (M - iv (gt F' 14)).toNat)
        ⟨0, _, w, by omega, hM0, by simp [gt], by simp [gt, hM], by simp [gt], by simp [gt, e11], ⟨⟨by simp [gt, e1], by simp [gt, e2], by simp [gt, e3], by simp [gt, e7]⟩, by simp [gt, e9], by simp [gt, e10]⟩, hwn, hrun, hS⟩ ?_
      clear hS hx1 r0 r1 e1 e2 e3 e7 e9 e10 hrun
      have e11o := e11
      clear e11
      rintro F2 H' ⟨i, t, w2, i0, i1, e14, e13, e12, e11, ⟨⟨e1, e2, e3, e7⟩, e9, e10⟩, hwn2, hrun, hS⟩
      by_cases hil : i < M
      · have d3 : decide (i < M) = true := decide_eq_true hil
        have wi2 : w64 (i + 1) = i + 1 := w64_eq (by omega) (by omega)
        simp only [e14, e13, e12, e11, e1, e2, e3, e7, e9, e10, d3, ↓D0, ↓D1, ↓D2, ↓D3, ↓D4, ↓D5, ↓D6, ↓D7, ↓D8, ↓D9, ↓D10, U0, U1, U2, U3, U4, U5, U6, U7, U8, U9, U10, ↓reduceIte, Nat.reduceAdd, Nat.reduceMul, Nat.reduceSub, Nat.reduceEqDiff, Nat.reduceBEq, Nat.reduceLeDiff, Nat.reduceLT, Int.reduceAdd, Int.reduceMul, Int.reduceSub, Int.reduceLT, Int.reduceLE, Int.reduceToNat, Int.reduceEq, Int.reduceNe, Int.reduceBEq, Int.reduceBNe, ne_eq, eq_self]
        refine callT_of (c_adstep hrun.wf.1 (fun _ => by rw [hrun.wf.2]; exact hrun.of) hS) ?_
        rintro v H' ⟨rfl, hS⟩
        have hn3 : (t.step w2).2.n = n := by
          have h5 := (Ad.step_of (t := t) hrun.of).n
          have h6 := hrun.of.n
          omega
        simp only [e14, e13, e12, e11, e1, e2, e3, e7, e9, e10, wrap_w64, wi2, ↓D0, ↓D1, ↓D2, ↓D3, ↓D4, ↓D5, ↓D6, ↓D7, ↓D8, ↓D9, ↓D10, U0, U1, U2, U3, U4, U5, U6, U7, U8, U9, U10, ↓reduceIte, Nat.reduceAdd, Nat.reduceMul, Nat.reduceSub, Nat.reduceEqDiff, Nat.reduceBEq, Nat.reduceLeDiff, Nat.reduceLT, Int.reduceAdd, Int.reduceMul, Int.reduceSub, Int.reduceLT, Int.reduceLE, Int.reduceToNat, Int.reduceEq, Int.reduceNe, Int.reduceBEq, Int.reduceBNe, ne_eq, eq_self]
        exact ⟨⟨i + 1, _, _, by omega, by omega, by simp [gt], by simp [gt, e13], by simp [gt, e12], by simp [gt, e11], ⟨⟨by simp [gt, e1], by simp [gt, e2], by simp [gt, e3], by simp [gt, e7]⟩, by simp [gt, e9], by simp [gt, e10]⟩, hn3, hrun.step hm, hS⟩, by simp [gt, iv, e14]; omega⟩
      · have d3 : decide (i < M) = false := decide_eq_false hil
        simp only [e14, e13, e12, e11, e1, e2, e3, e7, e9, e10, d3, u_putst, hp2, ↓D0, ↓D1, ↓D2, ↓D3, ↓D4, ↓D5, ↓D6, ↓D7, ↓D8, ↓D9, ↓D10, U0, U1, U2, U3, U4, U5, U6, U7, U8, U9, U10, ↓reduceIte, Nat.reduceAdd, Nat.reduceMul, Nat.reduceSub, Nat.reduceEqDiff, Nat.reduceBEq, Nat.reduceLeDiff, Nat.reduceLT, Int.reduceAdd, Int.reduceMul, Int.reduceSub, Int.reduceLT, Int.reduceLE, Int.reduceToNat, Int.reduceEq, Int.reduceNe, Int.reduceBEq, Int.reduceBNe, ne_eq, eq_self]
        refine callT_of (c_put (c : Int) 2 (by omega) (by omega) hS.tail) ?_
        rintro v H' ⟨rfl, hS⟩
        have hnx : Stg sh A ((c + 1 : Nat) : Int) (w2.put (c : Int) 2) := by
          have := hstg.next hm (by omega) (by omega) hrun
          rw [hp2] at this
          rw [show ((c + 1 : Nat) : Int) = (c : Int) + 1 by omega]; exact this
        simp only [e14, e13, e12, e11, e1, e2, e3, e7, e9, e10, wrap_w64, wi, ↓D0, ↓D1, ↓D2, ↓D3, ↓D4, ↓D5, ↓D6, ↓D7, ↓D8, ↓D9, ↓D10, U0, U1, U2, U3, U4, U5, U6, U7, U8, U9, U10, ↓reduceIte, Nat.reduceAdd, Nat.reduceMul, Nat.reduceSub, Nat.reduceEqDiff, Nat.reduceBEq, Nat.reduceLeDiff, Nat.reduceLT, Int.reduceAdd, Int.reduceMul, Int.reduceSub, Int.reduceLT, Int.reduceLE, Int.reduceToNat, Int.reduceEq, Int.reduceNe, Int.reduceBEq, Int.reduceBNe, ne_eq, eq_self]
        exact ⟨⟨c + 1, w2.put (c : Int) 2, by omega, by omega, by simp [gt, wi], ⟨⟨by simp [gt, e1], by simp [gt, e2], by simp [gt, e3], by simp [gt, e7]⟩, by simp [gt, e9], by simp [gt, e10]⟩, hwn2, hnx, hS⟩, by simp [gt, iv, e11o, wi]; omega⟩
  have d1 : decide ((c : Int) < sh.c - 1) = false := decide_eq_false hlt
  have hcl : (c : Int) = sh.c - 1 := by omega
  rw [hcl] at hstg
  simp only [e11, e1, e2, e3, e7, e9, e10, d1, ↓D0, ↓D1, ↓D2, ↓D3, ↓D4, ↓D5, ↓D6, ↓D7, ↓D8, ↓D9, ↓D10, U0, U1, U2, U3, U4, U5, U6, U7, U8, U9, U10, ↓reduceIte, Nat.reduceAdd, Nat.reduceMul, Nat.reduceSub, Nat.reduceEqDiff, Nat.reduceBEq, Nat.reduceLeDiff, Nat.reduceLT, Int.reduceAdd, Int.reduceMul, Int.reduceSub, Int.reduceLT, Int.reduceLE, Int.reduceToNat, Int.reduceEq, Int.reduceNe, Int.reduceBEq, Int.reduceBNe, ne_eq, eq_self]
  refine loop_intro (acD sh A N x b s n m cap cap2 a a2 L) (fun F' _ => (sh.c - 1 - iv (gt F' 15)).toNat)
    ⟨0, w, by omega, by simp [gt], ⟨⟨by simp [gt, e1], by simp [gt, e2], by simp [gt, e3], by simp [gt, e7]⟩, by simp [gt, e9], by simp [gt, e10]⟩, hwn, .inl ⟨rfl, hstg⟩, hS⟩ ?_
  clear hS hx1 r0 r1 e11 e1 e2 e3 e7 e9 e10 hstg hwn hlt d1 hcl hc1 hcc
  clear w c
  rintro F' H' ⟨d, w, hdd, e15, ⟨⟨e1, e2, e3, e7⟩, e9, e10⟩, hwn, hac, hS⟩
  have hx1 := hS.lk 3 L1
  have r0 := fun o => rd_of hx1 o
  have r1 := fun o n => rdn_of hx1 o n
  by_cases hlt : (d : Int) < sh.c - 1
  · have d1 : decide ((d : Int) < sh.c - 1) = true := decide_eq_true hlt
    have wi : w64 ((d : Int) + 1) = (d : Int) + 1 := w64_eq (by omega) (by omega)
    obtain ⟨B, hrun, hend⟩ : ∃ B, Run sh B (sh.c - 1) d w (Ad.new sh (sh.c - 1) d) w ∧ ∀ t w2, Run sh B (sh.c - 1) d w t w2 → t.dn = true → w2.get d = putSt 4 0 ∧ Lst sh A (d + 1) w2 := by
      rcases hac with ⟨rfl, hstg⟩ | ⟨h1, hl⟩
      · exact ⟨A, hstg.run hm (by omega) (by omega), fun t w2 hr hd => hstg.last hm (by omega) hr hd⟩
      · exact ⟨w.ws, hl.run hm (by omega) hlt, fun t w2 hr hd => hl.next hm (by omega) hlt hr hd⟩
    simp only [e15, e1, e2, e3, e7, e9, e10, hx1, r1, d1, ↓D0, ↓D1, ↓D2, ↓D3, ↓D4, ↓D5, ↓D6, ↓D7, ↓D8, ↓D9, ↓D10, U0, U1, U2, U3, U4, U5, U6, U7, U8, U9, U10, ↓reduceIte, Nat.reduceAdd, Nat.reduceMul, Nat.reduceSub, Nat.reduceEqDiff, Nat.reduceBEq, Nat.reduceLeDiff, Nat.reduceLT, Int.reduceAdd, Int.reduceMul, Int.reduceSub, Int.reduceLT, Int.reduceLE, Int.reduceToNat, Int.reduceEq, Int.reduceNe, Int.reduceBEq, Int.reduceBNe, ne_eq, eq_self]
    refine callT_of (c_adnew (sh := sh) (c := sh.c - 1) (d := d) hS) ?_
    rintro v H' ⟨k, rfl, hS⟩
    have hl0 : (Ad.new sh (sh.c - 1) d).left ≤ 54 * sh.p + sh.m + 4 := Ad.new_left sh (sh.c - 1) d (by omega)
    simp only [e15, e1, e2, e3, e7, e9, e10, ↓D0, ↓D1, ↓D2, ↓D3, ↓D4, ↓D5, ↓D6, ↓D7, ↓D8, ↓D9, ↓D10, U0, U1, U2, U3, U4, U5, U6, U7, U8, U9, U10, ↓reduceIte, Nat.reduceAdd, Nat.reduceMul, Nat.reduceSub, Nat.reduceEqDiff, Nat.reduceBEq, Nat.reduceLeDiff, Nat.reduceLT, Int.reduceAdd, Int.reduceMul, Int.reduceSub, Int.reduceLT, Int.reduceLE, Int.reduceToNat, Int.reduceEq, Int.reduceNe, Int.reduceBEq, Int.reduceBNe, ne_eq, eq_self]
    refine loop_intro (acE sh B N d w k x b s n m cap cap2 a a2 L) (fun F' _ => (N - iv (gt F' 17)).toNat)
      ⟨0, _, w, by omega, by omega, by simp [gt], by simp [gt], by simp [gt, e15], ⟨⟨by simp [gt, e1], by simp [gt, e2], by simp [gt, e3], by simp [gt, e7]⟩, by simp [gt, e9], by simp [gt, e10]⟩, hwn, hrun, by omega, hS⟩ ?_
    clear hS hx1 r0 r1 e1 e2 e3 e7 e9 e10 hrun hl0
    have e15o := e15
    clear e15
    rintro F2 H' ⟨i, t, w2, i0, i1, e17, e16, e15, ⟨⟨e1, e2, e3, e7⟩, e9, e10⟩, hwn2, hrun, hl, hS⟩
    by_cases hil : i < N
    · have d3 : decide (i < N) = true := decide_eq_true hil
      have wi2 : w64 (i + 1) = i + 1 := w64_eq (by omega) (by omega)
      simp only [e17, e16, e15, e1, e2, e3, e7, e9, e10, d3, ↓D0, ↓D1, ↓D2, ↓D3, ↓D4, ↓D5, ↓D6, ↓D7, ↓D8, ↓D9, ↓D10, U0, U1, U2, U3, U4, U5, U6, U7, U8, U9, U10, ↓reduceIte, Nat.reduceAdd, Nat.reduceMul, Nat.reduceSub, Nat.reduceEqDiff, Nat.reduceBEq, Nat.reduceLeDiff, Nat.reduceLT, Int.reduceAdd, Int.reduceMul, Int.reduceSub, Int.reduceLT, Int.reduceLE, Int.reduceToNat, Int.reduceEq, Int.reduceNe, Int.reduceBEq, Int.reduceBNe, ne_eq, eq_self]
      refine callT_of (c_adstep hrun.wf.1 (fun _ => by rw [hrun.wf.2]; exact hrun.of) hS) ?_
      rintro v H' ⟨rfl, hS⟩
      have hn3 : (t.step w2).2.n = n := by
        have h5 := (Ad.step_of (t := t) hrun.of).n
        have h6 := hrun.of.n
        omega
      simp only [e17, e16, e15, e1, e2, e3, e7, e9, e10, wrap_w64, wi2, ↓D0, ↓D1, ↓D2, ↓D3, ↓D4, ↓D5, ↓D6, ↓D7, ↓D8, ↓D9, ↓D10, U0, U1, U2, U3, U4, U5, U6, U7, U8, U9, U10, ↓reduceIte, Nat.reduceAdd, Nat.reduceMul, Nat.reduceSub, Nat.reduceEqDiff, Nat.reduceBEq, Nat.reduceLeDiff, Nat.reduceLT, Int.reduceAdd, Int.reduceMul, Int.reduceSub, Int.reduceLT, Int.reduceLE, Int.reduceToNat, Int.reduceEq, Int.reduceNe, Int.reduceBEq, Int.reduceBNe, ne_eq, eq_self]
      refine ⟨⟨i + 1, _, _, by omega, by omega, by simp [gt], by simp [gt, e16], by simp [gt, e15], ⟨⟨by simp [gt, e1], by simp [gt, e2], by simp [gt, e3], by simp [gt, e7]⟩, by simp [gt, e9], by simp [gt, e10]⟩, hn3, hrun.step hm, ?_, hS⟩, by simp [gt, iv, e17]; omega⟩
      have := ao_left (w := w2) hrun.wf.1 hl; omega
    · have d3 : decide (i < N) = false := decide_eq_false hil
      have hd : t.dn = true := Ad.left_dn hrun.wf.1 (by have := Ad.left_nn hrun.wf.1; omega)
      obtain ⟨hg, hls⟩ := hend t w2 hrun hd
      have hg4 : putSt 4 0 = 4 := rfl
      have hk4 : stK 4 = 4 := by decide
      have hu4 : U 4 := by unfold U; omega
      simp only [e17, e16, e15, e1, e2, e3, e7, e9, e10, d3, ↓D0, ↓D1, ↓D2, ↓D3, ↓D4, ↓D5, ↓D6, ↓D7, ↓D8, ↓D9, ↓D10, U0, U1, U2, U3, U4, U5, U6, U7, U8, U9, U10, ↓reduceIte, Nat.reduceAdd, Nat.reduceMul, Nat.reduceSub, Nat.reduceEqDiff, Nat.reduceBEq, Nat.reduceLeDiff, Nat.reduceLT, Int.reduceAdd, Int.reduceMul, Int.reduceSub, Int.reduceLT, Int.reduceLE, Int.reduceToNat, Int.reduceEq, Int.reduceNe, Int.reduceBEq, Int.reduceBNe, ne_eq, eq_self]
      refine callT_of (c_look (d : Int) (by omega) (by omega) hS.r2) ?_
      rintro v H' ⟨rfl, hS⟩
      rw [hg, hg4]
      simp only [e17, e16, e15, e1, e2, e3, e7, e9, e10, u_readst hu4, hk4, ↓D0, ↓D1, ↓D2, ↓D3, ↓D4, ↓D5, ↓D6, ↓D7, ↓D8, ↓D9, ↓D10, U0, U1, U2, U3, U4, U5, U6, U7, U8, U9, U10, ↓reduceIte, Nat.reduceAdd, Nat.reduceMul, Nat.reduceSub, Nat.reduceEqDiff, Nat.reduceBEq, Nat.reduceLeDiff, Nat.reduceLT, Int.reduceAdd, Int.reduceMul, Int.reduceSub, Int.reduceLT, Int.reduceLE, Int.reduceToNat, Int.reduceEq, Int.reduceNe, Int.reduceBEq, Int.reduceBNe, ne_eq, eq_self]
      refine callT_of (c_addone hS.p2) ?_
      rintro v H' ⟨rfl, hS⟩
      simp only [e17, e16, e15, e1, e2, e3, e7, e9, e10, hd, wrap_w64, wi, ↓D0, ↓D1, ↓D2, ↓D3, ↓D4, ↓D5, ↓D6, ↓D7, ↓D8, ↓D9, ↓D10, U0, U1, U2, U3, U4, U5, U6, U7, U8, U9, U10, ↓reduceIte, Nat.reduceAdd, Nat.reduceMul, Nat.reduceSub, Nat.reduceEqDiff, Nat.reduceBEq, Nat.reduceLeDiff, Nat.reduceLT, Int.reduceAdd, Int.reduceMul, Int.reduceSub, Int.reduceLT, Int.reduceLE, Int.reduceToNat, Int.reduceEq, Int.reduceNe, Int.reduceBEq, Int.reduceBNe, ne_eq, eq_self]
      exact ⟨⟨d + 1, w2, by omega, by simp [gt, wi], ⟨⟨by simp [gt, e1], by simp [gt, e2], by simp [gt, e3], by simp [gt, e7]⟩, by simp [gt, e9], by simp [gt, e10]⟩, hwn2, .inr ⟨by omega, hls⟩, hS.tail⟩, by simp [gt, iv, e15o, wi]; omega⟩
  have d1 : decide ((d : Int) < sh.c - 1) = false := decide_eq_false hlt
  have hdl : (d : Int) = sh.c - 1 := by omega
  have hls : Lst sh A (sh.c - 1) w := by
    rcases hac with ⟨h0, -⟩ | ⟨-, hl⟩
    · omega
    · rw [hdl] at hl; exact hl
  simp only [e15, e1, e2, e3, e7, e9, e10, d1, ↓D0, ↓D1, ↓D2, ↓D3, ↓D4, ↓D5, ↓D6, ↓D7, ↓D8, ↓D9, ↓D10, U0, U1, U2, U3, U4, U5, U6, U7, U8, U9, U10, ↓reduceIte, Nat.reduceAdd, Nat.reduceMul, Nat.reduceSub, Nat.reduceEqDiff, Nat.reduceBEq, Nat.reduceLeDiff, Nat.reduceLT, Int.reduceAdd, Int.reduceMul, Int.reduceSub, Int.reduceLT, Int.reduceLE, Int.reduceToNat, Int.reduceEq, Int.reduceNe, Int.reduceBEq, Int.reduceBNe, ne_eq, eq_self]
  refine callT_of (c_all (w := w) (by omega) hS) ?_
  rintro v H' ⟨a3, cap3, h3, rfl, hr3, hS⟩
  rw [hwn] at hr3
  have hU3 : ∀ i, i < n → U (w.ws i) := fun i hi => hls.of.u i
  have wp : w64 (sh.p * 64) = sh.p * 64 := w64_eq (by omega) (by omega)
  obtain ⟨L', hL'⟩ : ∃ L', wB b s w :: wR s w :: L = L' := ⟨_, rfl⟩
  have L3 : L'[3]? = some (sg x (.cells #[.int .i64 sh.p, .int .i64 sh.c, .int .i64 sh.m] 23 (0, 0))) := by subst hL'; exact L1
  have toL : ∀ H', Sep L' H' → Sep L H' := fun H' hS => by subst hL'; exact hS.tail.tail
  rw [hL'] at hS
  simp only [e15, e1, e2, e3, e7, e9, e10, ↓D0, ↓D1, ↓D2, ↓D3, ↓D4, ↓D5, ↓D6, ↓D7, ↓D8, ↓D9, ↓D10, U0, U1, U2, U3, U4, U5, U6, U7, U8, U9, U10, ↓reduceIte, Nat.reduceAdd, Nat.reduceMul, Nat.reduceSub, Nat.reduceEqDiff, Nat.reduceBEq, Nat.reduceLeDiff, Nat.reduceLT, Int.reduceAdd, Int.reduceMul, Int.reduceSub, Int.reduceLT, Int.reduceLE, Int.reduceToNat, Int.reduceEq, Int.reduceNe, Int.reduceBEq, Int.reduceBNe, ne_eq, eq_self]
  refine loop_intro (acF sh N x b n m cap cap2 cap3 a a2 a3 (h3 :: L')) (fun F' _ => (sh.p * 64 - iv (gt F' 21)).toNat)
    ⟨0, by omega, by omega, by simp [gt], by simp [gt, hwn], ⟨⟨by simp [gt, e1], by simp [gt, e2], by simp [gt, e3], by simp [gt, e7]⟩, by simp [gt, e9], by simp [gt, e10]⟩, hS⟩ ?_
  clear hS hx1 r0 r1 e15 e1 e2 e3 e7 e9 e10
  rintro F' H' ⟨i, i0, i1, e21, e20, ⟨⟨e1, e2, e3, e7⟩, e9, e10⟩, hS⟩
  have hx1 := hS.lk 4 L3
  have r0 := fun o => rd_of hx1 o
  have r1 := fun o n => rdn_of hx1 o n
  by_cases hil : i < sh.p * 64
  · have d3 : decide (i < sh.p * 64) = true := decide_eq_true hil
    have wi2 : w64 (i + 1) = i + 1 := w64_eq (by omega) (by omega)
    simp only [e21, e20, e1, e2, e3, e7, e9, e10, hx1, r0, r1, wrap_w64, wp, d3, ↓D0, ↓D1, ↓D2, ↓D3, ↓D4, ↓D5, ↓D6, ↓D7, ↓D8, ↓D9, ↓D10, U0, U1, U2, U3, U4, U5, U6, U7, U8, U9, U10, ↓reduceIte, Nat.reduceAdd, Nat.reduceMul, Nat.reduceSub, Nat.reduceEqDiff, Nat.reduceBEq, Nat.reduceLeDiff, Nat.reduceLT, Int.reduceAdd, Int.reduceMul, Int.reduceSub, Int.reduceLT, Int.reduceLE, Int.reduceToNat, Int.reduceEq, Int.reduceNe, Int.reduceBEq, Int.reduceBNe, ne_eq, eq_self]
    refine callT_of (c_holder i i0 hil hm hls.snd hn hr3 hU3 hS) ?_
    rintro v H' ⟨c, ok, rfl, hok, hS⟩
    have hcc : ok = true → (c != sh.c - 1) = false := fun h => by
      obtain ⟨c0, c1, q, q0, q1, hq⟩ := hok h
      by_cases e : c = sh.c - 1
      · simp [e]
      · exfalso
        have hf := hls.fr c c0 (by omega) q q0 q1
        rcases hq with hq | ⟨k2, j, j0, j1, hj⟩
        · rcases hq with hq | hq
          · exact hf.1 hq
          · have hbo := body_bd hq
            exact (hls.fr c c0 (by omega) _ hbo.1 (by omega)).1 hq.2
        · exact hf.2 k2 j j0 j1 hj
    cases ok
    · simp only [e21, e20, e1, e2, e3, e7, e9, e10, wrap_w64, wi2, ↓D0, ↓D1, ↓D2, ↓D3, ↓D4, ↓D5, ↓D6, ↓D7, ↓D8, ↓D9, ↓D10, U0, U1, U2, U3, U4, U5, U6, U7, U8, U9, U10, ↓reduceIte, Nat.reduceAdd, Nat.reduceMul, Nat.reduceSub, Nat.reduceEqDiff, Nat.reduceBEq, Nat.reduceLeDiff, Nat.reduceLT, Int.reduceAdd, Int.reduceMul, Int.reduceSub, Int.reduceLT, Int.reduceLE, Int.reduceToNat, Int.reduceEq, Int.reduceNe, Int.reduceBEq, Int.reduceBNe, ne_eq, eq_self]
      exact ⟨⟨i + 1, by omega, by omega, by simp [gt], by simp [gt, e20], ⟨⟨by simp [gt, e1], by simp [gt, e2], by simp [gt, e3], by simp [gt, e7]⟩, by simp [gt, e9], by simp [gt, e10]⟩, hS⟩, by simp [gt, iv, e21]; omega⟩
    · have hcc := hcc rfl
      simp only [e21, e20, e1, e2, e3, e7, e9, e10, hcc, wrap_w64, wi2, ↓D0, ↓D1, ↓D2, ↓D3, ↓D4, ↓D5, ↓D6, ↓D7, ↓D8, ↓D9, ↓D10, U0, U1, U2, U3, U4, U5, U6, U7, U8, U9, U10, ↓reduceIte, Nat.reduceAdd, Nat.reduceMul, Nat.reduceSub, Nat.reduceEqDiff, Nat.reduceBEq, Nat.reduceLeDiff, Nat.reduceLT, Int.reduceAdd, Int.reduceMul, Int.reduceSub, Int.reduceLT, Int.reduceLE, Int.reduceToNat, Int.reduceEq, Int.reduceNe, Int.reduceBEq, Int.reduceBNe, ne_eq, eq_self]
      exact ⟨⟨i + 1, by omega, by omega, by simp [gt], by simp [gt, e20], ⟨⟨by simp [gt, e1], by simp [gt, e2], by simp [gt, e3], by simp [gt, e7]⟩, by simp [gt, e9], by simp [gt, e10]⟩, hS⟩, by simp [gt, iv, e21]; omega⟩
  have d3 : decide (i < sh.p * 64) = false := decide_eq_false hil
  have hbl := hls.bl sh.p.toNat (by omega)
  simp only [e21, e20, e1, e2, e3, e7, e9, e10, hx1, r0, wrap_w64, wp, d3, ↓D0, ↓D1, ↓D2, ↓D3, ↓D4, ↓D5, ↓D6, ↓D7, ↓D8, ↓D9, ↓D10, U0, U1, U2, U3, U4, U5, U6, U7, U8, U9, U10, ↓reduceIte, Nat.reduceAdd, Nat.reduceMul, Nat.reduceSub, Nat.reduceEqDiff, Nat.reduceBEq, Nat.reduceLeDiff, Nat.reduceLT, Int.reduceAdd, Int.reduceMul, Int.reduceSub, Int.reduceLT, Int.reduceLE, Int.reduceToNat, Int.reduceEq, Int.reduceNe, Int.reduceBEq, Int.reduceBNe, ne_eq, eq_self]
  refine draw_intro [(x, #[.int .i64 sh.p, .int .i64 sh.c, .int .i64 sh.m], [])] (by simp only [hx1, ↓D0, ↓D1, ↓D2, ↓D3, ↓D4, ↓D5, ↓D6, ↓D7, ↓D8, ↓D9, ↓D10, U0, U1, U2, U3, U4, U5, U6, U7, U8, U9, U10, ↓reduceIte, Nat.reduceAdd, Nat.reduceMul, Nat.reduceSub, Nat.reduceEqDiff, Nat.reduceBEq, Nat.reduceLeDiff, Nat.reduceLT, Int.reduceAdd, Int.reduceMul, Int.reduceSub, Int.reduceLT, Int.reduceLE, Int.reduceToNat, Int.reduceEq, Int.reduceNe, Int.reduceBEq, Int.reduceBNe, ne_eq, eq_self]) ?_
  simp only [e21, e20, e1, e2, e3, e7, e9, e10, hx1, r1, ↓D0, ↓D1, ↓D2, ↓D3, ↓D4, ↓D5, ↓D6, ↓D7, ↓D8, ↓D9, ↓D10, U0, U1, U2, U3, U4, U5, U6, U7, U8, U9, U10, ↓reduceIte, Nat.reduceAdd, Nat.reduceMul, Nat.reduceSub, Nat.reduceEqDiff, Nat.reduceBEq, Nat.reduceLeDiff, Nat.reduceLT, Int.reduceAdd, Int.reduceMul, Int.reduceSub, Int.reduceLT, Int.reduceLE, Int.reduceToNat, Int.reduceEq, Int.reduceNe, Int.reduceBEq, Int.reduceBNe, ne_eq, eq_self]
  refine callT_of (c_soundV hm hn hr3 hU3 hS) ?_
  rintro v H' ⟨sb, rfl, hsb, hS⟩
  have hsb := hsb.2 hls.snd
  subst hsb
  have hx1 := hS.lk 4 L3
  have r1 := fun o n => rdn_of hx1 o n
  simp only [e21, e20, e1, e2, e3, e7, e9, e10, hx1, r1, ↓D0, ↓D1, ↓D2, ↓D3, ↓D4, ↓D5, ↓D6, ↓D7, ↓D8, ↓D9, ↓D10, U0, U1, U2, U3, U4, U5, U6, U7, U8, U9, U10, ↓reduceIte, Nat.reduceAdd, Nat.reduceMul, Nat.reduceSub, Nat.reduceEqDiff, Nat.reduceBEq, Nat.reduceLeDiff, Nat.reduceLT, Int.reduceAdd, Int.reduceMul, Int.reduceSub, Int.reduceLT, Int.reduceLE, Int.reduceToNat, Int.reduceEq, Int.reduceNe, Int.reduceBEq, Int.reduceBNe, ne_eq, eq_self]
  refine callT_of (c_blocks hm hn hr3 hU3 hS) ?_
  rintro v H' ⟨ba, bc, g, rfl, hB, hS⟩
  have hS := toh H' (toL H' hS.tail.tail)
  have hx1 := hS.lk 1 rfl
  have r1 := fun o n => rdn_of hx1 o n
  simp only [e21, e20, e1, e2, e3, e7, e9, e10, hx1, r1, ↓D0, ↓D1, ↓D2, ↓D3, ↓D4, ↓D5, ↓D6, ↓D7, ↓D8, ↓D9, ↓D10, U0, U1, U2, U3, U4, U5, U6, U7, U8, U9, U10, ↓reduceIte, Nat.reduceAdd, Nat.reduceMul, Nat.reduceSub, Nat.reduceEqDiff, Nat.reduceBEq, Nat.reduceLeDiff, Nat.reduceLT, Int.reduceAdd, Int.reduceMul, Int.reduceSub, Int.reduceLT, Int.reduceLE, Int.reduceToNat, Int.reduceEq, Int.reduceNe, Int.reduceBEq, Int.reduceBNe, ne_eq, eq_self]
  refine callT_of (c_blocks hm hn hr hU hS) ?_
  rintro v H' ⟨ba2, bc2, g2, rfl, hB2, hS⟩
  have hx1 := hS.lk 2 rfl
  rw [hbl, hbA sh.p.toNat (by omega)]
  have gl : (((blks sh ws sh.p.toNat).length : Int) == ((blks sh ws sh.p.toNat).length : Int)) = true := by simp
  simp only [e21, e20, e1, e2, e3, e7, e9, e10, hx1, gl, ↓D0, ↓D1, ↓D2, ↓D3, ↓D4, ↓D5, ↓D6, ↓D7, ↓D8, ↓D9, ↓D10, U0, U1, U2, U3, U4, U5, U6, U7, U8, U9, U10, ↓reduceIte, Nat.reduceAdd, Nat.reduceMul, Nat.reduceSub, Nat.reduceEqDiff, Nat.reduceBEq, Nat.reduceLeDiff, Nat.reduceLT, Int.reduceAdd, Int.reduceMul, Int.reduceSub, Int.reduceLT, Int.reduceLE, Int.reduceToNat, Int.reduceEq, Int.reduceNe, Int.reduceBEq, Int.reduceBNe, ne_eq, eq_self]
  exact hS.tail.p1.tail
end

theorem l_adoptchain {W : World} {a a2 : Option Addr} {n m cap cap2 : Nat} {ws ks : Nat → Int} (p q r : Int) (hp : -9223372036854775808 ≤ p ∧ p ≤ 9223372036854775807) (hq : -9223372036854775808 ≤ q ∧ q ≤ 9223372036854775807) (hr' : -9223372036854775808 ≤ r ∧ r ≤ 9223372036854775807)
    (hn : n ≤ 9223372036854775807) (hr : RowU (memOf W) a n ws) (hU : ∀ i, i < n → IntKind.u64.has (ws i)) (hm : m ≤ 9223372036854775807) (hv : RowV (memOf W) a2 m (fun i => .int .u16 (ks i))) (hk : ∀ i, i < m → IntKind.u16.has (ks i)) :
    CallP Try.prog W 5 #[.agg #[.int .i64 p, .int .i64 q, .int .i64 r], .slice a n cap, .slice a2 m cap2] (memOf W) fun v H' => v = .bool true ∧ Sub (memOf W) H' :=
  (c_adoptchain ⟨p, q, r⟩ hm hr (fun i hi => u64_bd (hU i hi)) hv (fun i hi => u16_bd (hk i hi)) (Sep.one _)).mono fun v H' ⟨h1, h2⟩ => ⟨h1, h2.head⟩

end Go.Proofs.Ytfopnendmcpglaa
