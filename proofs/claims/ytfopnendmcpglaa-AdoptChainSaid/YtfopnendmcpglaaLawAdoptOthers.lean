/-
  AdoptOthers, walked: in a sound heap an adoption touches nothing that others hold, nor any block. Conditions: none.
-/
import Derived.Test.YtfopnendmcpglaaCodeAllotmentlaw18
import Derived.Test.YtfopnendmcpglaaAdoptK
import Derived.Test.YtfopnendmcpglaaMaPart
import Derived.Test.YtfopnendmcpglaaSoundV
import Derived.Test.YtfopnendmcpglaaRowV
import Derived.Test.YtfopnendmcpglaaCut
set_option linter.unusedVariables false
set_option linter.unusedSectionVars false
set_option linter.unusedSimpArgs false
set_option maxRecDepth 8000
namespace Go.Proofs.Ytfopnendmcpglaa
open Go Go.Ev Go.Pl Go.Ma

theorem ao_left_le {t : Ad} (h : t.wf) (hp : 0 ≤ t.s.p ∧ 0 ≤ t.s.m) : t.left ≤ 54 * t.s.p + t.s.m + 4 := by
  cases hd : t.dn
  · obtain ⟨hm, he, hcd, ar⟩ := h.of hd
    unfold Ad.Ar at ar
    have sb := slots_bd t.pA
    rcases (by omega : t.nx = 0 ∨ t.nx = 1 ∨ t.nx = 2 ∨ t.nx = 3 ∨ t.nx = 4 ∨ t.nx = 5 ∨ t.nx = 6 ∨ t.nx = 7 ∨ t.nx = 8 ∨ t.nx = 9 ∨ t.nx = 10 ∨ t.nx = 11 ∨ t.nx = 12 ∨ t.nx = 13) with hn | hn | hn | hn | hn | hn | hn | hn | hn | hn | hn | hn | hn | hn <;> rw [Ad.left_eq hd hn]
    · show 54 * t.s.p + t.s.m + 4 ≤ _; omega
    · show 54 * t.s.p + t.s.m + 3 ≤ _; omega
    · show 54 * t.s.p + t.s.m + 2 ≤ _; omega
    · show 3 * (t.s.p - t.at') + 51 * t.s.p + t.s.m + 1 ≤ _; omega
    · show 3 * (t.s.p - t.at') + 51 * t.s.p + t.s.m ≤ _; omega
    · show 3 * (t.s.p - t.at') + 51 * t.s.p + t.s.m - 1 ≤ _; omega
    · show 18 * (t.s.p - t.at') + 33 * t.s.p + t.s.m + 1 ≤ _; omega
    · show 18 * (t.s.p - t.at') + 33 * t.s.p + t.s.m - t.i ≤ _; omega
    · show 18 * (t.s.p - t.at') + 33 * t.s.p + t.s.m - 16 ≤ _; omega
    · show t.s.m - t.i + 33 * t.s.p + 1 ≤ _; omega
    · show 33 * (t.s.p - t.at') + 1 ≤ _; omega
    · show 33 * (t.s.p - t.at') - 32 + 2 * (slots t.pA - t.i) ≤ _; omega
    · show 33 * (t.s.p - t.at') - 33 + 2 * (slots t.pA - t.i) ≤ _; omega
    · show (1 : Int) ≤ _; omega
  · rw [Ad.left_0 hd]; omega
theorem ao_left {t : Ad} {w : Wd} {m : Int} (h : t.wf) (hl : t.left ≤ max 0 m) : (t.step w).1.left ≤ max 0 (m - 1) := by
  cases hd : t.dn
  · have := Ad.step_left (w := w) h hd; omega
  · rw [Ad.step_dn hd]
    have := Ad.left_0 hd
    show t.left ≤ _; omega

theorem snd_row {sh : Sh} {n : Nat} {ws : Nat → Int} (hm : may sh.p sh.c sh.m = true) (hn : (n : Int) = words sh.p sh.c sh.m) (h : Snd sh ws) : Snd sh (rowW n ws).ws := by
  have hb := (may_iff _ _ _).1 hm
  have hw := words_ge hm hn
  have key : ∀ j : Nat, j < n → (rowW n ws).ws j = ws j := fun j hj => if_pos hj
  refine h.congr hm (fun q q0 q1 => ?_) (fun q i q0 q1 i0 i1 => ?_) (fun c i c0 c1 i0 i1 => ?_)
  · unfold pgAt; rw [page_yes hm q0 q1]; exact key _ (by omega)
  · unfold slAt; exact key _ (by omega)
  · have := Int.mul_le_mul_of_nonneg_right (by omega : c + 1 ≤ sh.c) (by omega : 0 ≤ sh.m)
    rw [Int.add_mul] at this
    have := Int.mul_nonneg c0 (by omega : 0 ≤ sh.m)
    unfold mgAt; exact key _ (by omega)
section
variable {W : World} {H h : Hp} {l : List Hp} {n cap : Nat} {a : Option Addr} {ws : Nat → Int}
/-- While it adopts. -/
def aoI (sh : Sh) (ws0 : Nat → Int) (g0 : Int → Int) (x b k s : Nat) (a1 : Option Addr) (n cap1 : Nat) (L : List Hp) (F' : Fr) (H' : Hp) : Prop :=
  ∃ (i : Int) (t : Ad) (w : Wd), 0 ≤ i ∧ i ≤ 60 * sh.p + sh.m + 20 ∧ gt F' 8 = .int .i64 i ∧
    (gt F' 2 = .pointer (some ⟨x, 0, none⟩) ∧ gt F' 5 = .pointer (some ⟨b, 0, none⟩) ∧ gt F' 6 = .pointer (some ⟨k, 0, none⟩) ∧ gt F' 7 = .slice a1 n cap1) ∧ w.n = n ∧
    Ad.Adp sh ws0 1 0 g0 t w ∧ t.left ≤ max 0 (60 * sh.p + sh.m + 20 - i) ∧ Sep (adB k t :: wB b s w :: wR s w :: L) H'
def aoG (x n cap1 cap2 : Nat) (a1 a2 : Option Addr) (F' : Fr) : Prop := gt F' 2 = .pointer (some ⟨x, 0, none⟩) ∧ gt F' 7 = .slice a1 n cap1 ∧ gt F' 9 = .slice a2 n cap2
def aoP (sh : Sh) (x n cap1 cap2 : Nat) (a1 a2 : Option Addr) (L : List Hp) (F' : Fr) (H' : Hp) : Prop :=
  ∃ p : Nat, (p : Int) ≤ sh.p ∧ gt F' 10 = .int .i64 (p : Int) ∧ aoG x n cap1 cap2 a1 a2 F' ∧ Sep L H'
def pgV (sh : Sh) (q y : Int) : Array Value := #[.int .i64 (pgK sh q y), .int .i64 (pgA sh q y), .int .i64 (pgB sh q y)]
def aoC (q : Int) (sh : Sh) (ws1 : Nat → Int) (x n cap1 cap2 : Nat) (a1 a2 : Option Addr) (L : List Hp) (F' : Fr) (H' : Hp) : Prop :=
  gt F' 11 = .int .i64 (sh.c + q) ∧ gt F' 10 = .int .i64 q ∧ aoG x n cap1 cap2 a1 a2 F' ∧ ∃ y, gt F' 12 = .pointer (some ⟨y, 0, none⟩) ∧ Sep (sg y (.cells (pgV sh q (pgAt sh ws1 q)) 59 (0, 0)) :: L) H'
def aoD (q A : Int) (sh : Sh) (ws1 : Nat → Int) (y x n cap1 cap2 : Nat) (a1 a2 : Option Addr) (L : List Hp) (F' : Fr) (H' : Hp) : Prop :=
  gt F' 11 = .int .i64 (sh.c + q) ∧ gt F' 10 = .int .i64 q ∧ aoG x n cap1 cap2 a1 a2 F' ∧ gt F' 12 = .pointer (some ⟨y, 0, none⟩) ∧ ∃ z, gt F' 15 = .pointer (some ⟨z, 0, none⟩) ∧ Sep (sg z (.cells (pgV sh A (pgAt sh ws1 A)) 59 (0, 0)) :: sg y (.cells (pgV sh q (pgAt sh ws1 q)) 59 (0, 0)) :: L) H'
/-- It is known whether the page is the dead one's. -/
def aoE (q : Int) (sh : Sh) (ws1 : Nat → Int) (y x n cap1 cap2 : Nat) (a1 a2 : Option Addr) (L : List Hp) (F' : Fr) (H' : Hp) : Prop :=
  ∃ mb : Bool, gt F' 14 = .bool mb ∧ (mb = true ↔ (HeldBy sh ws1 0 q ∨ BodyOf sh ws1 0 q)) ∧ gt F' 11 = .int .i64 (sh.c + q) ∧ gt F' 10 = .int .i64 q ∧ aoG x n cap1 cap2 a1 a2 F' ∧ gt F' 12 = .pointer (some ⟨y, 0, none⟩) ∧ Sep (sg y (.cells (pgV sh q (pgAt sh ws1 q)) 59 (0, 0)) :: L) H'
def aoS (q : Int) (mb : Bool) (sh : Sh) (ws1 : Nat → Int) (y x n cap1 cap2 : Nat) (a1 a2 : Option Addr) (L : List Hp) (F' : Fr) (H' : Hp) : Prop :=
  ∃ i : Nat, i ≤ 16 ∧ gt F' 17 = .int .i64 (i : Int) ∧ gt F' 14 = .bool mb ∧ gt F' 10 = .int .i64 q ∧ aoG x n cap1 cap2 a1 a2 F' ∧ gt F' 12 = .pointer (some ⟨y, 0, none⟩) ∧ Sep (sg y (.cells (pgV sh q (pgAt sh ws1 q)) 59 (0, 0)) :: L) H'
def aoM (sh : Sh) (x n cap1 cap2 : Nat) (a1 a2 : Option Addr) (L : List Hp) (F' : Fr) (H' : Hp) : Prop :=
  ∃ i : Nat, (i : Int) ≤ sh.m ∧ gt F' 21 = .int .i64 (i : Int) ∧ aoG x n cap1 cap2 a1 a2 F' ∧ Sep L H'
set_option maxHeartbeats 8000000 in
theorem c_adoptothers (sh : Sh) (hr : RowU h a n ws) (hU : ∀ i, i < n → U (ws i)) (hS : Sep (h :: l) H) :
    CallP Try.prog W 6 #[.agg #[.int .i64 sh.p, .int .i64 sh.c, .int .i64 sh.m], .slice a n cap] H fun v H' => v = .bool true ∧ Sep (h :: l) H' := by
  refine CallP.of mixed Try.func6 tr6 (by show 2 ≤ _; decide) fun W _ => ?_
  simp only [↓D0, ↓D1, ↓D2, ↓D3, ↓D4, ↓D5, ↓D6, ↓D7, ↓D8, ↓D9, ↓D10, U0, U1, U2, U3, U4, U5, U6, U7, U8, U9, U10, ↓reduceIte, Nat.reduceAdd, Nat.reduceMul, Nat.reduceSub, Nat.reduceEqDiff, Nat.reduceBEq, Nat.reduceLeDiff, Nat.reduceLT, Int.reduceAdd, Int.reduceMul, Int.reduceSub, Int.reduceLT, Int.reduceLE, Int.reduceToNat, Int.reduceEq, Int.reduceNe, Int.reduceBEq, Int.reduceBNe, ne_eq, eq_self]
  refine newB_intro fun x hx f1 f2 => ?_
  simp only [↓D0, ↓D1, ↓D2, ↓D3, ↓D4, ↓D5, ↓D6, ↓D7, ↓D8, ↓D9, ↓D10, U0, U1, U2, U3, U4, U5, U6, U7, U8, U9, U10, ↓reduceIte, Nat.reduceAdd, Nat.reduceMul, Nat.reduceSub, Nat.reduceEqDiff, Nat.reduceBEq, Nat.reduceLeDiff, Nat.reduceLT, Int.reduceAdd, Int.reduceMul, Int.reduceSub, Int.reduceLT, Int.reduceLE, Int.reduceToNat, Int.reduceEq, Int.reduceNe, Int.reduceBEq, Int.reduceBNe, ne_eq, eq_self]
  have hS := hS.new f1 (.cells #[.int .i64 sh.p, .int .i64 sh.c, .int .i64 sh.m] 23 (0, 0))
  refine callT_of (c_awake18 hS) ?_
  rintro v H' ⟨rfl, hS⟩
  have hx1 := hS.look
  have r0 := fun o => rd_of hx1 o
  have r1 := fun o n => rdn_of hx1 o n
  simp only [hx1, r1, ↓D0, ↓D1, ↓D2, ↓D3, ↓D4, ↓D5, ↓D6, ↓D7, ↓D8, ↓D9, ↓D10, U0, U1, U2, U3, U4, U5, U6, U7, U8, U9, U10, ↓reduceIte, Nat.reduceAdd, Nat.reduceMul, Nat.reduceSub, Nat.reduceEqDiff, Nat.reduceBEq, Nat.reduceLeDiff, Nat.reduceLT, Int.reduceAdd, Int.reduceMul, Int.reduceSub, Int.reduceLT, Int.reduceLE, Int.reduceToNat, Int.reduceEq, Int.reduceNe, Int.reduceBEq, Int.reduceBNe, ne_eq, eq_self]
  refine callT_of (c_fair (sh := sh) hS) ?_
  rintro v H' ⟨rfl, hS⟩
  have hx1 := hS.look
  have r0 := fun o => rd_of hx1 o
  have r1 := fun o n => rdn_of hx1 o n
  cases hfair : (may sh.p sh.c sh.m && ((n : Int) == words sh.p sh.c sh.m))
  · simp only [hfair, ↓D0, ↓D1, ↓D2, ↓D3, ↓D4, ↓D5, ↓D6, ↓D7, ↓D8, ↓D9, ↓D10, U0, U1, U2, U3, U4, U5, U6, U7, U8, U9, U10, ↓reduceIte, Nat.reduceAdd, Nat.reduceMul, Nat.reduceSub, Nat.reduceEqDiff, Nat.reduceBEq, Nat.reduceLeDiff, Nat.reduceLT, Int.reduceAdd, Int.reduceMul, Int.reduceSub, Int.reduceLT, Int.reduceLE, Int.reduceToNat, Int.reduceEq, Int.reduceNe, Int.reduceBEq, Int.reduceBNe, ne_eq, eq_self]
    exact hS.tail
  have hfair' := hfair
  simp only [Bool.and_eq_true, beq_iff_eq] at hfair
  obtain ⟨hm, hn⟩ := hfair
  simp only [hfair', hx1, r0, r1, ↓D0, ↓D1, ↓D2, ↓D3, ↓D4, ↓D5, ↓D6, ↓D7, ↓D8, ↓D9, ↓D10, U0, U1, U2, U3, U4, U5, U6, U7, U8, U9, U10, ↓reduceIte, Nat.reduceAdd, Nat.reduceMul, Nat.reduceSub, Nat.reduceEqDiff, Nat.reduceBEq, Nat.reduceLeDiff, Nat.reduceLT, Int.reduceAdd, Int.reduceMul, Int.reduceSub, Int.reduceLT, Int.reduceLE, Int.reduceToNat, Int.reduceEq, Int.reduceNe, Int.reduceBEq, Int.reduceBNe, ne_eq, eq_self]
  refine callT_of (c_soundV hm hn hr hU hS.p1) ?_
  rintro v H' ⟨sb, rfl, hsnd, hS⟩
  cases sb
  · simp only [↓D0, ↓D1, ↓D2, ↓D3, ↓D4, ↓D5, ↓D6, ↓D7, ↓D8, ↓D9, ↓D10, U0, U1, U2, U3, U4, U5, U6, U7, U8, U9, U10, ↓reduceIte, Nat.reduceAdd, Nat.reduceMul, Nat.reduceSub, Nat.reduceEqDiff, Nat.reduceBEq, Nat.reduceLeDiff, Nat.reduceLT, Int.reduceAdd, Int.reduceMul, Int.reduceSub, Int.reduceLT, Int.reduceLE, Int.reduceToNat, Int.reduceEq, Int.reduceNe, Int.reduceBEq, Int.reduceBNe, ne_eq, eq_self]
    exact hS.p1.tail
  have hsnd0 := hsnd.1 rfl
  clear hsnd
  have hx1 := hS.lk 1 rfl
  have r0 := fun o => rd_of hx1 o
  have r1 := fun o n => rdn_of hx1 o n
  by_cases hc2 : sh.c < 2
  · have g3 : decide (sh.c < 2) = true := decide_eq_true hc2
    simp only [hx1, r0, g3, ↓D0, ↓D1, ↓D2, ↓D3, ↓D4, ↓D5, ↓D6, ↓D7, ↓D8, ↓D9, ↓D10, U0, U1, U2, U3, U4, U5, U6, U7, U8, U9, U10, ↓reduceIte, Nat.reduceAdd, Nat.reduceMul, Nat.reduceSub, Nat.reduceEqDiff, Nat.reduceBEq, Nat.reduceLeDiff, Nat.reduceLT, Int.reduceAdd, Int.reduceMul, Int.reduceSub, Int.reduceLT, Int.reduceLE, Int.reduceToNat, Int.reduceEq, Int.reduceNe, Int.reduceBEq, Int.reduceBNe, ne_eq, eq_self]
    exact hS.p1.tail
  have g3 : decide (sh.c < 2) = false := decide_eq_false hc2
  have hwl := words_le hm
  have hwg := words_ge hm hn
  have hn2 : n ≤ 2000 := by omega
  obtain ⟨a1', a2', a3', a4', a5', a6'⟩ := (may_iff _ _ _).1 hm
  simp only [hx1, r0, g3, ↓D0, ↓D1, ↓D2, ↓D3, ↓D4, ↓D5, ↓D6, ↓D7, ↓D8, ↓D9, ↓D10, U0, U1, U2, U3, U4, U5, U6, U7, U8, U9, U10, ↓reduceIte, Nat.reduceAdd, Nat.reduceMul, Nat.reduceSub, Nat.reduceEqDiff, Nat.reduceBEq, Nat.reduceLeDiff, Nat.reduceLT, Int.reduceAdd, Int.reduceMul, Int.reduceSub, Int.reduceLT, Int.reduceLE, Int.reduceToNat, Int.reduceEq, Int.reduceNe, Int.reduceBEq, Int.reduceBNe, ne_eq, eq_self]
  refine callT_of (c_fill hn2 hr hS) ?_
  rintro v H' ⟨b, s, rfl, hS⟩
  have hx1 := hS.lk 3 rfl
  have r1 := fun o n => rdn_of hx1 o n
  simp only [hx1, r1, ↓D0, ↓D1, ↓D2, ↓D3, ↓D4, ↓D5, ↓D6, ↓D7, ↓D8, ↓D9, ↓D10, U0, U1, U2, U3, U4, U5, U6, U7, U8, U9, U10, ↓reduceIte, Nat.reduceAdd, Nat.reduceMul, Nat.reduceSub, Nat.reduceEqDiff, Nat.reduceBEq, Nat.reduceLeDiff, Nat.reduceLT, Int.reduceAdd, Int.reduceMul, Int.reduceSub, Int.reduceLT, Int.reduceLE, Int.reduceToNat, Int.reduceEq, Int.reduceNe, Int.reduceBEq, Int.reduceBNe, ne_eq, eq_self]
  refine callT_of (c_adnew (sh := sh) hS) ?_
  rintro v H' ⟨k, rfl, hS⟩
  have hp2 : putSt 2 0 = 2 := rfl
  have hp4 : putSt 4 0 = 4 := rfl
  have hof : (rowW n ws).of sh := rowW_of hn hU
  simp only [u_putst, hp2, ↓D0, ↓D1, ↓D2, ↓D3, ↓D4, ↓D5, ↓D6, ↓D7, ↓D8, ↓D9, ↓D10, U0, U1, U2, U3, U4, U5, U6, U7, U8, U9, U10, ↓reduceIte, Nat.reduceAdd, Nat.reduceMul, Nat.reduceSub, Nat.reduceEqDiff, Nat.reduceBEq, Nat.reduceLeDiff, Nat.reduceLT, Int.reduceAdd, Int.reduceMul, Int.reduceSub, Int.reduceLT, Int.reduceLE, Int.reduceToNat, Int.reduceEq, Int.reduceNe, Int.reduceBEq, Int.reduceBNe, ne_eq, eq_self]
  refine callT_of (c_put 0 2 (by decide) (by show (0 : Int) < (n : Int); omega) hS.p2.p2) ?_
  rintro v H' ⟨rfl, hS⟩
  simp only [↓D0, ↓D1, ↓D2, ↓D3, ↓D4, ↓D5, ↓D6, ↓D7, ↓D8, ↓D9, ↓D10, U0, U1, U2, U3, U4, U5, U6, U7, U8, U9, U10, ↓reduceIte, Nat.reduceAdd, Nat.reduceMul, Nat.reduceSub, Nat.reduceEqDiff, Nat.reduceBEq, Nat.reduceLeDiff, Nat.reduceLT, Int.reduceAdd, Int.reduceMul, Int.reduceSub, Int.reduceLT, Int.reduceLE, Int.reduceToNat, Int.reduceEq, Int.reduceNe, Int.reduceBEq, Int.reduceBNe, ne_eq, eq_self]
  refine callT_of (c_all (w := (rowW n ws).put 0 2) hn2 hS) ?_
  rintro v H' ⟨a1, cap1, h1, rfl, hr1, hS⟩
  have hx1 := hS.lk 5 rfl
  have r0 := fun o => rd_of hx1 o
  have hof2 : ((rowW n ws).put 0 2).of sh := Wd.of_put hof (U_putSt 2 0) _
  have hsn1 : Snd sh ((rowW n ws).put 0 2).ws := by
    have e : ((rowW n ws).put 0 2).ws = upW (rowW n ws).ws (status sh.p sh.c sh.m 0) 2 := by rw [status_yes hm (by decide) (by omega)]; rfl
    rw [e]; exact (snd_row hm hn hsnd0).sta hm (by decide) (by omega)
  have hwin : Ad.Win sh ((rowW n ws).put 0 2).get 0 := by
    left
    rw [get_put (by decide) (by decide), if_pos rfl]
    decide
  have hO := Ad.Adp.init (c := 1) (d := 0) hm hof2 (by decide) (by omega) (by decide) (by omega) (by decide) hwin hsn1
  have hl0 := ao_left_le hO.wf.1 (by show 0 ≤ sh.p ∧ 0 ≤ sh.m; omega)
  have hl1 : (Ad.new sh 1 0).left ≤ 54 * sh.p + sh.m + 4 := hl0
  have hU1 : ∀ i, i < n → U (((rowW n ws).put 0 2).ws i) := fun i hi => hof2.u i
  have hr1' : RowU h1 a1 n ((rowW n ws).put 0 2).ws := hr1
  have hg0' : ((rowW n ws).put 0 2).n = n := rfl
  generalize ((rowW n ws).put 0 2) = w1 at hO hr1 hr1' hU1 hsn1 hof2 hS hg0' hwin ⊢
  obtain ⟨ws1, hws1⟩ : ∃ ws1, w1.ws = ws1 := ⟨_, rfl⟩
  have wm1 : w64 (60 * sh.p) = 60 * sh.p := w64_eq (by omega) (by omega)
  have wm2 : w64 (60 * sh.p + sh.m) = 60 * sh.p + sh.m := w64_eq (by omega) (by omega)
  have wm3 : w64 (60 * sh.p + sh.m + 20) = 60 * sh.p + sh.m + 20 := w64_eq (by omega) (by omega)
  clear hr1
  simp only [hg0', ↓D0, ↓D1, ↓D2, ↓D3, ↓D4, ↓D5, ↓D6, ↓D7, ↓D8, ↓D9, ↓D10, U0, U1, U2, U3, U4, U5, U6, U7, U8, U9, U10, ↓reduceIte, Nat.reduceAdd, Nat.reduceMul, Nat.reduceSub, Nat.reduceEqDiff, Nat.reduceBEq, Nat.reduceLeDiff, Nat.reduceLT, Int.reduceAdd, Int.reduceMul, Int.reduceSub, Int.reduceLT, Int.reduceLE, Int.reduceToNat, Int.reduceEq, Int.reduceNe, Int.reduceBEq, Int.reduceBNe, ne_eq, eq_self]
  refine loop_intro (aoI sh w1.ws w1.get x b k s a1 n cap1 (h1 :: h :: sg x (.cells #[.int .i64 sh.p, .int .i64 sh.c, .int .i64 sh.m] 23 (0, 0)) :: l)) (fun F' _ => (60 * sh.p + sh.m + 20 - iv (gt F' 8)).toNat)
    ⟨0, _, _, by omega, by omega, by simp [gt], ⟨by simp [gt], by simp [gt], by simp [gt], by simp [gt]⟩, hg0', hO, by omega, hS.r3.p2⟩ ?_
  have hws2 : w1.ws = ws1 := hws1
  rw [hws1] at hr1' hU1 hsn1 hO ⊢
  clear hS hx1 r0 r1 hO hl0 hl1 hof2 hwin
  generalize w1.get = g0
  clear hg0' hws1 hws2
  clear w1
  rintro F' H' ⟨i, t, w, h0, h1', e8, ⟨e2, e5, e6, e7⟩, hwn, hO, hl, hS⟩
  have hx1 := hS.lk 5 rfl
  have r0 := fun o => rd_of hx1 o
  by_cases hlt : i < 60 * sh.p + sh.m + 20
  · have d1 : decide (i < 60 * sh.p + sh.m + 20) = true := decide_eq_true hlt
    have wi : w64 (i + 1) = i + 1 := w64_eq (by omega) (by omega)
    simp only [e8, e2, e5, e6, e7, hx1, r0, wrap_w64, wm1, wm2, wm3, d1, ↓D0, ↓D1, ↓D2, ↓D3, ↓D4, ↓D5, ↓D6, ↓D7, ↓D8, ↓D9, ↓D10, U0, U1, U2, U3, U4, U5, U6, U7, U8, U9, U10, ↓reduceIte, Nat.reduceAdd, Nat.reduceMul, Nat.reduceSub, Nat.reduceEqDiff, Nat.reduceBEq, Nat.reduceLeDiff, Nat.reduceLT, Int.reduceAdd, Int.reduceMul, Int.reduceSub, Int.reduceLT, Int.reduceLE, Int.reduceToNat, Int.reduceEq, Int.reduceNe, Int.reduceBEq, Int.reduceBNe, ne_eq, eq_self]
    refine callT_of (c_adstep hO.wf.1 (fun _ => by rw [hO.wf.2.1]; exact hO.of) hS) ?_
    rintro v H' ⟨rfl, hS⟩
    have hn3 : (t.step w).2.n = n := by
      have h5 := (Ad.step_of (t := t) hO.of).n
      omega
    simp only [e8, e2, e5, e6, e7, wrap_w64, wi, ↓D0, ↓D1, ↓D2, ↓D3, ↓D4, ↓D5, ↓D6, ↓D7, ↓D8, ↓D9, ↓D10, U0, U1, U2, U3, U4, U5, U6, U7, U8, U9, U10, ↓reduceIte, Nat.reduceAdd, Nat.reduceMul, Nat.reduceSub, Nat.reduceEqDiff, Nat.reduceBEq, Nat.reduceLeDiff, Nat.reduceLT, Int.reduceAdd, Int.reduceMul, Int.reduceSub, Int.reduceLT, Int.reduceLE, Int.reduceToNat, Int.reduceEq, Int.reduceNe, Int.reduceBEq, Int.reduceBNe, ne_eq, eq_self]
    refine ⟨⟨i + 1, _, _, by omega, by omega, by simp [gt], ⟨by simp [gt, e2], by simp [gt, e5], by simp [gt, e6], by simp [gt, e7]⟩, hn3, hO.step, ?_, hS⟩, by simp [gt, iv, e8]; omega⟩
    have := ao_left (w := w) hO.wf.1 hl; omega
  have d1 : decide (i < 60 * sh.p + sh.m + 20) = false := decide_eq_false hlt
  have hd : t.dn = true := Ad.left_dn hO.wf.1 (by have := Ad.left_nn hO.wf.1; omega)
  obtain ⟨herr, -, hgn⟩ := hO.fin hd
  have hsn2 := hgn.snd hm hsn1 (by decide) (by omega)
  simp only [e8, e2, e5, e6, e7, hx1, r0, wrap_w64, wm1, wm2, wm3, d1, ↓D0, ↓D1, ↓D2, ↓D3, ↓D4, ↓D5, ↓D6, ↓D7, ↓D8, ↓D9, ↓D10, U0, U1, U2, U3, U4, U5, U6, U7, U8, U9, U10, ↓reduceIte, Nat.reduceAdd, Nat.reduceMul, Nat.reduceSub, Nat.reduceEqDiff, Nat.reduceBEq, Nat.reduceLeDiff, Nat.reduceLT, Int.reduceAdd, Int.reduceMul, Int.reduceSub, Int.reduceLT, Int.reduceLE, Int.reduceToNat, Int.reduceEq, Int.reduceNe, Int.reduceBEq, Int.reduceBNe, ne_eq, eq_self]
  refine callT_of (c_all (w := w) (by omega) hS.r2) ?_
  rintro v H' ⟨a2, cap2, h2, rfl, hr2, hS'⟩
  have hU2 : ∀ i, i < n → U (w.ws i) := fun i hi => hO.of.u i
  rw [hwn] at hr2
  obtain ⟨ws2, hws2⟩ : ∃ ws2, w.ws = ws2 := ⟨_, rfl⟩
  rw [hws2] at hgn hsn2 hr2 hU2
  clear hS
  have hS := hS'
  clear hS'
  have hS := hS.p3
  simp only [e2, e5, e6, e7, ↓D0, ↓D1, ↓D2, ↓D3, ↓D4, ↓D5, ↓D6, ↓D7, ↓D8, ↓D9, ↓D10, U0, U1, U2, U3, U4, U5, U6, U7, U8, U9, U10, ↓reduceIte, Nat.reduceAdd, Nat.reduceMul, Nat.reduceSub, Nat.reduceEqDiff, Nat.reduceBEq, Nat.reduceLeDiff, Nat.reduceLT, Int.reduceAdd, Int.reduceMul, Int.reduceSub, Int.reduceLT, Int.reduceLE, Int.reduceToNat, Int.reduceEq, Int.reduceNe, Int.reduceBEq, Int.reduceBNe, ne_eq, eq_self]
  refine callT_of (c_addone hS) ?_
  rintro v H' ⟨rfl, hS⟩
  simp only [hd, e6, ↓D0, ↓D1, ↓D2, ↓D3, ↓D4, ↓D5, ↓D6, ↓D7, ↓D8, ↓D9, ↓D10, U0, U1, U2, U3, U4, U5, U6, U7, U8, U9, U10, ↓reduceIte, Nat.reduceAdd, Nat.reduceMul, Nat.reduceSub, Nat.reduceEqDiff, Nat.reduceBEq, Nat.reduceLeDiff, Nat.reduceLT, Int.reduceAdd, Int.reduceMul, Int.reduceSub, Int.reduceLT, Int.reduceLE, Int.reduceToNat, Int.reduceEq, Int.reduceNe, Int.reduceBEq, Int.reduceBNe, ne_eq, eq_self]
  refine callT_of (c_aderr hS) ?_
  rintro v H' ⟨rfl, hS⟩
  have hx1 := hS.lk 6 rfl
  have r1 := fun o n => rdn_of hx1 o n
  simp only [herr, hwn, hx1, r1, e2, ↓D0, ↓D1, ↓D2, ↓D3, ↓D4, ↓D5, ↓D6, ↓D7, ↓D8, ↓D9, ↓D10, U0, U1, U2, U3, U4, U5, U6, U7, U8, U9, U10, ↓reduceIte, Nat.reduceAdd, Nat.reduceMul, Nat.reduceSub, Nat.reduceEqDiff, Nat.reduceBEq, Nat.reduceLeDiff, Nat.reduceLT, Int.reduceAdd, Int.reduceMul, Int.reduceSub, Int.reduceLT, Int.reduceLE, Int.reduceToNat, Int.reduceEq, Int.reduceNe, Int.reduceBEq, Int.reduceBNe, ne_eq, eq_self]
  refine callT_of (c_soundV hm hn hr2 hU2 hS.p1) ?_
  rintro v H' ⟨sb, rfl, hsb, hS⟩
  have hsb := hsb.2 hsn2
  subst hsb
  rcases hr1' with h0' | ⟨b1, o1, rfl, hq1⟩
  · omega
  rcases hr2 with h0' | ⟨b2, o2, rfl, hq2⟩
  · omega
  obtain ⟨L, hL⟩ : ∃ L, h2 :: adB k t :: wB b s w :: wR s w :: h1 :: h :: sg x (.cells #[.int .i64 sh.p, .int .i64 sh.c, .int .i64 sh.m] 23 (0, 0)) :: l = L := ⟨_, rfl⟩
  have L0 : L[0]? = some h2 := by subst hL; rfl
  have L4 : L[4]? = some h1 := by subst hL; rfl
  have L6 : L[6]? = some (sg x (.cells #[.int .i64 sh.p, .int .i64 sh.c, .int .i64 sh.m] 23 (0, 0))) := by subst hL; rfl
  have fin : ∀ H', Sep L H' → Sep (h :: l) H' := fun H' hS => by subst hL; exact hS.tail.tail.tail.tail.tail.p1.tail
  rw [hL] at hS
  clear hL hsn2 hO hx1 r1 r0
  simp only [e2, e5, e6, e7, ↓D0, ↓D1, ↓D2, ↓D3, ↓D4, ↓D5, ↓D6, ↓D7, ↓D8, ↓D9, ↓D10, U0, U1, U2, U3, U4, U5, U6, U7, U8, U9, U10, ↓reduceIte, Nat.reduceAdd, Nat.reduceMul, Nat.reduceSub, Nat.reduceEqDiff, Nat.reduceBEq, Nat.reduceLeDiff, Nat.reduceLT, Int.reduceAdd, Int.reduceMul, Int.reduceSub, Int.reduceLT, Int.reduceLE, Int.reduceToNat, Int.reduceEq, Int.reduceNe, Int.reduceBEq, Int.reduceBNe, ne_eq, eq_self]
  refine loop_intro (aoP sh x n cap1 cap2 (some ⟨b1, o1, none⟩) (some ⟨b2, o2, none⟩) L) (fun F' _ => (sh.p - iv (gt F' 10)).toNat)
    ⟨0, by omega, by simp [gt], ⟨by simp [gt, e2], by simp [gt, e7], by simp [gt, hwn]⟩, hS⟩ ?_
  clear hS e8 e2 e5 e6 e7
  rintro F' H' ⟨p, hp, e10, ⟨e2, e7, e9⟩, hS⟩
  have hx1 := hS.lk 6 L6
  have r0 := fun o => rd_of hx1 o
  have r1 := fun o n => rdn_of hx1 o n
  by_cases hlt : (p : Int) < sh.p
  · have d1 : decide ((p : Int) < sh.p) = true := decide_eq_true hlt
    have wi : w64 ((p : Int) + 1) = (p : Int) + 1 := w64_eq (by omega) (by omega)
    have hpg : page sh.p sh.c sh.m p = sh.c + p := page_yes hm (by omega) hlt
    have p0 : (0 : Int) ≤ sh.c + p := by omega
    have p1 : sh.c + p < (n : Int) := by omega
    have hat : ws1 (sh.c + (p : Int)).toNat = pgAt sh ws1 p := by unfold pgAt; rw [hpg]
    have hu : U (pgAt sh ws1 p) := by rw [← hat]; exact hU1 _ (by omega)
    obtain ⟨c, T, f, hc, hco, hfar⟩ := part_cell hS 4 L4 (hq1 (sh.c + (p : Int)).toNat (by omega))
    rw [hat] at hco
    obtain ⟨m1, m2⟩ := hfar 6 x _ (by decide) L6
    have r2 := fun o => rd_of hc o
    simp only [e10, e2, e7, e9, hx1, r0, r1, d1, u_page, hpg, ↓D0, ↓D1, ↓D2, ↓D3, ↓D4, ↓D5, ↓D6, ↓D7, ↓D8, ↓D9, ↓D10, U0, U1, U2, U3, U4, U5, U6, U7, U8, U9, U10, ↓reduceIte, Nat.reduceAdd, Nat.reduceMul, Nat.reduceSub, Nat.reduceEqDiff, Nat.reduceBEq, Nat.reduceLeDiff, Nat.reduceLT, Int.reduceAdd, Int.reduceMul, Int.reduceSub, Int.reduceLT, Int.reduceLE, Int.reduceToNat, Int.reduceEq, Int.reduceNe, Int.reduceBEq, Int.reduceBNe, ne_eq, eq_self]
    refine draw_cut [(x, #[.int .i64 sh.p, .int .i64 sh.c, .int .i64 sh.m], []), (b1, c, [])] (aoC p sh ws1 x n cap1 cap2 (some ⟨b1, o1, none⟩) (some ⟨b2, o2, none⟩) L) (by simp only [hx1, hc, ↓D0, ↓D1, ↓D2, ↓D3, ↓D4, ↓D5, ↓D6, ↓D7, ↓D8, ↓D9, ↓D10, U0, U1, U2, U3, U4, U5, U6, U7, U8, U9, U10, ↓reduceIte, Nat.reduceAdd, Nat.reduceMul, Nat.reduceSub, Nat.reduceEqDiff, Nat.reduceBEq, Nat.reduceLeDiff, Nat.reduceLT, Int.reduceAdd, Int.reduceMul, Int.reduceSub, Int.reduceLT, Int.reduceLE, Int.reduceToNat, Int.reduceEq, Int.reduceNe, Int.reduceBEq, Int.reduceBNe, ne_eq, eq_self]) ?_ ?_
    · simp only [e10, e2, e7, e9, hx1, r1, p0, p1, hc, r2, hco, m1, m2, u_readpg sh p hu, ↓e_dalt2, ↓D0, ↓D1, ↓D2, ↓D3, ↓D4, ↓D5, ↓D6, ↓D7, ↓D8, ↓D9, ↓D10, U0, U1, U2, U3, U4, U5, U6, U7, U8, U9, U10, ↓reduceIte, Nat.reduceAdd, Nat.reduceMul, Nat.reduceSub, Nat.reduceEqDiff, Nat.reduceBEq, Nat.reduceLeDiff, Nat.reduceLT, Int.reduceAdd, Int.reduceMul, Int.reduceSub, Int.reduceLT, Int.reduceLE, Int.reduceToNat, Int.reduceEq, Int.reduceNe, Int.reduceBEq, Int.reduceBNe, ne_eq, eq_self]
      refine ⟨?_, ?_⟩
      · refine newB_intro fun y hy f3 f4 => ?_
        have nxy : (x = y) = False := f3 x (by rw [hx1]; rfl)
        have nyx : (y = x) = False := f4 x (by rw [hx1]; rfl)
        have nby : (b1 = y) = False := f3 b1 (by rw [hc]; rfl)
        have nyb : (y = b1) = False := f4 b1 (by rw [hc]; rfl)
        have hS := hS.new f3 (.cells (pgV sh p (pgAt sh ws1 p)) 59 (0, 0))
        simp only [e10, e2, e7, e9, hx1, r1, p0, p1, hc, r2, hco, m1, m2, nxy, nyx, nby, nyb, u_readpg sh p hu, Ev.upd_upd, ↓D0, ↓D1, ↓D2, ↓D3, ↓D4, ↓D5, ↓D6, ↓D7, ↓D8, ↓D9, ↓D10, U0, U1, U2, U3, U4, U5, U6, U7, U8, U9, U10, ↓reduceIte, Nat.reduceAdd, Nat.reduceMul, Nat.reduceSub, Nat.reduceEqDiff, Nat.reduceBEq, Nat.reduceLeDiff, Nat.reduceLT, Int.reduceAdd, Int.reduceMul, Int.reduceSub, Int.reduceLT, Int.reduceLE, Int.reduceToNat, Int.reduceEq, Int.reduceNe, Int.reduceBEq, Int.reduceBNe, ne_eq, eq_self]
        exact ⟨by simp [gt], by simp [gt, e10], ⟨by simp [gt, e2], by simp [gt, e7], by simp [gt, e9]⟩, y, by simp [gt], hS⟩
      · refine newB_intro fun y hy f3 f4 => ?_
        have nxy : (x = y) = False := f3 x (by rw [hx1]; rfl)
        have nyx : (y = x) = False := f4 x (by rw [hx1]; rfl)
        have nby : (b1 = y) = False := f3 b1 (by rw [hc]; rfl)
        have nyb : (y = b1) = False := f4 b1 (by rw [hc]; rfl)
        have hS := hS.new f3 (.cells (pgV sh p (pgAt sh ws1 p)) 59 (0, 0))
        simp only [e10, e2, e7, e9, hx1, r1, p0, p1, hc, r2, hco, m1, m2, nxy, nyx, nby, nyb, u_readpg sh p hu, Ev.upd_upd, ↓D0, ↓D1, ↓D2, ↓D3, ↓D4, ↓D5, ↓D6, ↓D7, ↓D8, ↓D9, ↓D10, U0, U1, U2, U3, U4, U5, U6, U7, U8, U9, U10, ↓reduceIte, Nat.reduceAdd, Nat.reduceMul, Nat.reduceSub, Nat.reduceEqDiff, Nat.reduceBEq, Nat.reduceLeDiff, Nat.reduceLT, Int.reduceAdd, Int.reduceMul, Int.reduceSub, Int.reduceLT, Int.reduceLE, Int.reduceToNat, Int.reduceEq, Int.reduceNe, Int.reduceBEq, Int.reduceBNe, ne_eq, eq_self]
        exact ⟨by simp [gt], by simp [gt, e10], ⟨by simp [gt, e2], by simp [gt, e7], by simp [gt, e9]⟩, y, by simp [gt], hS⟩
    clear hx1 r0 r1 hc r2 hco m1 m2 hfar hS
    have e10o := e10
    clear e10 e2 e7 e9
    rintro F'' H' ⟨e11, e10, ⟨e2, e7, e9⟩, y, e12, hS⟩
    have hok := (hsn1.pg p hlt).1
    refine cut2 (aoE p sh ws1 y x n cap1 cap2 (some ⟨b1, o1, none⟩) (some ⟨b2, o2, none⟩) L) ?_ ?_
    · have hy1 := hS.look
      have r0 := fun o => rd_of hy1 o
      by_cases k4 : pgK sh p (pgAt sh ws1 p) = 4
      · have g4 : (pgK sh p (pgAt sh ws1 p) == 4) = true := beq_iff_eq.2 k4
        have g1 : (pgK sh p (pgAt sh ws1 p) == 1) = false := beq_eq_false_iff_ne.2 (by omega)
        have hbo := Ad.ok_body hok k4
        have hx1 := hS.lk 7 L6
        have r1 := fun o n => rdn_of hx1 o n
        obtain ⟨A, hA⟩ : ∃ A, pgA sh p (pgAt sh ws1 p) = A := ⟨_, rfl⟩
        have hpgA : page sh.p sh.c sh.m A = sh.c + A := page_yes hm (by omega) (by omega)
        have q0 : (0 : Int) ≤ sh.c + A := by omega
        have q1 : sh.c + A < (n : Int) := by omega
        have hatA : ws1 (sh.c + A).toNat = pgAt sh ws1 A := by unfold pgAt; rw [hpgA]
        have huA : U (pgAt sh ws1 A) := by rw [← hatA]; exact hU1 _ (by omega)
        obtain ⟨c, T, f, hc, hco, hfar⟩ := part_cell hS 5 L4 (hq1 (sh.c + A).toNat (by omega))
        rw [hatA] at hco
        obtain ⟨m1, m2⟩ := hfar 7 x _ (by decide) L6
        obtain ⟨m3, m4⟩ := hfar 0 y _ (by decide) rfl
        have r2 := fun o => rd_of hc o
        have nyx := hS.neq 0 7 (by decide) rfl L6
        have nxy := hS.qen 0 7 (by decide) rfl L6
        simp only [e11, e10, e2, e7, e9, e12, hy1, r0, g4, g1, pgV, hA, ↓D0, ↓D1, ↓D2, ↓D3, ↓D4, ↓D5, ↓D6, ↓D7, ↓D8, ↓D9, ↓D10, U0, U1, U2, U3, U4, U5, U6, U7, U8, U9, U10, ↓reduceIte, Nat.reduceAdd, Nat.reduceMul, Nat.reduceSub, Nat.reduceEqDiff, Nat.reduceBEq, Nat.reduceLeDiff, Nat.reduceLT, Int.reduceAdd, Int.reduceMul, Int.reduceSub, Int.reduceLT, Int.reduceLE, Int.reduceToNat, Int.reduceEq, Int.reduceNe, Int.reduceBEq, Int.reduceBNe, ne_eq, eq_self]
        refine draw_cut [(x, #[.int .i64 sh.p, .int .i64 sh.c, .int .i64 sh.m], []), (b1, c, []), (y, pgV sh p (pgAt sh ws1 p), [])] (aoD p A sh ws1 y x n cap1 cap2 (some ⟨b1, o1, none⟩) (some ⟨b2, o2, none⟩) L) (by simp only [hx1, hc, hy1, ↓D0, ↓D1, ↓D2, ↓D3, ↓D4, ↓D5, ↓D6, ↓D7, ↓D8, ↓D9, ↓D10, U0, U1, U2, U3, U4, U5, U6, U7, U8, U9, U10, ↓reduceIte, Nat.reduceAdd, Nat.reduceMul, Nat.reduceSub, Nat.reduceEqDiff, Nat.reduceBEq, Nat.reduceLeDiff, Nat.reduceLT, Int.reduceAdd, Int.reduceMul, Int.reduceSub, Int.reduceLT, Int.reduceLE, Int.reduceToNat, Int.reduceEq, Int.reduceNe, Int.reduceBEq, Int.reduceBNe, ne_eq, eq_self]) ?_ ?_
        · simp only [e11, e10, e2, e7, e9, e12, hx1, r1, hy1, r0, q0, q1, hc, r2, hco, m1, m2, m3, m4, nxy, nyx, u_page, hpgA, u_readpg sh A huA, pgV, hA, ↓e_dalt2, ↓D0, ↓D1, ↓D2, ↓D3, ↓D4, ↓D5, ↓D6, ↓D7, ↓D8, ↓D9, ↓D10, U0, U1, U2, U3, U4, U5, U6, U7, U8, U9, U10, ↓reduceIte, Nat.reduceAdd, Nat.reduceMul, Nat.reduceSub, Nat.reduceEqDiff, Nat.reduceBEq, Nat.reduceLeDiff, Nat.reduceLT, Int.reduceAdd, Int.reduceMul, Int.reduceSub, Int.reduceLT, Int.reduceLE, Int.reduceToNat, Int.reduceEq, Int.reduceNe, Int.reduceBEq, Int.reduceBNe, ne_eq, eq_self]
          refine ⟨⟨?_, ?_⟩, ?_⟩
          all_goals
            refine newB_intro fun z hz f3 f4 => ?_
            have nxz : (x = z) = False := f3 x (by rw [hx1]; rfl)
            have nzx : (z = x) = False := f4 x (by rw [hx1]; rfl)
            have nyz : (y = z) = False := f3 y (by rw [hy1]; rfl)
            have nzy : (z = y) = False := f4 y (by rw [hy1]; rfl)
            have nbz : (b1 = z) = False := f3 b1 (by rw [hc]; rfl)
            have nzb : (z = b1) = False := f4 b1 (by rw [hc]; rfl)
            have hS := hS.new f3 (.cells (pgV sh A (pgAt sh ws1 A)) 59 (0, 0))
            simp only [e11, e10, e2, e7, e9, e12, hx1, r1, hy1, r0, q0, q1, hc, r2, hco, m1, m2, m3, m4, nxy, nyx, nxz, nzx, nyz, nzy, nbz, nzb, u_page, hpgA, u_readpg sh A huA, pgV, hA, Ev.upd_upd, ↓D0, ↓D1, ↓D2, ↓D3, ↓D4, ↓D5, ↓D6, ↓D7, ↓D8, ↓D9, ↓D10, U0, U1, U2, U3, U4, U5, U6, U7, U8, U9, U10, ↓reduceIte, Nat.reduceAdd, Nat.reduceMul, Nat.reduceSub, Nat.reduceEqDiff, Nat.reduceBEq, Nat.reduceLeDiff, Nat.reduceLT, Int.reduceAdd, Int.reduceMul, Int.reduceSub, Int.reduceLT, Int.reduceLE, Int.reduceToNat, Int.reduceEq, Int.reduceNe, Int.reduceBEq, Int.reduceBNe, ne_eq, eq_self]
            exact ⟨by simp [gt, e11], by simp [gt, e10], ⟨by simp [gt, e2], by simp [gt, e7], by simp [gt, e9]⟩, by simp [gt, e12], z, by simp [gt], hS⟩
        · clear hy1 r0 hx1 r1 hc r2 hco hfar m1 m2 m3 m4 nxy nyx hS e10 e11 e2 e7 e9 e12
          rintro F3 H' ⟨e11, e10, ⟨e2, e7, e9⟩, e12, z, e15, hS⟩
          have hz1 := hS.look
          have r0 := fun o => rd_of hz1 o
          have kb : ∀ mb : Bool, (mb = true ↔ (pgK sh A (pgAt sh ws1 A) = 1 ∧ pgA sh A (pgAt sh ws1 A) = 0)) → (mb = true ↔ (HeldBy sh ws1 0 p ∨ BodyOf sh ws1 0 p)) := fun mb hmb => by
            unfold BodyOf HeldBy
            rw [hA, hmb, k4]
            constructor
            · intro h; exact .inr ⟨rfl, h⟩
            · rintro (h | h)
              · omega
              · exact h.2
          cases j1 : (pgK sh A (pgAt sh ws1 A) == 1)
          · simp only [e11, e10, e2, e7, e9, e12, e15, hz1, r0, j1, pgV, ↓D0, ↓D1, ↓D2, ↓D3, ↓D4, ↓D5, ↓D6, ↓D7, ↓D8, ↓D9, ↓D10, U0, U1, U2, U3, U4, U5, U6, U7, U8, U9, U10, ↓reduceIte, Nat.reduceAdd, Nat.reduceMul, Nat.reduceSub, Nat.reduceEqDiff, Nat.reduceBEq, Nat.reduceLeDiff, Nat.reduceLT, Int.reduceAdd, Int.reduceMul, Int.reduceSub, Int.reduceLT, Int.reduceLE, Int.reduceToNat, Int.reduceEq, Int.reduceNe, Int.reduceBEq, Int.reduceBNe, ne_eq, eq_self]
            exact ⟨false, by simp [gt], kb false ⟨fun h => (by cases h), fun h => absurd h.1 (beq_eq_false_iff_ne.1 j1)⟩, by simp [gt, e11], by simp [gt, e10], ⟨by simp [gt, e2], by simp [gt, e7], by simp [gt, e9]⟩, by simp [gt, e12], hS.tail⟩
          · cases j0 : (pgA sh A (pgAt sh ws1 A) == 0)
            · simp only [e11, e10, e2, e7, e9, e12, e15, hz1, r0, j1, j0, pgV, ↓D0, ↓D1, ↓D2, ↓D3, ↓D4, ↓D5, ↓D6, ↓D7, ↓D8, ↓D9, ↓D10, U0, U1, U2, U3, U4, U5, U6, U7, U8, U9, U10, ↓reduceIte, Nat.reduceAdd, Nat.reduceMul, Nat.reduceSub, Nat.reduceEqDiff, Nat.reduceBEq, Nat.reduceLeDiff, Nat.reduceLT, Int.reduceAdd, Int.reduceMul, Int.reduceSub, Int.reduceLT, Int.reduceLE, Int.reduceToNat, Int.reduceEq, Int.reduceNe, Int.reduceBEq, Int.reduceBNe, ne_eq, eq_self]
              exact ⟨false, by simp [gt], kb false ⟨fun h => (by cases h), fun h => absurd h.2 (beq_eq_false_iff_ne.1 j0)⟩, by simp [gt, e11], by simp [gt, e10], ⟨by simp [gt, e2], by simp [gt, e7], by simp [gt, e9]⟩, by simp [gt, e12], hS.tail⟩
            · simp only [e11, e10, e2, e7, e9, e12, e15, hz1, r0, j1, j0, pgV, ↓D0, ↓D1, ↓D2, ↓D3, ↓D4, ↓D5, ↓D6, ↓D7, ↓D8, ↓D9, ↓D10, U0, U1, U2, U3, U4, U5, U6, U7, U8, U9, U10, ↓reduceIte, Nat.reduceAdd, Nat.reduceMul, Nat.reduceSub, Nat.reduceEqDiff, Nat.reduceBEq, Nat.reduceLeDiff, Nat.reduceLT, Int.reduceAdd, Int.reduceMul, Int.reduceSub, Int.reduceLT, Int.reduceLE, Int.reduceToNat, Int.reduceEq, Int.reduceNe, Int.reduceBEq, Int.reduceBNe, ne_eq, eq_self]
              exact ⟨true, by simp [gt], kb true ⟨fun _ => ⟨beq_iff_eq.1 j1, beq_iff_eq.1 j0⟩, fun _ => rfl⟩, by simp [gt, e11], by simp [gt, e10], ⟨by simp [gt, e2], by simp [gt, e7], by simp [gt, e9]⟩, by simp [gt, e12], hS.tail⟩
      · have g4 : (pgK sh p (pgAt sh ws1 p) == 4) = false := beq_eq_false_iff_ne.2 k4
        have kb : ∀ mb : Bool, (mb = true ↔ (pgK sh p (pgAt sh ws1 p) = 1 ∧ pgA sh p (pgAt sh ws1 p) = 0)) → (mb = true ↔ (HeldBy sh ws1 0 p ∨ BodyOf sh ws1 0 p)) := fun mb hmb => by
          unfold BodyOf HeldBy
          rw [hmb]
          constructor
          · intro h; exact .inl h
          · rintro (h | h)
            · exact h
            · exact absurd h.1 k4
        cases j1 : (pgK sh p (pgAt sh ws1 p) == 1)
        · simp only [e11, e10, e2, e7, e9, e12, hy1, r0, j1, g4, pgV, ↓D0, ↓D1, ↓D2, ↓D3, ↓D4, ↓D5, ↓D6, ↓D7, ↓D8, ↓D9, ↓D10, U0, U1, U2, U3, U4, U5, U6, U7, U8, U9, U10, ↓reduceIte, Nat.reduceAdd, Nat.reduceMul, Nat.reduceSub, Nat.reduceEqDiff, Nat.reduceBEq, Nat.reduceLeDiff, Nat.reduceLT, Int.reduceAdd, Int.reduceMul, Int.reduceSub, Int.reduceLT, Int.reduceLE, Int.reduceToNat, Int.reduceEq, Int.reduceNe, Int.reduceBEq, Int.reduceBNe, ne_eq, eq_self]
          exact ⟨false, by simp [gt], kb false ⟨fun h => (by cases h), fun h => absurd h.1 (beq_eq_false_iff_ne.1 j1)⟩, by simp [gt, e11], by simp [gt, e10], ⟨by simp [gt, e2], by simp [gt, e7], by simp [gt, e9]⟩, by simp [gt, e12], hS⟩
        · cases j0 : (pgA sh p (pgAt sh ws1 p) == 0)
          · simp only [e11, e10, e2, e7, e9, e12, hy1, r0, j1, j0, g4, pgV, ↓D0, ↓D1, ↓D2, ↓D3, ↓D4, ↓D5, ↓D6, ↓D7, ↓D8, ↓D9, ↓D10, U0, U1, U2, U3, U4, U5, U6, U7, U8, U9, U10, ↓reduceIte, Nat.reduceAdd, Nat.reduceMul, Nat.reduceSub, Nat.reduceEqDiff, Nat.reduceBEq, Nat.reduceLeDiff, Nat.reduceLT, Int.reduceAdd, Int.reduceMul, Int.reduceSub, Int.reduceLT, Int.reduceLE, Int.reduceToNat, Int.reduceEq, Int.reduceNe, Int.reduceBEq, Int.reduceBNe, ne_eq, eq_self]
            exact ⟨false, by simp [gt], kb false ⟨fun h => (by cases h), fun h => absurd h.2 (beq_eq_false_iff_ne.1 j0)⟩, by simp [gt, e11], by simp [gt, e10], ⟨by simp [gt, e2], by simp [gt, e7], by simp [gt, e9]⟩, by simp [gt, e12], hS⟩
          · simp only [e11, e10, e2, e7, e9, e12, hy1, r0, j1, j0, g4, pgV, ↓D0, ↓D1, ↓D2, ↓D3, ↓D4, ↓D5, ↓D6, ↓D7, ↓D8, ↓D9, ↓D10, U0, U1, U2, U3, U4, U5, U6, U7, U8, U9, U10, ↓reduceIte, Nat.reduceAdd, Nat.reduceMul, Nat.reduceSub, Nat.reduceEqDiff, Nat.reduceBEq, Nat.reduceLeDiff, Nat.reduceLT, Int.reduceAdd, Int.reduceMul, Int.reduceSub, Int.reduceLT, Int.reduceLE, Int.reduceToNat, Int.reduceEq, Int.reduceNe, Int.reduceBEq, Int.reduceBNe, ne_eq, eq_self]
            exact ⟨true, by simp [gt], kb true ⟨fun _ => ⟨beq_iff_eq.1 j1, beq_iff_eq.1 j0⟩, fun _ => rfl⟩, by simp [gt, e11], by simp [gt, e10], ⟨by simp [gt, e2], by simp [gt, e7], by simp [gt, e9]⟩, by simp [gt, e12], hS⟩
    · clear hS e10 e11 e2 e7 e9 e12
      rintro F3 H' ⟨mb, e14, hmb, e11, e10, ⟨e2, e7, e9⟩, e12, hS⟩
      have hpage := hgn.mine hm hsn1 (by decide) (by omega) (q := p) (by omega) hlt mb hmb
      obtain ⟨c, T, f, hc, hco, hfar⟩ := part_cell hS 5 L4 (hq1 (sh.c + (p : Int)).toNat (by omega))
      rw [hat] at hco
      have hat2 : ws2 (sh.c + (p : Int)).toNat = pgAt sh ws2 p := by unfold pgAt; rw [hpg]
      obtain ⟨c', T', f', hc', hco', hfar'⟩ := part_cell hS 1 L0 (hq2 (sh.c + (p : Int)).toNat (by omega))
      rw [hat2] at hco'
      have r2 := fun o => rd_of hc o
      have r3 := fun o => rd_of hc' o
      rcases hpage with ⟨rfl, hpe⟩ | ⟨rfl, hp0, hp1⟩
      · have gne : (pgAt sh ws2 p != pgAt sh ws1 p) = false := by rw [hpe]; simp
        simp only [e14, e11, e10, e2, e7, e9, e12, p0, p1, r2, r3, hco, hco', gne, ↓D0, ↓D1, ↓D2, ↓D3, ↓D4, ↓D5, ↓D6, ↓D7, ↓D8, ↓D9, ↓D10, U0, U1, U2, U3, U4, U5, U6, U7, U8, U9, U10, ↓reduceIte, Nat.reduceAdd, Nat.reduceMul, Nat.reduceSub, Nat.reduceEqDiff, Nat.reduceBEq, Nat.reduceLeDiff, Nat.reduceLT, Int.reduceAdd, Int.reduceMul, Int.reduceSub, Int.reduceLT, Int.reduceLE, Int.reduceToNat, Int.reduceEq, Int.reduceNe, Int.reduceBEq, Int.reduceBNe, ne_eq, eq_self]
        refine loop_intro (aoS p false sh ws1 y x n cap1 cap2 (some ⟨b1, o1, none⟩) (some ⟨b2, o2, none⟩) L) (fun F' _ => (16 - iv (gt F' 17)).toNat)
          ⟨0, by omega, by simp [gt], by simp [gt, e14], by simp [gt, e10], ⟨by simp [gt, e2], by simp [gt, e7], by simp [gt, e9]⟩, by simp [gt, e12], hS⟩ ?_
        clear hS hc hc' r2 r3 hco hco' hfar hfar' e14 e11 e10 e2 e7 e9 e12
        have nH : ¬ HeldBy sh ws1 0 p := fun h => by have := hmb.2 (.inl h); cases this
        rintro F4 H' ⟨i, hi, e17, e14, e10, ⟨e2, e7, e9⟩, e12, hS⟩
        by_cases hil : (i : Int) < 16
        · have d2 : decide ((i : Int) < 16) = true := decide_eq_true hil
          have wj : w64 ((i : Int) + 1) = (i : Int) + 1 := w64_eq (by omega) (by omega)
          have hsl : slot sh.p sh.c sh.m p i = sh.c + sh.p + p * 16 + i := slot_yes hm (by omega) hlt (by omega) hil
          have s0 : (0 : Int) ≤ sh.c + sh.p + p * 16 + i := by omega
          have s1 : sh.c + sh.p + (p : Int) * 16 + i < (n : Int) := by omega
          have hx1 := hS.lk 7 L6
          have r0 := fun o n => rdn_of hx1 o n
          have hy1 := hS.look
          have r1 := fun o => rd_of hy1 o
          obtain ⟨c, T, f, hc, hco, hfar⟩ := part_cell hS 5 L4 (hq1 (sh.c + sh.p + (p : Int) * 16 + i).toNat (by omega))
          obtain ⟨c', T', f', hc', hco', hfar'⟩ := part_cell hS 1 L0 (hq2 (sh.c + sh.p + (p : Int) * 16 + i).toNat (by omega))
          have hat1 : ws1 (sh.c + sh.p + (p : Int) * 16 + i).toNat = slAt sh ws1 p i := rfl
          have hat2 : ws2 (sh.c + sh.p + (p : Int) * 16 + i).toNat = slAt sh ws2 p i := rfl
          rw [hat1] at hco
          rw [hat2] at hco'
          have hu1 : U (slAt sh ws1 p i) := hU1 _ (by omega)
          have r2 := fun o => rd_of hc o
          have r3 := fun o => rd_of hc' o
          simp only [e17, e14, e10, e2, e7, e9, e12, hx1, r0, d2, u_slot, hsl, s0, s1, r2, hco, u_readsl hu1, ↓D0, ↓D1, ↓D2, ↓D3, ↓D4, ↓D5, ↓D6, ↓D7, ↓D8, ↓D9, ↓D10, U0, U1, U2, U3, U4, U5, U6, U7, U8, U9, U10, ↓reduceIte, Nat.reduceAdd, Nat.reduceMul, Nat.reduceSub, Nat.reduceEqDiff, Nat.reduceBEq, Nat.reduceLeDiff, Nat.reduceLT, Int.reduceAdd, Int.reduceMul, Int.reduceSub, Int.reduceLT, Int.reduceLE, Int.reduceToNat, Int.reduceEq, Int.reduceNe, Int.reduceBEq, Int.reduceBNe, ne_eq, eq_self]
          refine newB_intro fun z hz f3 f4 => ?_
          have nxz : (x = z) = False := f3 x (by rw [hx1]; rfl)
          have nzx : (z = x) = False := f4 x (by rw [hx1]; rfl)
          have nyz : (y = z) = False := f3 y (by rw [hy1]; rfl)
          have nzy : (z = y) = False := f4 y (by rw [hy1]; rfl)
          have nbz : (b1 = z) = False := f3 b1 (by rw [hc]; rfl)
          have nzb : (z = b1) = False := f4 b1 (by rw [hc]; rfl)
          have nbz' : (b2 = z) = False := f3 b2 (by rw [hc']; rfl)
          have nzb' : (z = b2) = False := f4 b2 (by rw [hc']; rfl)
          have hS := hS.new f3 (.cells #[.int .i64 (slK (slAt sh ws1 p i)), .int .i64 (slA (slAt sh ws1 p i))] 64 (0, 0))
          have own : ∀ b : Bool, (b = true ↔ (pgK sh p (pgAt sh ws1 p) = 2 ∧ slK (slAt sh ws1 p i) = 2 ∧ slA (slAt sh ws1 p i) = 0)) → (b != (slAt sh ws2 p i != slAt sh ws1 p i)) = false := fun b hb => by
            rcases hgn.own hm hsn1 (by decide) (by omega) (q := p) (i := i) (by omega) hlt nH (by omega) hil b hb with ⟨rfl, e⟩ | ⟨rfl, e⟩
            · rw [e]; simp
            · simp [e]
          obtain ⟨K, hK⟩ : ∃ K, pgK sh p (pgAt sh ws1 p) = K := ⟨_, rfl⟩
          obtain ⟨zK, hzK⟩ : ∃ K, slK (slAt sh ws1 p i) = K := ⟨_, rfl⟩
          obtain ⟨zA, hzA⟩ : ∃ K, slA (slAt sh ws1 p i) = K := ⟨_, rfl⟩
          rw [hK, hzK, hzA] at own
          cases k2 : (K == 2)
          · have ow := own false ⟨fun h => (by cases h), fun h => absurd h.1 (beq_eq_false_iff_ne.1 k2)⟩
            simp only [e17, e14, e10, e2, e7, e9, e12, hx1, r0, hy1, r1, hK, hzK, hzA, s0, s1, hc, hc', r2, hco, r3, hco', nxz, nzx, nyz, nzy, nbz, nzb, nbz', nzb', pgV, k2, ow, wrap_w64, wj, Ev.upd_upd, ↓D0, ↓D1, ↓D2, ↓D3, ↓D4, ↓D5, ↓D6, ↓D7, ↓D8, ↓D9, ↓D10, U0, U1, U2, U3, U4, U5, U6, U7, U8, U9, U10, ↓reduceIte, Nat.reduceAdd, Nat.reduceMul, Nat.reduceSub, Nat.reduceEqDiff, Nat.reduceBEq, Nat.reduceLeDiff, Nat.reduceLT, Int.reduceAdd, Int.reduceMul, Int.reduceSub, Int.reduceLT, Int.reduceLE, Int.reduceToNat, Int.reduceEq, Int.reduceNe, Int.reduceBEq, Int.reduceBNe, ne_eq, eq_self]
            exact ⟨⟨i + 1, by omega, by simp [gt, wj], by simp [gt, e14], by simp [gt, e10], ⟨by simp [gt, e2], by simp [gt, e7], by simp [gt, e9]⟩, by simp [gt, e12], by rw [hzK, hzA] at hS; exact hS.tail⟩, by simp [gt, iv, e17, wj]; omega⟩
          · cases z2 : (zK == 2)
            · have ow := own false ⟨fun h => (by cases h), fun h => absurd h.2.1 (beq_eq_false_iff_ne.1 z2)⟩
              simp only [e17, e14, e10, e2, e7, e9, e12, hx1, r0, hy1, r1, hK, hzK, hzA, s0, s1, hc, hc', r2, hco, r3, hco', nxz, nzx, nyz, nzy, nbz, nzb, nbz', nzb', pgV, k2, z2, ow, wrap_w64, wj, Ev.upd_upd, ↓D0, ↓D1, ↓D2, ↓D3, ↓D4, ↓D5, ↓D6, ↓D7, ↓D8, ↓D9, ↓D10, U0, U1, U2, U3, U4, U5, U6, U7, U8, U9, U10, ↓reduceIte, Nat.reduceAdd, Nat.reduceMul, Nat.reduceSub, Nat.reduceEqDiff, Nat.reduceBEq, Nat.reduceLeDiff, Nat.reduceLT, Int.reduceAdd, Int.reduceMul, Int.reduceSub, Int.reduceLT, Int.reduceLE, Int.reduceToNat, Int.reduceEq, Int.reduceNe, Int.reduceBEq, Int.reduceBNe, ne_eq, eq_self]
              exact ⟨⟨i + 1, by omega, by simp [gt, wj], by simp [gt, e14], by simp [gt, e10], ⟨by simp [gt, e2], by simp [gt, e7], by simp [gt, e9]⟩, by simp [gt, e12], by rw [hzK, hzA] at hS; exact hS.tail⟩, by simp [gt, iv, e17, wj]; omega⟩
            · cases a0 : (zA == 0)
              · have ow := own false ⟨fun h => (by cases h), fun h => absurd h.2.2 (beq_eq_false_iff_ne.1 a0)⟩
                simp only [e17, e14, e10, e2, e7, e9, e12, hx1, r0, hy1, r1, hK, hzK, hzA, s0, s1, hc, hc', r2, hco, r3, hco', nxz, nzx, nyz, nzy, nbz, nzb, nbz', nzb', pgV, k2, z2, a0, ow, wrap_w64, wj, Ev.upd_upd, ↓D0, ↓D1, ↓D2, ↓D3, ↓D4, ↓D5, ↓D6, ↓D7, ↓D8, ↓D9, ↓D10, U0, U1, U2, U3, U4, U5, U6, U7, U8, U9, U10, ↓reduceIte, Nat.reduceAdd, Nat.reduceMul, Nat.reduceSub, Nat.reduceEqDiff, Nat.reduceBEq, Nat.reduceLeDiff, Nat.reduceLT, Int.reduceAdd, Int.reduceMul, Int.reduceSub, Int.reduceLT, Int.reduceLE, Int.reduceToNat, Int.reduceEq, Int.reduceNe, Int.reduceBEq, Int.reduceBNe, ne_eq, eq_self]
                exact ⟨⟨i + 1, by omega, by simp [gt, wj], by simp [gt, e14], by simp [gt, e10], ⟨by simp [gt, e2], by simp [gt, e7], by simp [gt, e9]⟩, by simp [gt, e12], by rw [hzK, hzA] at hS; exact hS.tail⟩, by simp [gt, iv, e17, wj]; omega⟩
              · have ow := own true ⟨fun _ => ⟨beq_iff_eq.1 k2, beq_iff_eq.1 z2, beq_iff_eq.1 a0⟩, fun _ => rfl⟩
                simp only [e17, e14, e10, e2, e7, e9, e12, hx1, r0, hy1, r1, hK, hzK, hzA, s0, s1, hc, hc', r2, hco, r3, hco', nxz, nzx, nyz, nzy, nbz, nzb, nbz', nzb', pgV, k2, z2, a0, ow, wrap_w64, wj, Ev.upd_upd, ↓D0, ↓D1, ↓D2, ↓D3, ↓D4, ↓D5, ↓D6, ↓D7, ↓D8, ↓D9, ↓D10, U0, U1, U2, U3, U4, U5, U6, U7, U8, U9, U10, ↓reduceIte, Nat.reduceAdd, Nat.reduceMul, Nat.reduceSub, Nat.reduceEqDiff, Nat.reduceBEq, Nat.reduceLeDiff, Nat.reduceLT, Int.reduceAdd, Int.reduceMul, Int.reduceSub, Int.reduceLT, Int.reduceLE, Int.reduceToNat, Int.reduceEq, Int.reduceNe, Int.reduceBEq, Int.reduceBNe, ne_eq, eq_self]
                exact ⟨⟨i + 1, by omega, by simp [gt, wj], by simp [gt, e14], by simp [gt, e10], ⟨by simp [gt, e2], by simp [gt, e7], by simp [gt, e9]⟩, by simp [gt, e12], by rw [hzK, hzA] at hS; exact hS.tail⟩, by simp [gt, iv, e17, wj]; omega⟩
        · have d2 : decide ((i : Int) < 16) = false := decide_eq_false hil
          simp only [e17, e14, e10, e2, e7, e9, e12, d2, wrap_w64, wi, ↓D0, ↓D1, ↓D2, ↓D3, ↓D4, ↓D5, ↓D6, ↓D7, ↓D8, ↓D9, ↓D10, U0, U1, U2, U3, U4, U5, U6, U7, U8, U9, U10, ↓reduceIte, Nat.reduceAdd, Nat.reduceMul, Nat.reduceSub, Nat.reduceEqDiff, Nat.reduceBEq, Nat.reduceLeDiff, Nat.reduceLT, Int.reduceAdd, Int.reduceMul, Int.reduceSub, Int.reduceLT, Int.reduceLE, Int.reduceToNat, Int.reduceEq, Int.reduceNe, Int.reduceBEq, Int.reduceBNe, ne_eq, eq_self]
          exact ⟨⟨p + 1, by omega, by simp [gt, wi], ⟨by simp [gt, e2], by simp [gt, e7], by simp [gt, e9]⟩, hS.tail⟩, by simp [gt, iv, e10o, wi]; omega⟩
      · have gne : (pgAt sh ws2 p != pgAt sh ws1 p) = true := by rw [hp0]; simpa using fun e => hp1 e.symm
        have gz : (pgAt sh ws2 p != 0) = false := by rw [hp0]; rfl
        simp only [e14, e11, e10, e2, e7, e9, e12, p0, p1, r2, r3, hco, hco', gne, gz, ↓D0, ↓D1, ↓D2, ↓D3, ↓D4, ↓D5, ↓D6, ↓D7, ↓D8, ↓D9, ↓D10, U0, U1, U2, U3, U4, U5, U6, U7, U8, U9, U10, ↓reduceIte, Nat.reduceAdd, Nat.reduceMul, Nat.reduceSub, Nat.reduceEqDiff, Nat.reduceBEq, Nat.reduceLeDiff, Nat.reduceLT, Int.reduceAdd, Int.reduceMul, Int.reduceSub, Int.reduceLT, Int.reduceLE, Int.reduceToNat, Int.reduceEq, Int.reduceNe, Int.reduceBEq, Int.reduceBNe, ne_eq, eq_self]
        refine loop_intro (aoS p true sh ws1 y x n cap1 cap2 (some ⟨b1, o1, none⟩) (some ⟨b2, o2, none⟩) L) (fun F' _ => (16 - iv (gt F' 17)).toNat)
          ⟨0, by omega, by simp [gt], by simp [gt, e14], by simp [gt, e10], ⟨by simp [gt, e2], by simp [gt, e7], by simp [gt, e9]⟩, by simp [gt, e12], hS⟩ ?_
        clear hS hc hc' r2 r3 hco hco' hfar hfar' e14 e11 e10 e2 e7 e9 e12
        rintro F4 H' ⟨i, hi, e17, e14, e10, ⟨e2, e7, e9⟩, e12, hS⟩
        cases d2 : decide ((i : Int) < 16)
        all_goals
          simp only [e17, e14, e10, e2, e7, e9, e12, d2, wrap_w64, wi, ↓D0, ↓D1, ↓D2, ↓D3, ↓D4, ↓D5, ↓D6, ↓D7, ↓D8, ↓D9, ↓D10, U0, U1, U2, U3, U4, U5, U6, U7, U8, U9, U10, ↓reduceIte, Nat.reduceAdd, Nat.reduceMul, Nat.reduceSub, Nat.reduceEqDiff, Nat.reduceBEq, Nat.reduceLeDiff, Nat.reduceLT, Int.reduceAdd, Int.reduceMul, Int.reduceSub, Int.reduceLT, Int.reduceLE, Int.reduceToNat, Int.reduceEq, Int.reduceNe, Int.reduceBEq, Int.reduceBNe, ne_eq, eq_self]
          exact ⟨⟨p + 1, by omega, by simp [gt, wi], ⟨by simp [gt, e2], by simp [gt, e7], by simp [gt, e9]⟩, hS.tail⟩, by simp [gt, iv, e10o, wi]; omega⟩
  have d1 : decide ((p : Int) < sh.p) = false := decide_eq_false hlt
  simp only [e10, e2, e7, e9, hx1, r0, d1, ↓D0, ↓D1, ↓D2, ↓D3, ↓D4, ↓D5, ↓D6, ↓D7, ↓D8, ↓D9, ↓D10, U0, U1, U2, U3, U4, U5, U6, U7, U8, U9, U10, ↓reduceIte, Nat.reduceAdd, Nat.reduceMul, Nat.reduceSub, Nat.reduceEqDiff, Nat.reduceBEq, Nat.reduceLeDiff, Nat.reduceLT, Int.reduceAdd, Int.reduceMul, Int.reduceSub, Int.reduceLT, Int.reduceLE, Int.reduceToNat, Int.reduceEq, Int.reduceNe, Int.reduceBEq, Int.reduceBNe, ne_eq, eq_self]
  refine loop_intro (aoM sh x n cap1 cap2 (some ⟨b1, o1, none⟩) (some ⟨b2, o2, none⟩) L) (fun F' _ => (sh.m - iv (gt F' 21)).toNat)
    ⟨0, by omega, by simp [gt], ⟨by simp [gt, e2], by simp [gt, e7], by simp [gt, e9]⟩, hS⟩ ?_
  clear hS hx1 r0 r1 e10 e2 e7 e9 d1
  rintro F' H' ⟨i, hi, e21, ⟨e2, e7, e9⟩, hS⟩
  have hx1 := hS.lk 6 L6
  have r0 := fun o => rd_of hx1 o
  have r1 := fun o n => rdn_of hx1 o n
  by_cases hil : (i : Int) < sh.m
  · have d1 : decide ((i : Int) < sh.m) = true := decide_eq_true hil
    have wi : w64 ((i : Int) + 1) = (i : Int) + 1 := w64_eq (by omega) (by omega)
    have hcm : (1 : Int) * sh.m + sh.m ≤ sh.c * sh.m := by
      have : ((1 : Int) + 1) * sh.m ≤ sh.c * sh.m := Int.mul_le_mul_of_nonneg_right (by omega) (by omega)
      omega
    obtain ⟨M0, hM0⟩ : ∃ M0, sh.c + sh.p + sh.p * 16 + 0 * sh.m + (i : Int) = M0 := ⟨_, rfl⟩
    obtain ⟨M1, hM1⟩ : ∃ M1, sh.c + sh.p + sh.p * 16 + 1 * sh.m + (i : Int) = M1 := ⟨_, rfl⟩
    have hm0 : mag sh.p sh.c sh.m 0 (i : Int) = M0 := by rw [← hM0]; exact mag_yes hm (by decide) (by omega) (by omega) hil
    have hm1 : mag sh.p sh.c sh.m 1 (i : Int) = M1 := by rw [← hM1]; exact mag_yes hm (by decide) (by omega) (by omega) hil
    have t0 : (0 : Int) ≤ M0 := by omega
    have t1 : M0 < (n : Int) := by omega
    have u0 : (0 : Int) ≤ M1 := by omega
    have u1 : M1 < (n : Int) := by omega
    obtain ⟨c, T, f, hc, hco, hfar⟩ := part_cell hS 0 L0 (hq2 M0.toNat (by omega))
    obtain ⟨c', T', f', hc', hco', hfar'⟩ := part_cell hS 0 L0 (hq2 M1.toNat (by omega))
    obtain ⟨c'', T'', f'', hc'', hco'', hfar''⟩ := part_cell hS 4 L4 (hq1 M1.toNat (by omega))
    have v0 : ws2 M0.toNat = 0 := by
      have := hgn.m (i : Int) (by omega) hil
      unfold mgAt at this; rw [hM0] at this; exact this
    have v1 : ws2 M1.toNat = ws1 M1.toNat := by
      have := hgn.pt.mo 1 (i : Int) (by decide) (by omega) (by decide) (by omega) hil
      unfold mgAt at this; rw [hM1] at this; exact this
    rw [v0] at hco
    rw [v1] at hco'
    have k0 : rd H' b2 (o2 + M0.toNat) = some (.int .u64 0) := by rw [rd_of hc]; exact hco
    have k1 : rd H' b2 (o2 + M1.toNat) = some (.int .u64 (ws1 M1.toNat)) := by rw [rd_of hc']; exact hco'
    have k2 : rd H' b1 (o1 + M1.toNat) = some (.int .u64 (ws1 M1.toNat)) := by rw [rd_of hc'']; exact hco''
    have kk : (ws1 M1.toNat != ws1 M1.toNat) = false := by simp
    simp only [e21, e2, e7, e9, hx1, r0, r1, d1, u_mag, hm0, hm1, t0, t1, u0, u1, k0, k1, k2, kk, wrap_w64, wi, ↓D0, ↓D1, ↓D2, ↓D3, ↓D4, ↓D5, ↓D6, ↓D7, ↓D8, ↓D9, ↓D10, U0, U1, U2, U3, U4, U5, U6, U7, U8, U9, U10, ↓reduceIte, Nat.reduceAdd, Nat.reduceMul, Nat.reduceSub, Nat.reduceEqDiff, Nat.reduceBEq, Nat.reduceLeDiff, Nat.reduceLT, Int.reduceAdd, Int.reduceMul, Int.reduceSub, Int.reduceLT, Int.reduceLE, Int.reduceToNat, Int.reduceEq, Int.reduceNe, Int.reduceBEq, Int.reduceBNe, ne_eq, eq_self]
    exact ⟨⟨i + 1, by omega, by simp [gt, wi], ⟨by simp [gt, e2], by simp [gt, e7], by simp [gt, e9]⟩, hS⟩, by simp [gt, iv, e21, wi]; omega⟩
  · have d1 : decide ((i : Int) < sh.m) = false := decide_eq_false hil
    simp only [e21, e2, e7, e9, hx1, r0, d1, ↓D0, ↓D1, ↓D2, ↓D3, ↓D4, ↓D5, ↓D6, ↓D7, ↓D8, ↓D9, ↓D10, U0, U1, U2, U3, U4, U5, U6, U7, U8, U9, U10, ↓reduceIte, Nat.reduceAdd, Nat.reduceMul, Nat.reduceSub, Nat.reduceEqDiff, Nat.reduceBEq, Nat.reduceLeDiff, Nat.reduceLT, Int.reduceAdd, Int.reduceMul, Int.reduceSub, Int.reduceLT, Int.reduceLE, Int.reduceToNat, Int.reduceEq, Int.reduceNe, Int.reduceBEq, Int.reduceBNe, ne_eq, eq_self]
    exact fin _ hS
end

theorem l_adoptothers {W : World} {a : Option Addr} {n cap : Nat} {ws : Nat → Int} (p q m : Int) (hp : -9223372036854775808 ≤ p ∧ p ≤ 9223372036854775807) (hq : -9223372036854775808 ≤ q ∧ q ≤ 9223372036854775807) (hm : -9223372036854775808 ≤ m ∧ m ≤ 9223372036854775807)
    (hn : n ≤ 9223372036854775807) (hr : RowU (memOf W) a n ws) (hU : ∀ i, i < n → IntKind.u64.has (ws i)) :
    CallP Try.prog W 6 #[.agg #[.int .i64 p, .int .i64 q, .int .i64 m], .slice a n cap] (memOf W) fun v H' => v = .bool true ∧ Sub (memOf W) H' :=
  (c_adoptothers ⟨p, q, m⟩ hr (fun i hi => u64_bd (hU i hi)) (Sep.one _)).mono fun v H' ⟨h1, h2⟩ => ⟨h1, h2.head⟩

end Go.Proofs.Ytfopnendmcpglaa
