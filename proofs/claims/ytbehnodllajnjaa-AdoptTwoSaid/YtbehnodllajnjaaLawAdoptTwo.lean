/-
  AdoptTwo, walked: two adopters of the same dead one that take turns. Conditions: none.
-/
import Derived.Test.YtbehnodllajnjaaAdoptK
import Derived.Test.YtbehnodllajnjaaRowV
set_option linter.unusedVariables false
set_option linter.unusedSimpArgs false
set_option maxRecDepth 8000
namespace Go.Proofs.Ytbehnodllajnjaa
open Go Go.Ev Go.Pl Go.Ma

theorem ad_left_le {t : Ad} (h : t.wf) (hp : 0 ≤ t.s.p ∧ 0 ≤ t.s.m) : t.left ≤ 54 * t.s.p + t.s.m + 4 := by
  cases hd : t.dn
  · obtain ⟨hm, he, hcd, ar⟩ := h.of hd
    unfold Ad.Ar at ar
    have sb := slots_bd t.pA
    rcases (by omega : t.nx = 0 ∨ t.nx = 1 ∨ t.nx = 2 ∨ t.nx = 3 ∨ t.nx = 4 ∨ t.nx = 5 ∨ t.nx = 6 ∨ t.nx = 7 ∨ t.nx = 8 ∨ t.nx = 9 ∨ t.nx = 10 ∨ t.nx = 11 ∨ t.nx = 12 ∨ t.nx = 13) with hn | hn | hn | hn | hn | hn | hn | hn | hn | hn | hn | hn | hn | hn <;> rw [Ad.left_eq hd hn]
    · show 54 * t.s.p + t.s.m + 4 ≤ _; omega
    · show 54 * t.s.p + t.s.m + 3 ≤ _; omega
    · show 54 * t.s.p + t.s.m + 2 ≤ _; omega
    · show 3 * (t.s.p - t.at') + 51 * t.s.p + t.s.m + 1 ≤ _; omega
    · show 3 * (t.s.p - t.at') + 51 * t.s.p + t.s.m ≤ _; omega
    · show 3 * (t.s.p - t.at') + 51 * t.s.p + t.s.m - 1 ≤ _; omega
    · show 18 * (t.s.p - t.at') + 33 * t.s.p + t.s.m + 1 ≤ _; omega
    · show 18 * (t.s.p - t.at') + 33 * t.s.p + t.s.m - t.i ≤ _; omega
    · show 18 * (t.s.p - t.at') + 33 * t.s.p + t.s.m - 16 ≤ _; omega
    · show t.s.m - t.i + 33 * t.s.p + 1 ≤ _; omega
    · show 33 * (t.s.p - t.at') + 1 ≤ _; omega
    · show 33 * (t.s.p - t.at') - 32 + 2 * (slots t.pA - t.i) ≤ _; omega
    · show 33 * (t.s.p - t.at') - 33 + 2 * (slots t.pA - t.i) ≤ _; omega
    · show (1 : Int) ≤ _; omega
  · rw [Ad.left_0 hd]; omega
theorem ad_left {t : Ad} {w : Wd} {m : Int} (h : t.wf) (hl : t.left ≤ max 0 m) : (t.step w).1.left ≤ max 0 (m - 1) := by
  cases hd : t.dn
  · have := Ad.step_left (w := w) h hd; omega
  · rw [Ad.step_dn hd]
    have := Ad.left_0 hd
    show t.left ≤ _; omega

section
variable {W : World} {H h : Hp} {l : List Hp} {n cap : Nat} {a : Option Addr} {ws : Nat → Int} {n' cap' : Nat} {a' : Option Addr} {B : Nat → Bool}

def atI (sh : Sh) (n' cap' : Nat) (a' : Option Addr) (b ka kb s : Nat) (L : List Hp) (second : Bool) (F' : Fr) (H' : Hp) : Prop :=
  ∃ (i : Int) (ta tb : Ad) (w : Wd), 0 ≤ i ∧ i ≤ 60 * sh.p + sh.m + 20 ∧ gt F' (if second then 12 else 11) = .int .i64 i ∧
    (gt F' 2 = .slice a' n' cap' ∧ gt F' 7 = .pointer (some ⟨b, 0, none⟩) ∧ gt F' 8 = .pointer (some ⟨ka, 0, none⟩) ∧ gt F' 9 = .pointer (some ⟨kb, 0, none⟩) ∧ gt F' 10 = .int .i64 (60 * sh.p + sh.m + 20)) ∧
    Ad.Two sh 0 1 2 ta tb w ∧ (second = true → ta.left ≤ max 0 (60 * sh.p + sh.m + 20 - i) ∧ tb.left ≤ max 0 (60 * sh.p + sh.m + 20 - i)) ∧ Sep (adB ka ta :: adB kb tb :: wB b s w :: wR s w :: L) H'

theorem c_adopttwo (sh : Sh) (hr : RowU h a n ws) (hU : ∀ i, i < n → U (ws i)) (hv : RowV h a' n' (fun i => .bool (B i))) (hS : Sep (h :: l) H) :
    CallP Try.prog W 11 #[.agg #[.int .i64 sh.p, .int .i64 sh.c, .int .i64 sh.m], .slice a n cap, .slice a' n' cap'] H fun v H' => v = .bool true ∧ Sep (h :: l) H' := by
  refine CallP.of mixed Try.func11 tr11 (by show 3 ≤ _; decide) fun W _ => ?_
  simp only [↓D0, ↓D1, ↓D2, ↓D3, ↓D4, ↓D5, ↓D6, ↓D7, ↓D8, ↓D9, U0, U1, U2, U3, U4, U5, U6, U7, U8, U9, U10, ↓reduceIte, Nat.reduceAdd, Nat.reduceMul, Nat.reduceSub, Nat.reduceEqDiff, Nat.reduceBEq, Nat.reduceLeDiff, Nat.reduceLT, Int.reduceAdd, Int.reduceMul, Int.reduceSub, Int.reduceLT, Int.reduceLE, Int.reduceToNat, Int.reduceEq, Int.reduceNe, Int.reduceBEq, Int.reduceBNe, ne_eq, eq_self]
  refine newB_intro fun x hx f1 f2 => ?_
  simp only [↓D0, ↓D1, ↓D2, ↓D3, ↓D4, ↓D5, ↓D6, ↓D7, ↓D8, ↓D9, U0, U1, U2, U3, U4, U5, U6, U7, U8, U9, U10, ↓reduceIte, Nat.reduceAdd, Nat.reduceMul, Nat.reduceSub, Nat.reduceEqDiff, Nat.reduceBEq, Nat.reduceLeDiff, Nat.reduceLT, Int.reduceAdd, Int.reduceMul, Int.reduceSub, Int.reduceLT, Int.reduceLE, Int.reduceToNat, Int.reduceEq, Int.reduceNe, Int.reduceBEq, Int.reduceBNe, ne_eq, eq_self]
  have hS := hS.new f1 (.cells #[.int .i64 sh.p, .int .i64 sh.c, .int .i64 sh.m] 25 (0, 0))
  refine callT_of (c_awake18 hS) ?_
  rintro v H' ⟨rfl, hS⟩
  have hx1 := hS.look
  have r0 := fun o => rd_of hx1 o
  have r1 := fun o n => rdn_of hx1 o n
  simp only [hx1, r1, ↓D0, ↓D1, ↓D2, ↓D3, ↓D4, ↓D5, ↓D6, ↓D7, ↓D8, ↓D9, U0, U1, U2, U3, U4, U5, U6, U7, U8, U9, U10, ↓reduceIte, Nat.reduceAdd, Nat.reduceMul, Nat.reduceSub, Nat.reduceEqDiff, Nat.reduceBEq, Nat.reduceLeDiff, Nat.reduceLT, Int.reduceAdd, Int.reduceMul, Int.reduceSub, Int.reduceLT, Int.reduceLE, Int.reduceToNat, Int.reduceEq, Int.reduceNe, Int.reduceBEq, Int.reduceBNe, ne_eq, eq_self]
  refine callT_of (c_fair (sh := sh) hS) ?_
  rintro v H' ⟨rfl, hS⟩
  have hx1 := hS.look
  have r0 := fun o => rd_of hx1 o
  have r1 := fun o n => rdn_of hx1 o n
  cases hfair : (may sh.p sh.c sh.m && ((n : Int) == words sh.p sh.c sh.m))
  · simp only [hfair, ↓D0, ↓D1, ↓D2, ↓D3, ↓D4, ↓D5, ↓D6, ↓D7, ↓D8, ↓D9, U0, U1, U2, U3, U4, U5, U6, U7, U8, U9, U10, ↓reduceIte, Nat.reduceAdd, Nat.reduceMul, Nat.reduceSub, Nat.reduceEqDiff, Nat.reduceBEq, Nat.reduceLeDiff, Nat.reduceLT, Int.reduceAdd, Int.reduceMul, Int.reduceSub, Int.reduceLT, Int.reduceLE, Int.reduceToNat, Int.reduceEq, Int.reduceNe, Int.reduceBEq, Int.reduceBNe, ne_eq, eq_self]
    exact hS.tail
  have hfair' := hfair
  simp only [Bool.and_eq_true, beq_iff_eq] at hfair
  obtain ⟨hm, hn⟩ := hfair
  by_cases hc3 : sh.c < 3
  · have g3 : decide (sh.c < 3) = true := decide_eq_true hc3
    simp only [hfair', hx1, r0, g3, ↓D0, ↓D1, ↓D2, ↓D3, ↓D4, ↓D5, ↓D6, ↓D7, ↓D8, ↓D9, U0, U1, U2, U3, U4, U5, U6, U7, U8, U9, U10, ↓reduceIte, Nat.reduceAdd, Nat.reduceMul, Nat.reduceSub, Nat.reduceEqDiff, Nat.reduceBEq, Nat.reduceLeDiff, Nat.reduceLT, Int.reduceAdd, Int.reduceMul, Int.reduceSub, Int.reduceLT, Int.reduceLE, Int.reduceToNat, Int.reduceEq, Int.reduceNe, Int.reduceBEq, Int.reduceBNe, ne_eq, eq_self]
    exact hS.tail
  have g3 : decide (sh.c < 3) = false := decide_eq_false hc3
  have hwl := words_le hm
  have hn2 : n ≤ 2000 := by omega
  obtain ⟨a1, a2, a3, a4, a5, a6⟩ := (may_iff _ _ _).1 hm
  simp only [hfair', hx1, r0, g3, ↓D0, ↓D1, ↓D2, ↓D3, ↓D4, ↓D5, ↓D6, ↓D7, ↓D8, ↓D9, U0, U1, U2, U3, U4, U5, U6, U7, U8, U9, U10, ↓reduceIte, Nat.reduceAdd, Nat.reduceMul, Nat.reduceSub, Nat.reduceEqDiff, Nat.reduceBEq, Nat.reduceLeDiff, Nat.reduceLT, Int.reduceAdd, Int.reduceMul, Int.reduceSub, Int.reduceLT, Int.reduceLE, Int.reduceToNat, Int.reduceEq, Int.reduceNe, Int.reduceBEq, Int.reduceBNe, ne_eq, eq_self]
  refine callT_of (c_fill hn2 hr hS.p1) ?_
  rintro v H' ⟨b, s, rfl, hS⟩
  have hx1 := hS.lk 3 rfl
  have r0 := fun o => rd_of hx1 o
  have r1 := fun o n => rdn_of hx1 o n
  simp only [↓D0, ↓D1, ↓D2, ↓D3, ↓D4, ↓D5, ↓D6, ↓D7, ↓D8, ↓D9, U0, U1, U2, U3, U4, U5, U6, U7, U8, U9, U10, ↓reduceIte, Nat.reduceAdd, Nat.reduceMul, Nat.reduceSub, Nat.reduceEqDiff, Nat.reduceBEq, Nat.reduceLeDiff, Nat.reduceLT, Int.reduceAdd, Int.reduceMul, Int.reduceSub, Int.reduceLT, Int.reduceLE, Int.reduceToNat, Int.reduceEq, Int.reduceNe, Int.reduceBEq, Int.reduceBNe, ne_eq, eq_self]
  refine draw_intro [(x, #[.int .i64 sh.p, .int .i64 sh.c, .int .i64 sh.m], [])] (by simp only [hx1, ↓D0, ↓D1, ↓D2, ↓D3, ↓D4, ↓D5, ↓D6, ↓D7, ↓D8, ↓D9, U0, U1, U2, U3, U4, U5, U6, U7, U8, U9, U10, ↓reduceIte, Nat.reduceAdd, Nat.reduceMul, Nat.reduceSub, Nat.reduceEqDiff, Nat.reduceBEq, Nat.reduceLeDiff, Nat.reduceLT, Int.reduceAdd, Int.reduceMul, Int.reduceSub, Int.reduceLT, Int.reduceLE, Int.reduceToNat, Int.reduceEq, Int.reduceNe, Int.reduceBEq, Int.reduceBNe, ne_eq, eq_self]) ?_
  simp only [hx1, r1, ↓D0, ↓D1, ↓D2, ↓D3, ↓D4, ↓D5, ↓D6, ↓D7, ↓D8, ↓D9, U0, U1, U2, U3, U4, U5, U6, U7, U8, U9, U10, ↓reduceIte, Nat.reduceAdd, Nat.reduceMul, Nat.reduceSub, Nat.reduceEqDiff, Nat.reduceBEq, Nat.reduceLeDiff, Nat.reduceLT, Int.reduceAdd, Int.reduceMul, Int.reduceSub, Int.reduceLT, Int.reduceLE, Int.reduceToNat, Int.reduceEq, Int.reduceNe, Int.reduceBEq, Int.reduceBNe, ne_eq, eq_self]
  refine callT_of (c_adnew (sh := sh) hS) ?_
  rintro v H' ⟨ka, rfl, hS⟩
  have hx1 := hS.lk 4 rfl
  simp only [hx1, ↓D0, ↓D1, ↓D2, ↓D3, ↓D4, ↓D5, ↓D6, ↓D7, ↓D8, ↓D9, U0, U1, U2, U3, U4, U5, U6, U7, U8, U9, U10, ↓reduceIte, Nat.reduceAdd, Nat.reduceMul, Nat.reduceSub, Nat.reduceEqDiff, Nat.reduceBEq, Nat.reduceLeDiff, Nat.reduceLT, Int.reduceAdd, Int.reduceMul, Int.reduceSub, Int.reduceLT, Int.reduceLE, Int.reduceToNat, Int.reduceEq, Int.reduceNe, Int.reduceBEq, Int.reduceBNe, ne_eq, eq_self]
  refine callT_of (c_adnew (sh := sh) hS) ?_
  rintro v H' ⟨kb, rfl, hS⟩
  have hx1 := hS.lk 5 rfl
  have hof := rowW_of (ws := ws) hn hU
  have hpl := mul_bd sh.c sh.m (by omega) a4 a5 a6
  have hN : 3 ≤ (rowW n ws).n := by
    have : (n : Int) = words sh.p sh.c sh.m := hn
    unfold words at this
    rw [if_pos hm] at this
    show 3 ≤ n
    omega
  simp only [hx1, u_putst, ↓D0, ↓D1, ↓D2, ↓D3, ↓D4, ↓D5, ↓D6, ↓D7, ↓D8, ↓D9, U0, U1, U2, U3, U4, U5, U6, U7, U8, U9, U10, ↓reduceIte, Nat.reduceAdd, Nat.reduceMul, Nat.reduceSub, Nat.reduceEqDiff, Nat.reduceBEq, Nat.reduceLeDiff, Nat.reduceLT, Int.reduceAdd, Int.reduceMul, Int.reduceSub, Int.reduceLT, Int.reduceLE, Int.reduceToNat, Int.reduceEq, Int.reduceNe, Int.reduceBEq, Int.reduceBNe, ne_eq, eq_self]
  refine callT_of (c_put 0 (putSt 1 0) (by decide) (by omega) hS.p2.p3.p1) ?_
  rintro v H' ⟨rfl, hS⟩
  simp only [u_putst, ↓D0, ↓D1, ↓D2, ↓D3, ↓D4, ↓D5, ↓D6, ↓D7, ↓D8, ↓D9, U0, U1, U2, U3, U4, U5, U6, U7, U8, U9, U10, ↓reduceIte, Nat.reduceAdd, Nat.reduceMul, Nat.reduceSub, Nat.reduceEqDiff, Nat.reduceBEq, Nat.reduceLeDiff, Nat.reduceLT, Int.reduceAdd, Int.reduceMul, Int.reduceSub, Int.reduceLT, Int.reduceLE, Int.reduceToNat, Int.reduceEq, Int.reduceNe, Int.reduceBEq, Int.reduceBNe, ne_eq, eq_self]
  refine callT_of (c_put 1 (putSt 1 0) (by decide) (by show (1 : Int) < ((rowW n ws).n : Int); omega) hS) ?_
  rintro v H' ⟨rfl, hS⟩
  simp only [u_putst, ↓D0, ↓D1, ↓D2, ↓D3, ↓D4, ↓D5, ↓D6, ↓D7, ↓D8, ↓D9, U0, U1, U2, U3, U4, U5, U6, U7, U8, U9, U10, ↓reduceIte, Nat.reduceAdd, Nat.reduceMul, Nat.reduceSub, Nat.reduceEqDiff, Nat.reduceBEq, Nat.reduceLeDiff, Nat.reduceLT, Int.reduceAdd, Int.reduceMul, Int.reduceSub, Int.reduceLT, Int.reduceLE, Int.reduceToNat, Int.reduceEq, Int.reduceNe, Int.reduceBEq, Int.reduceBNe, ne_eq, eq_self]
  refine callT_of (c_put 2 (putSt 2 0) (by decide) (by show (2 : Int) < ((rowW n ws).n : Int); omega) hS) ?_
  rintro v H' ⟨rfl, hS⟩
  have hx1 := hS.lk 5 rfl
  have r0 := fun o => rd_of hx1 o
  have wm1 : w64 (60 * sh.p) = 60 * sh.p := w64_eq (by omega) (by omega)
  have wm2 : w64 (60 * sh.p + sh.m) = 60 * sh.p + sh.m := w64_eq (by omega) (by omega)
  have wm3 : w64 (60 * sh.p + sh.m + 20) = 60 * sh.p + sh.m + 20 := w64_eq (by omega) (by omega)
  simp only [hx1, r0, wrap_w64, wm1, wm2, wm3, ↓D0, ↓D1, ↓D2, ↓D3, ↓D4, ↓D5, ↓D6, ↓D7, ↓D8, ↓D9, U0, U1, U2, U3, U4, U5, U6, U7, U8, U9, U10, ↓reduceIte, Nat.reduceAdd, Nat.reduceMul, Nat.reduceSub, Nat.reduceEqDiff, Nat.reduceBEq, Nat.reduceLeDiff, Nat.reduceLT, Int.reduceAdd, Int.reduceMul, Int.reduceSub, Int.reduceLT, Int.reduceLE, Int.reduceToNat, Int.reduceEq, Int.reduceNe, Int.reduceBEq, Int.reduceBNe, ne_eq, eq_self]
  have hof2 : ((((rowW n ws).put 0 (putSt 1 0)).put 1 (putSt 1 0)).put 2 (putSt 2 0)).of sh := Wd.of_put (Wd.of_put (Wd.of_put hof (U_putSt ..) _) (U_putSt ..) _) (U_putSt ..) _
  have hT := Ad.Two.init hm hof2 (by omega)
    (by rw [get_put (by decide) (by decide), if_neg (by decide), get_put (by decide) (by decide), if_neg (by decide), get_put (by decide) (by decide), if_pos rfl]; rfl)
    (by rw [get_put (by decide) (by decide), if_neg (by decide), get_put (by decide) (by decide), if_pos rfl]; rfl)
    (by rw [get_put (by decide) (by decide), if_pos rfl]; rfl)
  refine loop_intro (atI sh n' cap' a' b ka kb s (h :: sg x (.cells #[.int .i64 sh.p, .int .i64 sh.c, .int .i64 sh.m] 25 (0, 0)) :: l) false) (fun F' _ => (60 * sh.p + sh.m + 20 - iv (gt F' 11)).toNat)
    ⟨0, _, _, _, by omega, by omega, rfl, ⟨rfl, rfl, rfl, rfl, rfl⟩, hT, (fun h => by cases h), hS.p3.p3.p1⟩ ?_
  rintro F' H' ⟨i, ta, tb, w, h0, h1, e11, ⟨e2, e7, e8, e9, e10⟩, hT, -, hS⟩
  have e11 : gt F' 11 = .int .i64 i := e11
  have ofa : ta.dn = false → w.of ta.s := fun _ => by rw [hT.wa.2.1]; exact hT.of
  have ofb : tb.dn = false → w.of tb.s := fun _ => by rw [hT.wb.2.1]; exact hT.of
  by_cases hlt : i < 60 * sh.p + sh.m + 20
  · have d1 : decide (i < 60 * sh.p + sh.m + 20) = true := decide_eq_true hlt
    have wi : w64 (i + 1) = i + 1 := w64_eq (by omega) (by omega)
    cases hturn : (decide (i < (n' : Int)) && B i.toNat)
    · have go : ∀ {F2 : Fr} {H2 : Hp}, gt F2 11 = .int .i64 (i + 1) → gt F2 2 = .slice a' n' cap' → gt F2 7 = .pointer (some ⟨b, 0, none⟩) → gt F2 8 = .pointer (some ⟨ka, 0, none⟩) → gt F2 9 = .pointer (some ⟨kb, 0, none⟩) → gt F2 10 = .int .i64 (60 * sh.p + sh.m + 20) →
          Sep (adB ka (ta.step w).1 :: wB b s (ta.step w).2 :: wR s (ta.step w).2 :: adB kb tb :: h :: sg x (.cells #[.int .i64 sh.p, .int .i64 sh.c, .int .i64 sh.m] 25 (0, 0)) :: l) H2 →
          atI sh n' cap' a' b ka kb s (h :: sg x (.cells #[.int .i64 sh.p, .int .i64 sh.c, .int .i64 sh.m] 25 (0, 0)) :: l) false F2 H2 := fun q1 q2 q3 q4 q5 q6 q7 =>
        ⟨i + 1, _, _, _, by omega, by omega, q1, ⟨q2, q3, q4, q5, q6⟩, hT.step, (fun h => by cases h), q7.p3.p1⟩
      cases hd : decide (i < (n' : Int))
      · simp only [e11, e2, e7, e8, e9, e10, d1, hd, ↓D0, ↓D1, ↓D2, ↓D3, ↓D4, ↓D5, ↓D6, ↓D7, ↓D8, ↓D9, U0, U1, U2, U3, U4, U5, U6, U7, U8, U9, U10, ↓reduceIte, Nat.reduceAdd, Nat.reduceMul, Nat.reduceSub, Nat.reduceEqDiff, Nat.reduceBEq, Nat.reduceLeDiff, Nat.reduceLT, Int.reduceAdd, Int.reduceMul, Int.reduceSub, Int.reduceLT, Int.reduceLE, Int.reduceToNat, Int.reduceEq, Int.reduceNe, Int.reduceBEq, Int.reduceBNe, ne_eq, eq_self]
        refine callT_of (c_adstep hT.wa.1 ofa hS.p1.r3) ?_
        rintro v H' ⟨rfl, hS⟩
        simp only [e11, e2, e7, e8, e9, e10, wrap_w64, wi, ↓D0, ↓D1, ↓D2, ↓D3, ↓D4, ↓D5, ↓D6, ↓D7, ↓D8, ↓D9, U0, U1, U2, U3, U4, U5, U6, U7, U8, U9, U10, ↓reduceIte, Nat.reduceAdd, Nat.reduceMul, Nat.reduceSub, Nat.reduceEqDiff, Nat.reduceBEq, Nat.reduceLeDiff, Nat.reduceLT, Int.reduceAdd, Int.reduceMul, Int.reduceSub, Int.reduceLT, Int.reduceLE, Int.reduceToNat, Int.reduceEq, Int.reduceNe, Int.reduceBEq, Int.reduceBNe, ne_eq, eq_self]
        exact ⟨go (by simp [gt]) (by simp [gt, e2]) (by simp [gt, e7]) (by simp [gt, e8]) (by simp [gt, e9]) (by simp [gt, e10]) hS, by simp [gt, iv, e11]; omega⟩
      · have hlt2 : i < (n' : Int) := of_decide_eq_true hd
        have hB : B i.toNat = false := by rw [hd] at hturn; simpa using hturn
        obtain ⟨xb, xo, rfl, hrd⟩ := (hv.sub (hS.sb h (by simp))).at' (i := i.toNat) (by omega)
        rw [hB] at hrd
        simp only [e11, e2, e7, e8, e9, e10, d1, hd, h0, hlt2, hrd, ↓D0, ↓D1, ↓D2, ↓D3, ↓D4, ↓D5, ↓D6, ↓D7, ↓D8, ↓D9, U0, U1, U2, U3, U4, U5, U6, U7, U8, U9, U10, ↓reduceIte, Nat.reduceAdd, Nat.reduceMul, Nat.reduceSub, Nat.reduceEqDiff, Nat.reduceBEq, Nat.reduceLeDiff, Nat.reduceLT, Int.reduceAdd, Int.reduceMul, Int.reduceSub, Int.reduceLT, Int.reduceLE, Int.reduceToNat, Int.reduceEq, Int.reduceNe, Int.reduceBEq, Int.reduceBNe, ne_eq, eq_self]
        refine callT_of (c_adstep hT.wa.1 ofa hS.p1.r3) ?_
        rintro v H' ⟨rfl, hS⟩
        simp only [e11, e2, e7, e8, e9, e10, wrap_w64, wi, ↓D0, ↓D1, ↓D2, ↓D3, ↓D4, ↓D5, ↓D6, ↓D7, ↓D8, ↓D9, U0, U1, U2, U3, U4, U5, U6, U7, U8, U9, U10, ↓reduceIte, Nat.reduceAdd, Nat.reduceMul, Nat.reduceSub, Nat.reduceEqDiff, Nat.reduceBEq, Nat.reduceLeDiff, Nat.reduceLT, Int.reduceAdd, Int.reduceMul, Int.reduceSub, Int.reduceLT, Int.reduceLE, Int.reduceToNat, Int.reduceEq, Int.reduceNe, Int.reduceBEq, Int.reduceBNe, ne_eq, eq_self]
        exact ⟨go (by simp [gt]) (by simp [gt, e2]) (by simp [gt, e7]) (by simp [gt, e8]) (by simp [gt, e9]) (by simp [gt, e10]) hS, by simp [gt, iv, e11]; omega⟩
    · rw [Bool.and_eq_true] at hturn
      obtain ⟨hd, hB⟩ := hturn
      have hlt2 : i < (n' : Int) := of_decide_eq_true hd
      obtain ⟨xb, xo, rfl, hrd⟩ := (hv.sub (hS.sb h (by simp))).at' (i := i.toNat) (by omega)
      rw [hB] at hrd
      simp only [e11, e2, e7, e8, e9, e10, d1, hd, h0, hlt2, hrd, ↓D0, ↓D1, ↓D2, ↓D3, ↓D4, ↓D5, ↓D6, ↓D7, ↓D8, ↓D9, U0, U1, U2, U3, U4, U5, U6, U7, U8, U9, U10, ↓reduceIte, Nat.reduceAdd, Nat.reduceMul, Nat.reduceSub, Nat.reduceEqDiff, Nat.reduceBEq, Nat.reduceLeDiff, Nat.reduceLT, Int.reduceAdd, Int.reduceMul, Int.reduceSub, Int.reduceLT, Int.reduceLE, Int.reduceToNat, Int.reduceEq, Int.reduceNe, Int.reduceBEq, Int.reduceBNe, ne_eq, eq_self]
      refine callT_of (c_adstep hT.wb.1 ofb hS.r3) ?_
      rintro v H' ⟨rfl, hS⟩
      simp only [e11, e2, e7, e8, e9, e10, wrap_w64, wi, ↓D0, ↓D1, ↓D2, ↓D3, ↓D4, ↓D5, ↓D6, ↓D7, ↓D8, ↓D9, U0, U1, U2, U3, U4, U5, U6, U7, U8, U9, U10, ↓reduceIte, Nat.reduceAdd, Nat.reduceMul, Nat.reduceSub, Nat.reduceEqDiff, Nat.reduceBEq, Nat.reduceLeDiff, Nat.reduceLT, Int.reduceAdd, Int.reduceMul, Int.reduceSub, Int.reduceLT, Int.reduceLE, Int.reduceToNat, Int.reduceEq, Int.reduceNe, Int.reduceBEq, Int.reduceBNe, ne_eq, eq_self]
      exact ⟨⟨i + 1, _, _, _, by omega, by omega, by simp [gt], ⟨by simp [gt, e2], by simp [gt, e7], by simp [gt, e8], by simp [gt, e9], by simp [gt, e10]⟩, hT.step2, (fun h => by cases h), hS.p3⟩, by simp [gt, iv, e11]; omega⟩
  have d1 : decide (i < 60 * sh.p + sh.m + 20) = false := decide_eq_false hlt
  simp only [e11, e2, e7, e8, e9, e10, d1, ↓D0, ↓D1, ↓D2, ↓D3, ↓D4, ↓D5, ↓D6, ↓D7, ↓D8, ↓D9, U0, U1, U2, U3, U4, U5, U6, U7, U8, U9, U10, ↓reduceIte, Nat.reduceAdd, Nat.reduceMul, Nat.reduceSub, Nat.reduceEqDiff, Nat.reduceBEq, Nat.reduceLeDiff, Nat.reduceLT, Int.reduceAdd, Int.reduceMul, Int.reduceSub, Int.reduceLT, Int.reduceLE, Int.reduceToNat, Int.reduceEq, Int.reduceNe, Int.reduceBEq, Int.reduceBNe, ne_eq, eq_self]
  have lA := ad_left_le hT.wa.1 (by rw [hT.wa.2.1]; omega)
  have lB := ad_left_le hT.wb.1 (by rw [hT.wb.2.1]; omega)
  rw [hT.wa.2.1] at lA
  rw [hT.wb.2.1] at lB
  refine loop_intro (atI sh n' cap' a' b ka kb s (h :: sg x (.cells #[.int .i64 sh.p, .int .i64 sh.c, .int .i64 sh.m] 25 (0, 0)) :: l) true) (fun F' _ => (60 * sh.p + sh.m + 20 - iv (gt F' 12)).toNat)
    ⟨0, ta, tb, w, by omega, by omega, rfl, ⟨by simp [gt, e2], by simp [gt, e7], by simp [gt, e8], by simp [gt, e9], by simp [gt, e10]⟩, hT, fun _ => by omega, hS⟩ ?_
  rintro F' H' ⟨i, ta, tb, w, h0, h1, e12, ⟨e2, e7, e8, e9, e10⟩, hT, hl, hS⟩
  have e12 : gt F' 12 = .int .i64 i := e12
  obtain ⟨l1, l2⟩ := hl rfl
  by_cases hlt : i < 60 * sh.p + sh.m + 20
  · have d1 : decide (i < 60 * sh.p + sh.m + 20) = true := decide_eq_true hlt
    have wi : w64 (i + 1) = i + 1 := w64_eq (by omega) (by omega)
    simp only [e12, e2, e7, e8, e9, e10, d1, ↓D0, ↓D1, ↓D2, ↓D3, ↓D4, ↓D5, ↓D6, ↓D7, ↓D8, ↓D9, U0, U1, U2, U3, U4, U5, U6, U7, U8, U9, U10, ↓reduceIte, Nat.reduceAdd, Nat.reduceMul, Nat.reduceSub, Nat.reduceEqDiff, Nat.reduceBEq, Nat.reduceLeDiff, Nat.reduceLT, Int.reduceAdd, Int.reduceMul, Int.reduceSub, Int.reduceLT, Int.reduceLE, Int.reduceToNat, Int.reduceEq, Int.reduceNe, Int.reduceBEq, Int.reduceBNe, ne_eq, eq_self]
    refine callT_of (c_adstep hT.wa.1 (fun _ => by rw [hT.wa.2.1]; exact hT.of) hS.p1.r3) ?_
    rintro v H' ⟨rfl, hS⟩
    have hT2 := hT.step
    simp only [e12, e2, e7, e8, e9, e10, ↓D0, ↓D1, ↓D2, ↓D3, ↓D4, ↓D5, ↓D6, ↓D7, ↓D8, ↓D9, U0, U1, U2, U3, U4, U5, U6, U7, U8, U9, U10, ↓reduceIte, Nat.reduceAdd, Nat.reduceMul, Nat.reduceSub, Nat.reduceEqDiff, Nat.reduceBEq, Nat.reduceLeDiff, Nat.reduceLT, Int.reduceAdd, Int.reduceMul, Int.reduceSub, Int.reduceLT, Int.reduceLE, Int.reduceToNat, Int.reduceEq, Int.reduceNe, Int.reduceBEq, Int.reduceBNe, ne_eq, eq_self]
    refine callT_of (c_adstep hT2.wb.1 (fun _ => by rw [hT2.wb.2.1]; exact hT2.of) hS.p3.p1.r3) ?_
    rintro v H' ⟨rfl, hS⟩
    simp only [e12, e2, e7, e8, e9, e10, wrap_w64, wi, ↓D0, ↓D1, ↓D2, ↓D3, ↓D4, ↓D5, ↓D6, ↓D7, ↓D8, ↓D9, U0, U1, U2, U3, U4, U5, U6, U7, U8, U9, U10, ↓reduceIte, Nat.reduceAdd, Nat.reduceMul, Nat.reduceSub, Nat.reduceEqDiff, Nat.reduceBEq, Nat.reduceLeDiff, Nat.reduceLT, Int.reduceAdd, Int.reduceMul, Int.reduceSub, Int.reduceLT, Int.reduceLE, Int.reduceToNat, Int.reduceEq, Int.reduceNe, Int.reduceBEq, Int.reduceBNe, ne_eq, eq_self]
    refine ⟨⟨i + 1, _, _, _, by omega, by omega, by simp [gt], ⟨by simp [gt, e2], by simp [gt, e7], by simp [gt, e8], by simp [gt, e9], by simp [gt, e10]⟩, hT2.step2, fun _ => ⟨?_, ?_⟩, hS.p3⟩, by simp [gt, iv, e12]; omega⟩
    · have := ad_left (w := w) hT.wa.1 l1; omega
    · have := ad_left (w := (ta.step w).2) hT.wb.1 l2; omega
  have d1 : decide (i < 60 * sh.p + sh.m + 20) = false := decide_eq_false hlt
  have dA : ta.dn = true := Ad.left_dn hT.wa.1 (by have := Ad.left_nn hT.wa.1; omega)
  have dB : tb.dn = true := Ad.left_dn hT.wb.1 (by have := Ad.left_nn hT.wb.1; omega)
  obtain ⟨hx4, he⟩ := hT.one dA dB
  have tf : (true == false) = false := rfl
  have ft : (false == true) = false := rfl
  have hwn : (2 : Int) < (w.n : Int) := by
    have hh : (w.n : Int) = words sh.p sh.c sh.m := hT.of.n
    have : ((rowW n ws).n : Int) = (n : Int) := rfl
    omega
  simp only [e12, e2, e7, e8, e9, e10, d1, ↓D0, ↓D1, ↓D2, ↓D3, ↓D4, ↓D5, ↓D6, ↓D7, ↓D8, ↓D9, U0, U1, U2, U3, U4, U5, U6, U7, U8, U9, U10, ↓reduceIte, Nat.reduceAdd, Nat.reduceMul, Nat.reduceSub, Nat.reduceEqDiff, Nat.reduceBEq, Nat.reduceLeDiff, Nat.reduceLT, Int.reduceAdd, Int.reduceMul, Int.reduceSub, Int.reduceLT, Int.reduceLE, Int.reduceToNat, Int.reduceEq, Int.reduceNe, Int.reduceBEq, Int.reduceBNe, ne_eq, eq_self]
  refine callT_of (c_addone hS) ?_
  rintro v H' ⟨rfl, hS⟩
  simp only [e12, e2, e7, e8, e9, e10, dA, ↓D0, ↓D1, ↓D2, ↓D3, ↓D4, ↓D5, ↓D6, ↓D7, ↓D8, ↓D9, U0, U1, U2, U3, U4, U5, U6, U7, U8, U9, U10, ↓reduceIte, Nat.reduceAdd, Nat.reduceMul, Nat.reduceSub, Nat.reduceEqDiff, Nat.reduceBEq, Nat.reduceLeDiff, Nat.reduceLT, Int.reduceAdd, Int.reduceMul, Int.reduceSub, Int.reduceLT, Int.reduceLE, Int.reduceToNat, Int.reduceEq, Int.reduceNe, Int.reduceBEq, Int.reduceBNe, ne_eq, eq_self]
  refine callT_of (c_addone hS.p1) ?_
  rintro v H' ⟨rfl, hS⟩
  simp only [e12, e2, e7, e8, e9, e10, dB, ↓D0, ↓D1, ↓D2, ↓D3, ↓D4, ↓D5, ↓D6, ↓D7, ↓D8, ↓D9, U0, U1, U2, U3, U4, U5, U6, U7, U8, U9, U10, ↓reduceIte, Nat.reduceAdd, Nat.reduceMul, Nat.reduceSub, Nat.reduceEqDiff, Nat.reduceBEq, Nat.reduceLeDiff, Nat.reduceLT, Int.reduceAdd, Int.reduceMul, Int.reduceSub, Int.reduceLT, Int.reduceLE, Int.reduceToNat, Int.reduceEq, Int.reduceNe, Int.reduceBEq, Int.reduceBNe, ne_eq, eq_self]
  refine callT_of (c_aderr hS.p1) ?_
  rintro v H' ⟨rfl, hS⟩
  simp only [e12, e2, e7, e8, e9, e10, ↓D0, ↓D1, ↓D2, ↓D3, ↓D4, ↓D5, ↓D6, ↓D7, ↓D8, ↓D9, U0, U1, U2, U3, U4, U5, U6, U7, U8, U9, U10, ↓reduceIte, Nat.reduceAdd, Nat.reduceMul, Nat.reduceSub, Nat.reduceEqDiff, Nat.reduceBEq, Nat.reduceLeDiff, Nat.reduceLT, Int.reduceAdd, Int.reduceMul, Int.reduceSub, Int.reduceLT, Int.reduceLE, Int.reduceToNat, Int.reduceEq, Int.reduceNe, Int.reduceBEq, Int.reduceBNe, ne_eq, eq_self]
  refine callT_of (c_aderr hS.p1) ?_
  rintro v H' ⟨rfl, hS⟩
  rcases he with ⟨ea, eb⟩ | ⟨eb, ea⟩
  · rcases eb with eb | eb
    all_goals
      simp only [e12, e2, e7, e8, e9, e10, ea, eb, tf, ft, ↓D0, ↓D1, ↓D2, ↓D3, ↓D4, ↓D5, ↓D6, ↓D7, ↓D8, ↓D9, U0, U1, U2, U3, U4, U5, U6, U7, U8, U9, U10, ↓reduceIte, Nat.reduceAdd, Nat.reduceMul, Nat.reduceSub, Nat.reduceEqDiff, Nat.reduceBEq, Nat.reduceLeDiff, Nat.reduceLT, Int.reduceAdd, Int.reduceMul, Int.reduceSub, Int.reduceLT, Int.reduceLE, Int.reduceToNat, Int.reduceEq, Int.reduceNe, Int.reduceBEq, Int.reduceBNe, ne_eq, eq_self]
      refine callT_of (c_aderr hS.p1) ?_
      rintro v H' ⟨rfl, hS⟩
      simp only [e12, e2, e7, e8, e9, e10, ea, eb, tf, ft, ↓D0, ↓D1, ↓D2, ↓D3, ↓D4, ↓D5, ↓D6, ↓D7, ↓D8, ↓D9, U0, U1, U2, U3, U4, U5, U6, U7, U8, U9, U10, ↓reduceIte, Nat.reduceAdd, Nat.reduceMul, Nat.reduceSub, Nat.reduceEqDiff, Nat.reduceBEq, Nat.reduceLeDiff, Nat.reduceLT, Int.reduceAdd, Int.reduceMul, Int.reduceSub, Int.reduceLT, Int.reduceLE, Int.reduceToNat, Int.reduceEq, Int.reduceNe, Int.reduceBEq, Int.reduceBNe, ne_eq, eq_self]
      refine callT_of (c_aderr hS.p1) ?_
      rintro v H' ⟨rfl, hS⟩
      have w4 : w64 4 = 4 := by decide
      have w5 : w64 5 = 5 := by decide
      simp only [e12, e2, e7, e8, e9, e10, ea, eb, wrap_w64, w4, w5, ↓D0, ↓D1, ↓D2, ↓D3, ↓D4, ↓D5, ↓D6, ↓D7, ↓D8, ↓D9, U0, U1, U2, U3, U4, U5, U6, U7, U8, U9, U10, ↓reduceIte, Nat.reduceAdd, Nat.reduceMul, Nat.reduceSub, Nat.reduceEqDiff, Nat.reduceBEq, Nat.reduceLeDiff, Nat.reduceLT, Int.reduceAdd, Int.reduceMul, Int.reduceSub, Int.reduceLT, Int.reduceLE, Int.reduceToNat, Int.reduceEq, Int.reduceNe, Int.reduceBEq, Int.reduceBNe, ne_eq, eq_self]
      refine callT_of (c_look 2 (by decide) hwn hS.tail.tail) ?_
      rintro v H' ⟨rfl, hS⟩
      simp only [hx4, u_putst, ↓D0, ↓D1, ↓D2, ↓D3, ↓D4, ↓D5, ↓D6, ↓D7, ↓D8, ↓D9, U0, U1, U2, U3, U4, U5, U6, U7, U8, U9, U10, ↓reduceIte, Nat.reduceAdd, Nat.reduceMul, Nat.reduceSub, Nat.reduceEqDiff, Nat.reduceBEq, Nat.reduceLeDiff, Nat.reduceLT, Int.reduceAdd, Int.reduceMul, Int.reduceSub, Int.reduceLT, Int.reduceLE, Int.reduceToNat, Int.reduceEq, Int.reduceNe, Int.reduceBEq, Int.reduceBNe, ne_eq, eq_self]
      exact ⟨rfl, hS.tail.tail.p1.tail⟩
  · rcases ea with ea | ea
    all_goals
      simp only [e12, e2, e7, e8, e9, e10, ea, eb, tf, ft, ↓D0, ↓D1, ↓D2, ↓D3, ↓D4, ↓D5, ↓D6, ↓D7, ↓D8, ↓D9, U0, U1, U2, U3, U4, U5, U6, U7, U8, U9, U10, ↓reduceIte, Nat.reduceAdd, Nat.reduceMul, Nat.reduceSub, Nat.reduceEqDiff, Nat.reduceBEq, Nat.reduceLeDiff, Nat.reduceLT, Int.reduceAdd, Int.reduceMul, Int.reduceSub, Int.reduceLT, Int.reduceLE, Int.reduceToNat, Int.reduceEq, Int.reduceNe, Int.reduceBEq, Int.reduceBNe, ne_eq, eq_self]
      refine callT_of (c_aderr hS.p1) ?_
      rintro v H' ⟨rfl, hS⟩
      simp only [e12, e2, e7, e8, e9, e10, ea, eb, tf, ft, ↓D0, ↓D1, ↓D2, ↓D3, ↓D4, ↓D5, ↓D6, ↓D7, ↓D8, ↓D9, U0, U1, U2, U3, U4, U5, U6, U7, U8, U9, U10, ↓reduceIte, Nat.reduceAdd, Nat.reduceMul, Nat.reduceSub, Nat.reduceEqDiff, Nat.reduceBEq, Nat.reduceLeDiff, Nat.reduceLT, Int.reduceAdd, Int.reduceMul, Int.reduceSub, Int.reduceLT, Int.reduceLE, Int.reduceToNat, Int.reduceEq, Int.reduceNe, Int.reduceBEq, Int.reduceBNe, ne_eq, eq_self]
      refine callT_of (c_aderr hS.p1) ?_
      rintro v H' ⟨rfl, hS⟩
      have w4 : w64 4 = 4 := by decide
      have w5 : w64 5 = 5 := by decide
      simp only [e12, e2, e7, e8, e9, e10, ea, eb, wrap_w64, w4, w5, ↓D0, ↓D1, ↓D2, ↓D3, ↓D4, ↓D5, ↓D6, ↓D7, ↓D8, ↓D9, U0, U1, U2, U3, U4, U5, U6, U7, U8, U9, U10, ↓reduceIte, Nat.reduceAdd, Nat.reduceMul, Nat.reduceSub, Nat.reduceEqDiff, Nat.reduceBEq, Nat.reduceLeDiff, Nat.reduceLT, Int.reduceAdd, Int.reduceMul, Int.reduceSub, Int.reduceLT, Int.reduceLE, Int.reduceToNat, Int.reduceEq, Int.reduceNe, Int.reduceBEq, Int.reduceBNe, ne_eq, eq_self]
      refine callT_of (c_look 2 (by decide) hwn hS.tail.tail) ?_
      rintro v H' ⟨rfl, hS⟩
      simp only [hx4, u_putst, ↓D0, ↓D1, ↓D2, ↓D3, ↓D4, ↓D5, ↓D6, ↓D7, ↓D8, ↓D9, U0, U1, U2, U3, U4, U5, U6, U7, U8, U9, U10, ↓reduceIte, Nat.reduceAdd, Nat.reduceMul, Nat.reduceSub, Nat.reduceEqDiff, Nat.reduceBEq, Nat.reduceLeDiff, Nat.reduceLT, Int.reduceAdd, Int.reduceMul, Int.reduceSub, Int.reduceLT, Int.reduceLE, Int.reduceToNat, Int.reduceEq, Int.reduceNe, Int.reduceBEq, Int.reduceBNe, ne_eq, eq_self]
      exact ⟨rfl, hS.tail.tail.p1.tail⟩
end

theorem l_adopttwo {W : World} {a : Option Addr} {n cap : Nat} {ws : Nat → Int} {a' : Option Addr} {n' cap' : Nat} {B : Nat → Bool} (p q m : Int) (hp : -9223372036854775808 ≤ p ∧ p ≤ 9223372036854775807) (hq : -9223372036854775808 ≤ q ∧ q ≤ 9223372036854775807) (hm : -9223372036854775808 ≤ m ∧ m ≤ 9223372036854775807)
    (hn : n ≤ 9223372036854775807) (hr : RowU (memOf W) a n ws) (hU : ∀ i, i < n → IntKind.u64.has (ws i)) (hn' : n' ≤ 9223372036854775807) (hv : RowV (memOf W) a' n' (fun i => .bool (B i))) :
    CallP Try.prog W 11 #[.agg #[.int .i64 p, .int .i64 q, .int .i64 m], .slice a n cap, .slice a' n' cap'] (memOf W) fun v H' => v = .bool true ∧ Sub (memOf W) H' :=
  (c_adopttwo ⟨p, q, m⟩ hr (fun i hi => u64_bd (hU i hi)) hv (Sep.one _)).mono fun v H' ⟨h1, h2⟩ => ⟨h1, h2.head⟩
end Go.Proofs.Ytbehnodllajnjaa
