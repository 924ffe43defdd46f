/-
  PageTwo, walked: two claimers of pages that take turns. Conditions: none.
-/
import Derived.Test.YtfapipblclikbaaPageK
import Derived.Test.YtfapipblclikbaaRowV
import Derived.Test.YtfapipblclikbaaMaTurns
set_option linter.unusedVariables false
set_option linter.unusedSimpArgs false
set_option maxRecDepth 8000
namespace Go.Proofs.Ytfapipblclikbaa
open Go Go.Ev Go.Pl Go.Ma

section
variable {W : World} {H h : Hp} {l : List Hp} {n cap : Nat} {a : Option Addr} {B : Nat → Bool}

def ptI (sh : Sh) (n cap : Nat) (a : Option Addr) (x b ka kb s : Nat) (L : List Hp) (second : Bool) (F' : Fr) (H' : Hp) : Prop :=
  ∃ (i : Int) (ts : Nat → Pc) (w : Wd), 0 ≤ i ∧ i ≤ (if second then 20 else 40) ∧ gt F' (if second then 12 else 11) = .int .i64 i ∧ (gt F' 2 = .slice a n cap ∧ gt F' 7 = .pointer (some ⟨x, 0, none⟩) ∧ gt F' 8 = .pointer (some ⟨b, 0, none⟩) ∧ gt F' 9 = .pointer (some ⟨ka, 0, none⟩) ∧ gt F' 10 = .pointer (some ⟨kb, 0, none⟩)) ∧
    PgInv 2 sh (fun _ => False) ts w ∧ (ts 0).Bd ∧ (ts 1).Bd ∧ (second = true → (ts 0).left ≤ max 0 (12 - i) ∧ (ts 1).left ≤ max 0 (12 - i)) ∧ Sep (pcB ka (ts 0) :: pcB kb (ts 1) :: wB b s w :: wR s w :: L) H'
theorem pt_left {t : Pc} {w : Wd} {m : Int} (h : t.wf) (hl : t.left ≤ max 0 m) : (t.step w).1.left ≤ max 0 (m - 1) := by
  cases hd : t.dn
  · have := Pc.step_left (w := w) h hd; omega
  · rw [Pc.step_dn hd]
    have : t.left = 0 := by unfold Pc.left; rw [hd]; rfl
    show t.left ≤ _; omega
theorem c_pagetwo {pp g0 g1 : Int} (hp0 : 0 ≤ pp) (hp1 : pp ≤ 255) (hg0 : 0 ≤ g0) (hg1 : g0 ≤ 255) (hk0 : 0 ≤ g1) (hk1 : g1 ≤ 255) (hr : RowV h a n (fun i => .bool (B i))) (hS : Sep (h :: l) H) :
    CallP Try.prog W 8 #[.int .u8 pp, .agg #[.int .u8 g0, .int .u8 g1], .slice a n cap] H fun v H' => v = .bool true ∧ Sep (h :: l) H' := by
  refine CallP.of mixed Try.func8 tr8 (by show 3 ≤ _; decide) fun W _ => ?_
  simp only [↓D0, ↓D1, ↓D2, ↓D3, ↓D4, ↓D5, ↓D6, ↓D7, ↓D8, ↓D9, U0, U1, U2, U3, U4, U5, U6, U7, U8, U9, U10, ↓reduceIte, Nat.reduceAdd, Nat.reduceMul, Nat.reduceSub, Nat.reduceEqDiff, Nat.reduceBEq, Nat.reduceLeDiff, Nat.reduceLT, Int.reduceAdd, Int.reduceMul, Int.reduceSub, Int.reduceLT, Int.reduceLE, Int.reduceToNat, Int.reduceEq, Int.reduceNe, Int.reduceBEq, Int.reduceBNe, ne_eq, eq_self]
  refine newB_intro fun z hz f1 f2 => ?_
  have hS := (hS.new f1 (.cells #[.int .u8 g0, .int .u8 g1] 54 (0, 0)))
  simp only [↓D0, ↓D1, ↓D2, ↓D3, ↓D4, ↓D5, ↓D6, ↓D7, ↓D8, ↓D9, U0, U1, U2, U3, U4, U5, U6, U7, U8, U9, U10, ↓reduceIte, Nat.reduceAdd, Nat.reduceMul, Nat.reduceSub, Nat.reduceEqDiff, Nat.reduceBEq, Nat.reduceLeDiff, Nat.reduceLT, Int.reduceAdd, Int.reduceMul, Int.reduceSub, Int.reduceLT, Int.reduceLE, Int.reduceToNat, Int.reduceEq, Int.reduceNe, Int.reduceBEq, Int.reduceBNe, ne_eq, eq_self]
  refine callT_of (c_awake10 hS) ?_
  rintro v H' ⟨rfl, hS⟩
  have ew : w64 pp = pp := w64_eq (by omega) (by omega)
  have em : pp.tmod 6 = pp % 6 := Int.tmod_eq_emod_of_nonneg hp0
  obtain ⟨p, hp⟩ : ∃ p, 1 + pp % 6 = p := ⟨_, rfl⟩
  have pb : 1 ≤ p ∧ p ≤ 6 := by omega
  have ea : w64 p = p := w64_eq (by omega) (by omega)
  have ew2 : w64 (pp % 6) = pp % 6 := w64_eq (by omega) (by omega)
  simp only [ew, em, wrap_w64, ew2, ea, hp, ↓D0, ↓D1, ↓D2, ↓D3, ↓D4, ↓D5, ↓D6, ↓D7, ↓D8, ↓D9, U0, U1, U2, U3, U4, U5, U6, U7, U8, U9, U10, ↓reduceIte, Nat.reduceAdd, Nat.reduceMul, Nat.reduceSub, Nat.reduceEqDiff, Nat.reduceBEq, Nat.reduceLeDiff, Nat.reduceLT, Int.reduceAdd, Int.reduceMul, Int.reduceSub, Int.reduceLT, Int.reduceLE, Int.reduceToNat, Int.reduceEq, Int.reduceNe, Int.reduceBEq, Int.reduceBNe, ne_eq, eq_self]
  refine newB_intro fun x hx f3 f4 => ?_
  simp only [↓D0, ↓D1, ↓D2, ↓D3, ↓D4, ↓D5, ↓D6, ↓D7, ↓D8, ↓D9, U0, U1, U2, U3, U4, U5, U6, U7, U8, U9, U10, ↓reduceIte, Nat.reduceAdd, Nat.reduceMul, Nat.reduceSub, Nat.reduceEqDiff, Nat.reduceBEq, Nat.reduceLeDiff, Nat.reduceLT, Int.reduceAdd, Int.reduceMul, Int.reduceSub, Int.reduceLT, Int.reduceLE, Int.reduceToNat, Int.reduceEq, Int.reduceNe, Int.reduceBEq, Int.reduceBNe, ne_eq, eq_self]
  have hm : may p 2 0 = true := (may_iff _ _ _).2 (by omega)
  obtain ⟨N, hN⟩ : ∃ N : Nat, words p 2 0 = (N : Int) := ⟨(words p 2 0).toNat, by have := words_le hm; omega⟩
  have hNb := words_le hm
  have hN2 : N ≤ 2000 := by omega
  have hS := hS.new f3 (.cells #[.int .i64 0, .int .i64 0, .int .i64 0] 57 (0, 0))
  have hS := hS.set (.cells #[.int .i64 p, .int .i64 2, .int .i64 0] 57 (0, 0))
  rw [Ev.upd_upd] at hS
  have hx1 := hS.look
  have r1 := fun o n => rdn_of hx1 o n
  have n0 : (0 : Int) ≤ (N : Int) := by omega
  have n8 : 8 * (N : Int) ≤ 281474976710656 := by omega
  have n9 : (N : Int) ≤ 9223372036854775807 := by omega
  have nle : (N : Int) ≤ (N : Int) := Int.le_refl _
  simp only [Ev.upd_upd, hx1, r1, u_words, hN, n0, n8, n9, nle, Int.toNat_natCast, ↓D0, ↓D1, ↓D2, ↓D3, ↓D4, ↓D5, ↓D6, ↓D7, ↓D8, ↓D9, U0, U1, U2, U3, U4, U5, U6, U7, U8, U9, U10, ↓reduceIte, Nat.reduceAdd, Nat.reduceMul, Nat.reduceSub, Nat.reduceEqDiff, Nat.reduceBEq, Nat.reduceLeDiff, Nat.reduceLT, Int.reduceAdd, Int.reduceMul, Int.reduceSub, Int.reduceLT, Int.reduceLE, Int.reduceToNat, Int.reduceEq, Int.reduceNe, Int.reduceBEq, Int.reduceBNe, ne_eq, eq_self]
  refine newB_intro fun y hy f5 f6 => ?_
  have hS := hS.new f5 (.cells (urow N fun _ => 0) 26 (0, 0))
  simp only [urow_zero, urow_size, ↓D0, ↓D1, ↓D2, ↓D3, ↓D4, ↓D5, ↓D6, ↓D7, ↓D8, ↓D9, U0, U1, U2, U3, U4, U5, U6, U7, U8, U9, U10, ↓reduceIte, Nat.reduceAdd, Nat.reduceMul, Nat.reduceSub, Nat.reduceEqDiff, Nat.reduceBEq, Nat.reduceLeDiff, Nat.reduceLT, Int.reduceAdd, Int.reduceMul, Int.reduceSub, Int.reduceLT, Int.reduceLE, Int.reduceToNat, Int.reduceEq, Int.reduceNe, Int.reduceBEq, Int.reduceBNe, ne_eq, eq_self]
  refine callT_of (c_fill (n := N) hN2 (RowU.own y N _ _ _) hS) ?_
  rintro v H' ⟨b, s, rfl, hS⟩
  have hx1 := hS.lk 3 rfl
  have hz1 := hS.lk 4 rfl
  have r1 := fun o n => rdn_of hx1 o n
  have r0 := fun o => rd_of hx1 o
  have r2 := fun o => rd_of hz1 o
  have i0 : (0 : Int) < ((2 : Nat) : Int) := by decide
  have i1 : (1 : Int) < ((2 : Nat) : Int) := by decide
  have nxz := hS.neq 3 4 (by decide) rfl rfl
  have nzx := hS.qen 3 4 (by decide) rfl rfl
  have eg0 : w64 g0 = g0 := w64_eq (by omega) (by omega)
  have eg1 : w64 g1 = g1 := w64_eq (by omega) (by omega)
  have et0 : g0.tmod p = g0 % p := Int.tmod_eq_emod_of_nonneg hg0
  have et1 : g1.tmod p = g1 % p := Int.tmod_eq_emod_of_nonneg hk0
  have p0 : (p = 0) = False := eq_false (by omega)
  have md0 := mod_bd (a := g0) (p := p) (by omega)
  have md1 := mod_bd (a := g1) (p := p) (by omega)
  have wq0 : w64 (g0 % p) = g0 % p := w64_eq (by omega) (by omega)
  have wq1 : w64 (g1 % p) = g1 % p := w64_eq (by omega) (by omega)
  simp only [↓D0, ↓D1, ↓D2, ↓D3, ↓D4, ↓D5, ↓D6, ↓D7, ↓D8, ↓D9, U0, U1, U2, U3, U4, U5, U6, U7, U8, U9, U10, ↓reduceIte, Nat.reduceAdd, Nat.reduceMul, Nat.reduceSub, Nat.reduceEqDiff, Nat.reduceBEq, Nat.reduceLeDiff, Nat.reduceLT, Int.reduceAdd, Int.reduceMul, Int.reduceSub, Int.reduceLT, Int.reduceLE, Int.reduceToNat, Int.reduceEq, Int.reduceNe, Int.reduceBEq, Int.reduceBNe, ne_eq, eq_self]
  refine draw_intro [(x, #[.int .i64 p, .int .i64 2, .int .i64 0], []), (z, #[.int .u8 g0, .int .u8 g1], [])] (by simp only [hx1, hz1, ↓D0, ↓D1, ↓D2, ↓D3, ↓D4, ↓D5, ↓D6, ↓D7, ↓D8, ↓D9, U0, U1, U2, U3, U4, U5, U6, U7, U8, U9, U10, ↓reduceIte, Nat.reduceAdd, Nat.reduceMul, Nat.reduceSub, Nat.reduceEqDiff, Nat.reduceBEq, Nat.reduceLeDiff, Nat.reduceLT, Int.reduceAdd, Int.reduceMul, Int.reduceSub, Int.reduceLT, Int.reduceLE, Int.reduceToNat, Int.reduceEq, Int.reduceNe, Int.reduceBEq, Int.reduceBNe, ne_eq, eq_self]) ?_
  simp only [hx1, hz1, r0, r1, r2, i0, i1, nxz, nzx, eg0, eg1, et0, et1, p0, wrap_w64, wq0, wq1, ↓D0, ↓D1, ↓D2, ↓D3, ↓D4, ↓D5, ↓D6, ↓D7, ↓D8, ↓D9, U0, U1, U2, U3, U4, U5, U6, U7, U8, U9, U10, ↓reduceIte, Nat.reduceAdd, Nat.reduceMul, Nat.reduceSub, Nat.reduceEqDiff, Nat.reduceBEq, Nat.reduceLeDiff, Nat.reduceLT, Int.reduceAdd, Int.reduceMul, Int.reduceSub, Int.reduceLT, Int.reduceLE, Int.reduceToNat, Int.reduceEq, Int.reduceNe, Int.reduceBEq, Int.reduceBNe, ne_eq, eq_self]
  refine callT_of (c_pcnew (sh := ⟨p, 2, 0⟩) hS) ?_
  rintro v H' ⟨ka, rfl, hS⟩
  have hx1 := hS.lk 4 rfl
  have hz1 := hS.lk 5 rfl
  simp only [hx1, hz1, ↓D0, ↓D1, ↓D2, ↓D3, ↓D4, ↓D5, ↓D6, ↓D7, ↓D8, ↓D9, U0, U1, U2, U3, U4, U5, U6, U7, U8, U9, U10, ↓reduceIte, Nat.reduceAdd, Nat.reduceMul, Nat.reduceSub, Nat.reduceEqDiff, Nat.reduceBEq, Nat.reduceLeDiff, Nat.reduceLT, Int.reduceAdd, Int.reduceMul, Int.reduceSub, Int.reduceLT, Int.reduceLE, Int.reduceToNat, Int.reduceEq, Int.reduceNe, Int.reduceBEq, Int.reduceBNe, ne_eq, eq_self]
  refine callT_of (c_pcnew (sh := ⟨p, 2, 0⟩) hS) ?_
  rintro v H' ⟨kb, rfl, hS⟩
  have hx1 := hS.lk 5 rfl
  have hz1 := hS.lk 6 rfl
  simp only [hx1, hz1, ↓D0, ↓D1, ↓D2, ↓D3, ↓D4, ↓D5, ↓D6, ↓D7, ↓D8, ↓D9, U0, U1, U2, U3, U4, U5, U6, U7, U8, U9, U10, ↓reduceIte, Nat.reduceAdd, Nat.reduceMul, Nat.reduceSub, Nat.reduceEqDiff, Nat.reduceBEq, Nat.reduceLeDiff, Nat.reduceLT, Int.reduceAdd, Int.reduceMul, Int.reduceSub, Int.reduceLT, Int.reduceLE, Int.reduceToNat, Int.reduceEq, Int.reduceNe, Int.reduceBEq, Int.reduceBNe, ne_eq, eq_self]
  have hof : (rowW N fun _ => 0).of ⟨p, 2, 0⟩ := rowW_of hN.symm fun _ _ => U_0
  have hinit : PgInv 2 ⟨p, 2, 0⟩ (fun _ => False) (fun c => Pc.new ⟨p, 2, 0⟩ c (if c = 0 then g0 % p else g1 % p)) (rowW N fun _ => 0) :=
    PgInv.init (f := fun c => if c = 0 then g0 % p else g1 % p) hof hm (by show (2 : Int) ≤ 2; omega) (fun c hc => by
      show 0 ≤ (if c = 0 then g0 % p else g1 % p) ∧ (if c = 0 then g0 % p else g1 % p) < p
      split <;> omega) (fun _ _ _ h => h.elim) (fun q _ _ _ => by show (if _ then _ else _) = _; split <;> rfl)
  have hS := hS.p1
  refine loop_intro (ptI ⟨p, 2, 0⟩ n cap a x b ka kb s (sg y (.cells (urow N fun _ => 0) 26 (0, 0)) :: sg x (.cells #[.int .i64 p, .int .i64 2, .int .i64 0] 57 (0, 0)) :: sg z (.cells #[.int .u8 g0, .int .u8 g1] 54 (0, 0)) :: h :: l) false) (fun F' _ => (40 - iv (gt F' 11)).toNat)
    ⟨0, _, _, by omega, by decide, rfl, ⟨rfl, rfl, rfl, rfl, rfl⟩, hinit, Pc.Bd.new (by show 0 < p; omega) (by show 0 ≤ g0 % p; omega) (by show g0 % p ≤ 1000; omega), Pc.Bd.new (by show 0 < p; omega) (by show 0 ≤ g1 % p; omega) (by show g1 % p ≤ 1000; omega), (fun h => by cases h), hS⟩ ?_
  rintro F' H' ⟨i, ts, w, h0, h1, e11, ⟨e2, e7, e8, e9, e10⟩, hI, hba, hbb, -, hS⟩
  have h1 : i ≤ 40 := h1
  have e11 : gt F' 11 = .int .i64 i := e11
  obtain ⟨wa, sa, -⟩ := hI.wf 0 (by decide)
  obtain ⟨wb, sb, -⟩ := hI.wf 1 (by decide)
  have ofa : (ts 0).dn = false → w.of (ts 0).s := fun _ => by rw [sa]; exact hI.of
  have ofb : (ts 1).dn = false → w.of (ts 1).s := fun _ => by rw [sb]; exact hI.of
  by_cases hlt : i < 40
  · have d1 : decide (i < 40) = true := decide_eq_true hlt
    have wi : w64 (i + 1) = i + 1 := w64_eq (by omega) (by omega)
    have stepA : ∀ (F2 : Fr) (H2 : Hp), True := fun _ _ => trivial
    cases hturn : (decide (i < (n : Int)) && B i.toNat)
    · have go : ∀ {F2 : Fr} {H2 : Hp}, gt F2 11 = .int .i64 (i + 1) → gt F2 2 = .slice a n cap → gt F2 7 = .pointer (some ⟨x, 0, none⟩) → gt F2 8 = .pointer (some ⟨b, 0, none⟩) → gt F2 9 = .pointer (some ⟨ka, 0, none⟩) → gt F2 10 = .pointer (some ⟨kb, 0, none⟩) →
          Sep (pcB ka ((ts 0).step w).1 :: wB b s ((ts 0).step w).2 :: wR s ((ts 0).step w).2 :: pcB kb (ts 1) :: sg y (.cells (urow N fun _ => 0) 26 (0, 0)) :: sg x (.cells #[.int .i64 p, .int .i64 2, .int .i64 0] 57 (0, 0)) :: sg z (.cells #[.int .u8 g0, .int .u8 g1] 54 (0, 0)) :: h :: l) H2 →
          ptI ⟨p, 2, 0⟩ n cap a x b ka kb s (sg y (.cells (urow N fun _ => 0) 26 (0, 0)) :: sg x (.cells #[.int .i64 p, .int .i64 2, .int .i64 0] 57 (0, 0)) :: sg z (.cells #[.int .u8 g0, .int .u8 g1] 54 (0, 0)) :: h :: l) false F2 H2 := fun q1 q2 q3 q4 q5 q6 q7 =>
        ⟨i + 1, _, _, by omega, by show i + 1 ≤ 40; omega, q1, ⟨q2, q3, q4, q5, q6⟩, hI.step (c := 0) (by decide), by rw [upT_same]; exact hba.step wa, by rw [upT_ne _ _ (by decide)]; exact hbb, (fun h => by cases h), by rw [upT_same, upT_ne _ _ (by decide)]; exact q7.p3.p1⟩
      cases hd : decide (i < (n : Int))
      · simp only [e11, e2, e7, e8, e9, e10, d1, hd, ↓D0, ↓D1, ↓D2, ↓D3, ↓D4, ↓D5, ↓D6, ↓D7, ↓D8, ↓D9, U0, U1, U2, U3, U4, U5, U6, U7, U8, U9, U10, ↓reduceIte, Nat.reduceAdd, Nat.reduceMul, Nat.reduceSub, Nat.reduceEqDiff, Nat.reduceBEq, Nat.reduceLeDiff, Nat.reduceLT, Int.reduceAdd, Int.reduceMul, Int.reduceSub, Int.reduceLT, Int.reduceLE, Int.reduceToNat, Int.reduceEq, Int.reduceNe, Int.reduceBEq, Int.reduceBNe, ne_eq, eq_self]
        refine callT_of (c_pcstep wa ofa hS.p1.r3) ?_
        rintro v H' ⟨rfl, hS⟩
        simp only [e11, e2, e7, e8, e9, e10, wrap_w64, wi, ↓D0, ↓D1, ↓D2, ↓D3, ↓D4, ↓D5, ↓D6, ↓D7, ↓D8, ↓D9, U0, U1, U2, U3, U4, U5, U6, U7, U8, U9, U10, ↓reduceIte, Nat.reduceAdd, Nat.reduceMul, Nat.reduceSub, Nat.reduceEqDiff, Nat.reduceBEq, Nat.reduceLeDiff, Nat.reduceLT, Int.reduceAdd, Int.reduceMul, Int.reduceSub, Int.reduceLT, Int.reduceLE, Int.reduceToNat, Int.reduceEq, Int.reduceNe, Int.reduceBEq, Int.reduceBNe, ne_eq, eq_self]
        exact ⟨go (by simp [gt]) (by simp [gt, e2]) (by simp [gt, e7]) (by simp [gt, e8]) (by simp [gt, e9]) (by simp [gt, e10]) hS, by simp [gt, iv, e11]; omega⟩
      · have hlt2 : i < (n : Int) := of_decide_eq_true hd
        have hB : B i.toNat = false := by rw [hd] at hturn; simpa using hturn
        obtain ⟨xb, xo, rfl, hrd⟩ := (hr.sub (hS.sb h (by simp))).at' (i := i.toNat) (by omega)
        rw [hB] at hrd
        simp only [e11, e2, e7, e8, e9, e10, d1, hd, h0, hlt2, hrd, ↓D0, ↓D1, ↓D2, ↓D3, ↓D4, ↓D5, ↓D6, ↓D7, ↓D8, ↓D9, U0, U1, U2, U3, U4, U5, U6, U7, U8, U9, U10, ↓reduceIte, Nat.reduceAdd, Nat.reduceMul, Nat.reduceSub, Nat.reduceEqDiff, Nat.reduceBEq, Nat.reduceLeDiff, Nat.reduceLT, Int.reduceAdd, Int.reduceMul, Int.reduceSub, Int.reduceLT, Int.reduceLE, Int.reduceToNat, Int.reduceEq, Int.reduceNe, Int.reduceBEq, Int.reduceBNe, ne_eq, eq_self]
        refine callT_of (c_pcstep wa ofa hS.p1.r3) ?_
        rintro v H' ⟨rfl, hS⟩
        simp only [e11, e2, e7, e8, e9, e10, wrap_w64, wi, ↓D0, ↓D1, ↓D2, ↓D3, ↓D4, ↓D5, ↓D6, ↓D7, ↓D8, ↓D9, U0, U1, U2, U3, U4, U5, U6, U7, U8, U9, U10, ↓reduceIte, Nat.reduceAdd, Nat.reduceMul, Nat.reduceSub, Nat.reduceEqDiff, Nat.reduceBEq, Nat.reduceLeDiff, Nat.reduceLT, Int.reduceAdd, Int.reduceMul, Int.reduceSub, Int.reduceLT, Int.reduceLE, Int.reduceToNat, Int.reduceEq, Int.reduceNe, Int.reduceBEq, Int.reduceBNe, ne_eq, eq_self]
        exact ⟨go (by simp [gt]) (by simp [gt, e2]) (by simp [gt, e7]) (by simp [gt, e8]) (by simp [gt, e9]) (by simp [gt, e10]) hS, by simp [gt, iv, e11]; omega⟩
    · rw [Bool.and_eq_true] at hturn
      obtain ⟨hd, hB⟩ := hturn
      have hlt2 : i < (n : Int) := of_decide_eq_true hd
      obtain ⟨xb, xo, rfl, hrd⟩ := (hr.sub (hS.sb h (by simp))).at' (i := i.toNat) (by omega)
      rw [hB] at hrd
      simp only [e11, e2, e7, e8, e9, e10, d1, hd, h0, hlt2, hrd, ↓D0, ↓D1, ↓D2, ↓D3, ↓D4, ↓D5, ↓D6, ↓D7, ↓D8, ↓D9, U0, U1, U2, U3, U4, U5, U6, U7, U8, U9, U10, ↓reduceIte, Nat.reduceAdd, Nat.reduceMul, Nat.reduceSub, Nat.reduceEqDiff, Nat.reduceBEq, Nat.reduceLeDiff, Nat.reduceLT, Int.reduceAdd, Int.reduceMul, Int.reduceSub, Int.reduceLT, Int.reduceLE, Int.reduceToNat, Int.reduceEq, Int.reduceNe, Int.reduceBEq, Int.reduceBNe, ne_eq, eq_self]
      refine callT_of (c_pcstep wb ofb hS.r3) ?_
      rintro v H' ⟨rfl, hS⟩
      simp only [e11, e2, e7, e8, e9, e10, wrap_w64, wi, ↓D0, ↓D1, ↓D2, ↓D3, ↓D4, ↓D5, ↓D6, ↓D7, ↓D8, ↓D9, U0, U1, U2, U3, U4, U5, U6, U7, U8, U9, U10, ↓reduceIte, Nat.reduceAdd, Nat.reduceMul, Nat.reduceSub, Nat.reduceEqDiff, Nat.reduceBEq, Nat.reduceLeDiff, Nat.reduceLT, Int.reduceAdd, Int.reduceMul, Int.reduceSub, Int.reduceLT, Int.reduceLE, Int.reduceToNat, Int.reduceEq, Int.reduceNe, Int.reduceBEq, Int.reduceBNe, ne_eq, eq_self]
      exact ⟨⟨i + 1, _, _, by omega, by show i + 1 ≤ 40; omega, by simp [gt], ⟨by simp [gt, e2], by simp [gt, e7], by simp [gt, e8], by simp [gt, e9], by simp [gt, e10]⟩, hI.step (c := 1) (by decide), by rw [upT_ne _ _ (by decide)]; exact hba, by rw [upT_same]; exact hbb.step wb, (fun h => by cases h), by rw [upT_same, upT_ne _ _ (by decide)]; exact hS.p3⟩, by simp [gt, iv, e11]; omega⟩
  have d1 : decide (i < 40) = false := decide_eq_false hlt
  simp only [e11, e2, e7, e8, e9, e10, d1, ↓D0, ↓D1, ↓D2, ↓D3, ↓D4, ↓D5, ↓D6, ↓D7, ↓D8, ↓D9, U0, U1, U2, U3, U4, U5, U6, U7, U8, U9, U10, ↓reduceIte, Nat.reduceAdd, Nat.reduceMul, Nat.reduceSub, Nat.reduceEqDiff, Nat.reduceBEq, Nat.reduceLeDiff, Nat.reduceLT, Int.reduceAdd, Int.reduceMul, Int.reduceSub, Int.reduceLT, Int.reduceLE, Int.reduceToNat, Int.reduceEq, Int.reduceNe, Int.reduceBEq, Int.reduceBNe, ne_eq, eq_self]
  have lA := Pc.left_le wa (by rw [sa]; show 0 ≤ p; omega)
  have lB := Pc.left_le wb (by rw [sb]; show 0 ≤ p; omega)
  rw [sa] at lA
  rw [sb] at lB
  have lA : (ts 0).left ≤ 2 * p := lA
  have lB : (ts 1).left ≤ 2 * p := lB
  refine loop_intro (ptI ⟨p, 2, 0⟩ n cap a x b ka kb s (sg y (.cells (urow N fun _ => 0) 26 (0, 0)) :: sg x (.cells #[.int .i64 p, .int .i64 2, .int .i64 0] 57 (0, 0)) :: sg z (.cells #[.int .u8 g0, .int .u8 g1] 54 (0, 0)) :: h :: l) true) (fun F' _ => (20 - iv (gt F' 12)).toNat)
    ⟨0, ts, w, by omega, by decide, rfl, ⟨by simp [gt, e2], by simp [gt, e7], by simp [gt, e8], by simp [gt, e9], by simp [gt, e10]⟩, hI, hba, hbb, fun _ => by omega, hS⟩ ?_
  rintro F' H' ⟨i, ts, w, h0, h1, e12, ⟨e2, e7, e8, e9, e10⟩, hI, hba, hbb, hl, hS⟩
  have h1 : i ≤ 20 := h1
  have e12 : gt F' 12 = .int .i64 i := e12
  obtain ⟨l1, l2⟩ := hl rfl
  obtain ⟨wa, sa, -⟩ := hI.wf 0 (by decide)
  obtain ⟨wb, sb, -⟩ := hI.wf 1 (by decide)
  by_cases hlt : i < 20
  · have d1 : decide (i < 20) = true := decide_eq_true hlt
    have wi : w64 (i + 1) = i + 1 := w64_eq (by omega) (by omega)
    simp only [e12, e2, e7, e8, e9, e10, d1, ↓D0, ↓D1, ↓D2, ↓D3, ↓D4, ↓D5, ↓D6, ↓D7, ↓D8, ↓D9, U0, U1, U2, U3, U4, U5, U6, U7, U8, U9, U10, ↓reduceIte, Nat.reduceAdd, Nat.reduceMul, Nat.reduceSub, Nat.reduceEqDiff, Nat.reduceBEq, Nat.reduceLeDiff, Nat.reduceLT, Int.reduceAdd, Int.reduceMul, Int.reduceSub, Int.reduceLT, Int.reduceLE, Int.reduceToNat, Int.reduceEq, Int.reduceNe, Int.reduceBEq, Int.reduceBNe, ne_eq, eq_self]
    refine callT_of (c_pcstep wa (fun _ => by rw [sa]; exact hI.of) hS.p1.r3) ?_
    rintro v H' ⟨rfl, hS⟩
    have hI2 := hI.step (c := 0) (by decide)
    have hw1 := hI2.of
    simp only [e12, e2, e7, e8, e9, e10, ↓D0, ↓D1, ↓D2, ↓D3, ↓D4, ↓D5, ↓D6, ↓D7, ↓D8, ↓D9, U0, U1, U2, U3, U4, U5, U6, U7, U8, U9, U10, ↓reduceIte, Nat.reduceAdd, Nat.reduceMul, Nat.reduceSub, Nat.reduceEqDiff, Nat.reduceBEq, Nat.reduceLeDiff, Nat.reduceLT, Int.reduceAdd, Int.reduceMul, Int.reduceSub, Int.reduceLT, Int.reduceLE, Int.reduceToNat, Int.reduceEq, Int.reduceNe, Int.reduceBEq, Int.reduceBNe, ne_eq, eq_self]
    refine callT_of (c_pcstep wb (fun _ => by rw [sb]; exact hw1) hS.p3.p1.r3) ?_
    rintro v H' ⟨rfl, hS⟩
    have hI3 := hI2.step (c := 1) (by decide)
    rw [upT_ne _ _ (by decide)] at hI3
    simp only [e12, e2, e7, e8, e9, e10, wrap_w64, wi, ↓D0, ↓D1, ↓D2, ↓D3, ↓D4, ↓D5, ↓D6, ↓D7, ↓D8, ↓D9, U0, U1, U2, U3, U4, U5, U6, U7, U8, U9, U10, ↓reduceIte, Nat.reduceAdd, Nat.reduceMul, Nat.reduceSub, Nat.reduceEqDiff, Nat.reduceBEq, Nat.reduceLeDiff, Nat.reduceLT, Int.reduceAdd, Int.reduceMul, Int.reduceSub, Int.reduceLT, Int.reduceLE, Int.reduceToNat, Int.reduceEq, Int.reduceNe, Int.reduceBEq, Int.reduceBNe, ne_eq, eq_self]
    refine ⟨⟨i + 1, _, _, by omega, by show i + 1 ≤ 20; omega, by simp [gt], ⟨by simp [gt, e2], by simp [gt, e7], by simp [gt, e8], by simp [gt, e9], by simp [gt, e10]⟩, hI3, ?_, ?_, fun _ => ⟨?_, ?_⟩, ?_⟩, by simp [gt, iv, e12]; omega⟩
    · rw [upT_ne _ _ (by decide), upT_same]; exact hba.step wa
    · rw [upT_same]; exact hbb.step wb
    · rw [upT_ne _ _ (by decide), upT_same]; have := pt_left (w := w) wa l1; omega
    · rw [upT_same]; have := pt_left (w := ((ts 0).step w).2) wb l2; omega
    · rw [upT_same, upT_ne _ _ (by decide), upT_same]; exact hS.p3
  have d1 : decide (i < 20) = false := decide_eq_false hlt
  have dA : (ts 0).dn = true := Pc.left_dn wa (by have := Pc.left_nn wa; omega)
  have dB : (ts 1).dn = true := Pc.left_dn wb (by have := Pc.left_nn wb; omega)
  simp only [e12, e2, e7, e8, e9, e10, d1, ↓D0, ↓D1, ↓D2, ↓D3, ↓D4, ↓D5, ↓D6, ↓D7, ↓D8, ↓D9, U0, U1, U2, U3, U4, U5, U6, U7, U8, U9, U10, ↓reduceIte, Nat.reduceAdd, Nat.reduceMul, Nat.reduceSub, Nat.reduceEqDiff, Nat.reduceBEq, Nat.reduceLeDiff, Nat.reduceLT, Int.reduceAdd, Int.reduceMul, Int.reduceSub, Int.reduceLT, Int.reduceLE, Int.reduceToNat, Int.reduceEq, Int.reduceNe, Int.reduceBEq, Int.reduceBNe, ne_eq, eq_self]
  refine callT_of (c_pcfound (fun _ => hba.fd) hS) ?_
  rintro v H' ⟨rfl, hS⟩
  simp only [e12, e2, e7, e8, e9, e10, ↓D0, ↓D1, ↓D2, ↓D3, ↓D4, ↓D5, ↓D6, ↓D7, ↓D8, ↓D9, U0, U1, U2, U3, U4, U5, U6, U7, U8, U9, U10, ↓reduceIte, Nat.reduceAdd, Nat.reduceMul, Nat.reduceSub, Nat.reduceEqDiff, Nat.reduceBEq, Nat.reduceLeDiff, Nat.reduceLT, Int.reduceAdd, Int.reduceMul, Int.reduceSub, Int.reduceLT, Int.reduceLE, Int.reduceToNat, Int.reduceEq, Int.reduceNe, Int.reduceBEq, Int.reduceBNe, ne_eq, eq_self]
  refine callT_of (c_pcfound (fun _ => hbb.fd) hS.p1) ?_
  rintro v H' ⟨rfl, hS⟩
  simp only [e12, e2, e7, e8, e9, e10, ↓D0, ↓D1, ↓D2, ↓D3, ↓D4, ↓D5, ↓D6, ↓D7, ↓D8, ↓D9, U0, U1, U2, U3, U4, U5, U6, U7, U8, U9, U10, ↓reduceIte, Nat.reduceAdd, Nat.reduceMul, Nat.reduceSub, Nat.reduceEqDiff, Nat.reduceBEq, Nat.reduceLeDiff, Nat.reduceLT, Int.reduceAdd, Int.reduceMul, Int.reduceSub, Int.reduceLT, Int.reduceLE, Int.reduceToNat, Int.reduceEq, Int.reduceNe, Int.reduceBEq, Int.reduceBNe, ne_eq, eq_self]
  refine callT_of (c_pcdone hS.p1) ?_
  rintro v H' ⟨rfl, hS⟩
  simp only [e12, e2, e7, e8, e9, e10, dA, ↓D0, ↓D1, ↓D2, ↓D3, ↓D4, ↓D5, ↓D6, ↓D7, ↓D8, ↓D9, U0, U1, U2, U3, U4, U5, U6, U7, U8, U9, U10, ↓reduceIte, Nat.reduceAdd, Nat.reduceMul, Nat.reduceSub, Nat.reduceEqDiff, Nat.reduceBEq, Nat.reduceLeDiff, Nat.reduceLT, Int.reduceAdd, Int.reduceMul, Int.reduceSub, Int.reduceLT, Int.reduceLE, Int.reduceToNat, Int.reduceEq, Int.reduceNe, Int.reduceBEq, Int.reduceBNe, ne_eq, eq_self]
  refine callT_of (c_pcdone hS.p1) ?_
  rintro v H' ⟨rfl, hS⟩
  have hx1 := hS.lk 5 rfl
  have r0 := fun o => rd_of hx1 o
  rcases hI.both dA dB with ⟨fa, fb, hne⟩ | ⟨hp1, hx⟩
  · have hne : ((ts 0).pg != (ts 1).pg) = true := by simpa using hne
    simp only [e12, e2, e7, e8, e9, e10, dB, fa, fb, hne, ↓D0, ↓D1, ↓D2, ↓D3, ↓D4, ↓D5, ↓D6, ↓D7, ↓D8, ↓D9, U0, U1, U2, U3, U4, U5, U6, U7, U8, U9, U10, ↓reduceIte, Nat.reduceAdd, Nat.reduceMul, Nat.reduceSub, Nat.reduceEqDiff, Nat.reduceBEq, Nat.reduceLeDiff, Nat.reduceLT, Int.reduceAdd, Int.reduceMul, Int.reduceSub, Int.reduceLT, Int.reduceLE, Int.reduceToNat, Int.reduceEq, Int.reduceNe, Int.reduceBEq, Int.reduceBNe, ne_eq, eq_self]
    exact hS.tail.tail.tail.tail.tail.tail.tail
  · have hp1 : p = 1 := hp1
    have hpb : (p == 1) = true := beq_iff_eq.2 hp1
    cases fb : (ts 1).fd
    · rw [fb] at hx
      have hx : (ts 0).fd = true := hx
      simp only [e12, e2, e7, e8, e9, e10, dB, hx, fb, hx1, r0, hpb, ↓D0, ↓D1, ↓D2, ↓D3, ↓D4, ↓D5, ↓D6, ↓D7, ↓D8, ↓D9, U0, U1, U2, U3, U4, U5, U6, U7, U8, U9, U10, ↓reduceIte, Nat.reduceAdd, Nat.reduceMul, Nat.reduceSub, Nat.reduceEqDiff, Nat.reduceBEq, Nat.reduceLeDiff, Nat.reduceLT, Int.reduceAdd, Int.reduceMul, Int.reduceSub, Int.reduceLT, Int.reduceLE, Int.reduceToNat, Int.reduceEq, Int.reduceNe, Int.reduceBEq, Int.reduceBNe, ne_eq, eq_self]
      exact ⟨rfl, hS.tail.tail.tail.tail.tail.tail.tail⟩
    · rw [fb] at hx
      have hx : (ts 0).fd = false := hx
      simp only [e12, e2, e7, e8, e9, e10, dB, hx, fb, hx1, r0, hpb, ↓D0, ↓D1, ↓D2, ↓D3, ↓D4, ↓D5, ↓D6, ↓D7, ↓D8, ↓D9, U0, U1, U2, U3, U4, U5, U6, U7, U8, U9, U10, ↓reduceIte, Nat.reduceAdd, Nat.reduceMul, Nat.reduceSub, Nat.reduceEqDiff, Nat.reduceBEq, Nat.reduceLeDiff, Nat.reduceLT, Int.reduceAdd, Int.reduceMul, Int.reduceSub, Int.reduceLT, Int.reduceLE, Int.reduceToNat, Int.reduceEq, Int.reduceNe, Int.reduceBEq, Int.reduceBNe, ne_eq, eq_self]
      exact ⟨rfl, hS.tail.tail.tail.tail.tail.tail.tail⟩
end

theorem l_pagetwo {W : World} {a : Option Addr} {n cap : Nat} {B : Nat → Bool} (pp : Int) (hp : 0 ≤ pp ∧ pp ≤ 255) (g0 g1 : Int) (hg : 0 ≤ g0 ∧ g0 ≤ 255) (hk : 0 ≤ g1 ∧ g1 ≤ 255) (hn : n ≤ 9223372036854775807) (hr : RowV (memOf W) a n (fun i => .bool (B i))) :
    CallP Try.prog W 8 #[.int .u8 pp, .agg #[.int .u8 g0, .int .u8 g1], .slice a n cap] (memOf W) fun v H' => v = .bool true ∧ Sub (memOf W) H' :=
  (c_pagetwo hp.1 hp.2 hg.1 hg.2 hk.1 hk.2 hr (Sep.one _)).mono fun v H' ⟨h1, h2⟩ => ⟨h1, h2.head⟩
end Go.Proofs.Ytfapipblclikbaa
