/-
  BindStrip, walked: a page that was bound is stripped and bound again. Conditions: none.
-/
import Derived.Test.YtfapipblclikbaaBindK
import Derived.Test.YtfapipblclikbaaSlotK
import Derived.Test.YtfapipblclikbaaMaBs
import Derived.Test.YtfapipblclikbaaFrame
set_option linter.unusedVariables false
set_option linter.unusedSimpArgs false
set_option maxRecDepth 8000
namespace Go.Proofs.Ytfapipblclikbaa
open Go Go.Ev Go.Pl Go.Ma

theorem bs_of : bsW.of ⟨1, 2, 0⟩ := ⟨by decide, fun i => U_row _ (fun j => by split; exact U_putPg ..; exact U_0) i⟩
theorem bs_all {x y : Int} (x0 : 0 ≤ x) (x1 : x ≤ 3) (y0 : 0 ≤ y) (y1 : y ≤ 3) : (bsK x).1.dn = true ∧ (bsC x).1.fd = true ∧ (bsC x).1.i = 1 ∧ 0 ≤ (bsC x).1.f + (bsC x).1.many ∧ (bsC x).1.f + (bsC x).1.many ≤ 100 ∧ (bsT x).1.hd = true ∧ (bsM x y).1.dn = true ∧
    (∀ i : Nat, i < 16 → (bsM x y).2.get (3 + (i : Int)) = if i = 0 then putSl 2 1 else if (i : Int) < slots y then putSl 1 y else 0) ∧ (bsM x y).2.get 2 = putPg 2 y 1 := by
  obtain ⟨a, rfl⟩ := Int.eq_ofNat_of_zero_le x0
  obtain ⟨c, rfl⟩ := Int.eq_ofNat_of_zero_le y0
  have h := bs_end ⟨a, by omega⟩ ⟨c, by omega⟩
  simp only [bsOk, Bool.and_eq_true, decide_eq_true_eq, List.all_eq_true, List.mem_range] at h
  obtain ⟨⟨⟨⟨⟨⟨⟨⟨h1, h2⟩, h3⟩, h4⟩, h5⟩, h6⟩, h7⟩, h8⟩, h9⟩ := h
  exact ⟨h1, h2, h3, h4, h5, h6, h7, fun i hi => h8 i hi, h9⟩
section
variable {W : World} {H : Hp} {l : List Hp}

def bsI1 (x y : Int) (z b s kk : Nat) (L : List Hp) (F' : Fr) (H' : Hp) : Prop :=
  ∃ i : Nat, i ≤ 40 ∧ gt F' 11 = .int .i64 (i : Int) ∧ gt F' 5 = .int .i64 x ∧ gt F' 6 = .int .i64 y ∧ gt F' 7 = .pointer (some ⟨z, 0, none⟩) ∧ gt F' 9 = .pointer (some ⟨b, 0, none⟩) ∧ gt F' 10 = .pointer (some ⟨kk, 0, none⟩) ∧
    Sep (biB kk (its Bi.step i (Bi.new ⟨1, 2, 0⟩ 0 0 x) bsW).1 :: wB b s (its Bi.step i (Bi.new ⟨1, 2, 0⟩ 0 0 x) bsW).2 :: wR s (its Bi.step i (Bi.new ⟨1, 2, 0⟩ 0 0 x) bsW).2 :: L) H'
def bsI2 (x y : Int) (z b s kk kc : Nat) (L : List Hp) (F' : Fr) (H' : Hp) : Prop :=
  ∃ i : Nat, i ≤ 40 ∧ gt F' 13 = .int .i64 (i : Int) ∧ gt F' 5 = .int .i64 x ∧ gt F' 6 = .int .i64 y ∧ gt F' 7 = .pointer (some ⟨z, 0, none⟩) ∧ gt F' 9 = .pointer (some ⟨b, 0, none⟩) ∧ gt F' 10 = .pointer (some ⟨kk, 0, none⟩) ∧ gt F' 12 = .pointer (some ⟨kc, 0, none⟩) ∧
    Sep (scB kc (its Sc.step i (Sc.new ⟨1, 2, 0⟩ 1 x 0) (bsK x).2).1 :: wB b s (its Sc.step i (Sc.new ⟨1, 2, 0⟩ 1 x 0) (bsK x).2).2 :: wR s (its Sc.step i (Sc.new ⟨1, 2, 0⟩ 1 x 0) (bsK x).2).2 :: L) H'
def bsI3 (x y : Int) (z b s kk kc kt : Nat) (L : List Hp) (F' : Fr) (H' : Hp) : Prop :=
  ∃ i : Nat, i ≤ 40 ∧ gt F' 18 = .int .i64 (i : Int) ∧ gt F' 5 = .int .i64 x ∧ gt F' 6 = .int .i64 y ∧ gt F' 7 = .pointer (some ⟨z, 0, none⟩) ∧ gt F' 9 = .pointer (some ⟨b, 0, none⟩) ∧ gt F' 10 = .pointer (some ⟨kk, 0, none⟩) ∧ gt F' 12 = .pointer (some ⟨kc, 0, none⟩) ∧ gt F' 17 = .pointer (some ⟨kt, 0, none⟩) ∧
    Sep (stB kt (its St.step i (St.new ⟨1, 2, 0⟩ 1 0 x) (bsP x)).1 :: wB b s (its St.step i (St.new ⟨1, 2, 0⟩ 1 0 x) (bsP x)).2 :: wR s (its St.step i (St.new ⟨1, 2, 0⟩ 1 0 x) (bsP x)).2 :: L) H'
def bsI4 (x y : Int) (z b s kk kc kt km : Nat) (L : List Hp) (F' : Fr) (H' : Hp) : Prop :=
  ∃ i : Nat, i ≤ 40 ∧ gt F' 20 = .int .i64 (i : Int) ∧ gt F' 5 = .int .i64 x ∧ gt F' 6 = .int .i64 y ∧ gt F' 7 = .pointer (some ⟨z, 0, none⟩) ∧ gt F' 9 = .pointer (some ⟨b, 0, none⟩) ∧ gt F' 10 = .pointer (some ⟨kk, 0, none⟩) ∧ gt F' 12 = .pointer (some ⟨kc, 0, none⟩) ∧ gt F' 17 = .pointer (some ⟨kt, 0, none⟩) ∧ gt F' 19 = .pointer (some ⟨km, 0, none⟩) ∧
    Sep (biB km (its Bi.step i (Bi.new ⟨1, 2, 0⟩ 1 0 y) (bsT x).2).1 :: wB b s (its Bi.step i (Bi.new ⟨1, 2, 0⟩ 1 0 y) (bsT x).2).2 :: wR s (its Bi.step i (Bi.new ⟨1, 2, 0⟩ 1 0 y) (bsT x).2).2 :: L) H'
def bsI5 (x y : Int) (z b km kt : Nat) (L : List Hp) (F' : Fr) (H' : Hp) : Prop :=
  ∃ i : Nat, i ≤ 16 ∧ gt F' 21 = .int .i64 (i : Int) ∧ gt F' 6 = .int .i64 y ∧ gt F' 9 = .pointer (some ⟨b, 0, none⟩) ∧ gt F' 17 = .pointer (some ⟨kt, 0, none⟩) ∧ gt F' 19 = .pointer (some ⟨km, 0, none⟩) ∧ Sep L H'
theorem c_bindstrip {aa bb : Int} (ha0 : 0 ≤ aa) (ha1 : aa ≤ 255) (hb0 : 0 ≤ bb) (hb1 : bb ≤ 255) (hS : Sep l H) :
    CallP Try.prog W 27 #[.int .u8 aa, .int .u8 bb] H fun v H' => v = .bool true ∧ Sep l H' := by
  refine CallP.of mixed Try.func27 tr27 (by show 2 ≤ _; decide) fun W _ => ?_
  simp only [↓D0, ↓D1, ↓D2, ↓D3, ↓D4, ↓D5, ↓D6, ↓D7, ↓D8, ↓D9, U0, U1, U2, U3, U4, U5, U6, U7, U8, U9, U10, ↓reduceIte, Nat.reduceAdd, Nat.reduceMul, Nat.reduceSub, Nat.reduceEqDiff, Nat.reduceBEq, Nat.reduceLeDiff, Nat.reduceLT, Int.reduceAdd, Int.reduceMul, Int.reduceSub, Int.reduceLT, Int.reduceLE, Int.reduceToNat, Int.reduceEq, Int.reduceNe, Int.reduceBEq, Int.reduceBNe, ne_eq, eq_self]
  refine callT_of (c_awake12 hS) ?_
  rintro v H' ⟨rfl, hS⟩
  have ea : w64 aa = aa := w64_eq (by omega) (by omega)
  have eb : w64 bb = bb := w64_eq (by omega) (by omega)
  have ta : aa.tmod 4 = aa % 4 := Int.tmod_eq_emod_of_nonneg ha0
  have tb : bb.tmod 4 = bb % 4 := Int.tmod_eq_emod_of_nonneg hb0
  obtain ⟨x, hx⟩ : ∃ x, aa % 4 = x := ⟨_, rfl⟩
  obtain ⟨y, hy⟩ : ∃ y, bb % 4 = y := ⟨_, rfl⟩
  have x0 : 0 ≤ x := by omega
  have x1 : x ≤ 3 := by omega
  have y0 : 0 ≤ y := by omega
  have y1 : y ≤ 3 := by omega
  have wx : w64 x = x := w64_eq (by omega) (by omega)
  have wy : w64 y = y := w64_eq (by omega) (by omega)
  have e1 : words 1 2 0 = 19 := by decide
  obtain ⟨z1, z2, z3, z4, z5, z6, z7, z8, z9⟩ := bs_all x0 x1 y0 y1
  simp only [wrap_w64, ea, eb, ta, tb, hx, hy, wx, wy, ↓D0, ↓D1, ↓D2, ↓D3, ↓D4, ↓D5, ↓D6, ↓D7, ↓D8, ↓D9, U0, U1, U2, U3, U4, U5, U6, U7, U8, U9, U10, ↓reduceIte, Nat.reduceAdd, Nat.reduceMul, Nat.reduceSub, Nat.reduceEqDiff, Nat.reduceBEq, Nat.reduceLeDiff, Nat.reduceLT, Int.reduceAdd, Int.reduceMul, Int.reduceSub, Int.reduceLT, Int.reduceLE, Int.reduceToNat, Int.reduceEq, Int.reduceNe, Int.reduceBEq, Int.reduceBNe, ne_eq, eq_self]
  refine newB_intro fun z hz f1 f2 => ?_
  have hS := hS.new f1 (.cells #[.int .i64 0, .int .i64 0, .int .i64 0] 57 (0, 0))
  have hS := hS.set (.cells #[.int .i64 1, .int .i64 2, .int .i64 0] 57 (0, 0))
  rw [Ev.upd_upd] at hS
  have hz1 := hS.look
  have rz := fun o n => rdn_of hz1 o n
  simp only [Ev.upd_upd, hz1, rz, u_words, e1, ↓D0, ↓D1, ↓D2, ↓D3, ↓D4, ↓D5, ↓D6, ↓D7, ↓D8, ↓D9, U0, U1, U2, U3, U4, U5, U6, U7, U8, U9, U10, ↓reduceIte, Nat.reduceAdd, Nat.reduceMul, Nat.reduceSub, Nat.reduceEqDiff, Nat.reduceBEq, Nat.reduceLeDiff, Nat.reduceLT, Int.reduceAdd, Int.reduceMul, Int.reduceSub, Int.reduceLT, Int.reduceLE, Int.reduceToNat, Int.reduceEq, Int.reduceNe, Int.reduceBEq, Int.reduceBNe, ne_eq, eq_self]
  refine newB_intro fun q hq f3 f4 => ?_
  have hS2 := hS.new f3 (.cells (urow 19 fun _ => 0) 26 (0, 0))
  have nzq := hS2.qen 0 1 (by decide) rfl rfl
  have nqz := hS2.neq 0 1 (by decide) rfl rfl
  have hq1 := hS2.look
  have hS3 := hS2.set (.cells (urow 19 fun j => if j = 2 then putPg 1 0 0 else 0) 26 (0, 0))
  rw [Ev.upd_upd] at hS3
  simp only [nzq, nqz, urow_zero, urow_set, urow_size, u_putpg, Ev.upd_upd, ↓D0, ↓D1, ↓D2, ↓D3, ↓D4, ↓D5, ↓D6, ↓D7, ↓D8, ↓D9, U0, U1, U2, U3, U4, U5, U6, U7, U8, U9, U10, ↓reduceIte, Nat.reduceAdd, Nat.reduceMul, Nat.reduceSub, Nat.reduceEqDiff, Nat.reduceBEq, Nat.reduceLeDiff, Nat.reduceLT, Int.reduceAdd, Int.reduceMul, Int.reduceSub, Int.reduceLT, Int.reduceLE, Int.reduceToNat, Int.reduceEq, Int.reduceNe, Int.reduceBEq, Int.reduceBNe, ne_eq, eq_self]
  refine callT_of (c_fill (n := 19) (by decide) (RowU.own q 19 _ _ _) hS3) ?_
  rintro v H' ⟨b, s, rfl, hS⟩
  have hS : Sep (wB b s bsW :: wR s bsW :: _) H' := hS
  have hS := hS.p2.tail
  have hz1 := hS.lk 2 rfl
  have rz := fun o n => rdn_of hz1 o n
  simp only [hz1, rz, ↓D0, ↓D1, ↓D2, ↓D3, ↓D4, ↓D5, ↓D6, ↓D7, ↓D8, ↓D9, U0, U1, U2, U3, U4, U5, U6, U7, U8, U9, U10, ↓reduceIte, Nat.reduceAdd, Nat.reduceMul, Nat.reduceSub, Nat.reduceEqDiff, Nat.reduceBEq, Nat.reduceLeDiff, Nat.reduceLT, Int.reduceAdd, Int.reduceMul, Int.reduceSub, Int.reduceLT, Int.reduceLE, Int.reduceToNat, Int.reduceEq, Int.reduceNe, Int.reduceBEq, Int.reduceBNe, ne_eq, eq_self]
  refine callT_of (c_binew (sh := ⟨1, 2, 0⟩) hS) ?_
  rintro v H' ⟨kk, rfl, hS⟩
  simp only [↓D0, ↓D1, ↓D2, ↓D3, ↓D4, ↓D5, ↓D6, ↓D7, ↓D8, ↓D9, U0, U1, U2, U3, U4, U5, U6, U7, U8, U9, U10, ↓reduceIte, Nat.reduceAdd, Nat.reduceMul, Nat.reduceSub, Nat.reduceEqDiff, Nat.reduceBEq, Nat.reduceLeDiff, Nat.reduceLT, Int.reduceAdd, Int.reduceMul, Int.reduceSub, Int.reduceLT, Int.reduceLE, Int.reduceToNat, Int.reduceEq, Int.reduceNe, Int.reduceBEq, Int.reduceBNe, ne_eq, eq_self]
  refine loop_intro (bsI1 x y z b s kk (sg z (.cells #[.int .i64 1, .int .i64 2, .int .i64 0] 57 (0, 0)) :: l)) (fun F' _ => (40 - iv (gt F' 11)).toNat) ⟨0, by decide, rfl, rfl, rfl, rfl, rfl, rfl, hS⟩ ?_
  rintro F' H' ⟨i, hi, e11, e5, e6, e7, e9, e10, hS⟩
  have hwf : (its Bi.step i (Bi.new ⟨1, 2, 0⟩ 0 0 x) bsW).1.wf := Bi.its_wf (Bi.new_wf ⟨1, 2, 0⟩ 0 0 x) i
  have hsh : (its Bi.step i (Bi.new ⟨1, 2, 0⟩ 0 0 x) bsW).1.s = ⟨1, 2, 0⟩ := Bi.its_s (t := Bi.new ⟨1, 2, 0⟩ 0 0 x) i
  have hof := Bi.its_of (t := Bi.new ⟨1, 2, 0⟩ 0 0 x) bs_of i
  rcases (by omega : i < 40 ∨ i = 40) with hlt | hlt
  · have d1 : decide ((i : Int) < 40) = true := decide_eq_true (by omega)
    have w1 : w64 ((i : Int) + 1) = ((i + 1 : Nat) : Int) := by rw [w64_eq (by omega) (by omega)]; omega
    simp only [e11, e5, e6, e7, e9, e10, d1, ↓D0, ↓D1, ↓D2, ↓D3, ↓D4, ↓D5, ↓D6, ↓D7, ↓D8, ↓D9, U0, U1, U2, U3, U4, U5, U6, U7, U8, U9, U10, ↓reduceIte, Nat.reduceAdd, Nat.reduceMul, Nat.reduceSub, Nat.reduceEqDiff, Nat.reduceBEq, Nat.reduceLeDiff, Nat.reduceLT, Int.reduceAdd, Int.reduceMul, Int.reduceSub, Int.reduceLT, Int.reduceLE, Int.reduceToNat, Int.reduceEq, Int.reduceNe, Int.reduceBEq, Int.reduceBNe, ne_eq, eq_self]
    refine callT_of (c_bistep hwf (fun _ => by rw [hsh]; exact hof) hS) ?_
    rintro v H' ⟨rfl, hS⟩
    simp only [e11, e5, e6, e7, e9, e10, wrap_w64, w1, ↓D0, ↓D1, ↓D2, ↓D3, ↓D4, ↓D5, ↓D6, ↓D7, ↓D8, ↓D9, U0, U1, U2, U3, U4, U5, U6, U7, U8, U9, U10, ↓reduceIte, Nat.reduceAdd, Nat.reduceMul, Nat.reduceSub, Nat.reduceEqDiff, Nat.reduceBEq, Nat.reduceLeDiff, Nat.reduceLT, Int.reduceAdd, Int.reduceMul, Int.reduceSub, Int.reduceLT, Int.reduceLE, Int.reduceToNat, Int.reduceEq, Int.reduceNe, Int.reduceBEq, Int.reduceBNe, ne_eq, eq_self]
    exact ⟨⟨i + 1, by omega, rfl, by simp [gt, e5], by simp [gt, e6], by simp [gt, e7], by simp [gt, e9], by simp [gt, e10], hS⟩, by simp [gt, iv, e11]; omega⟩
  subst hlt
  simp only [e11, e5, e6, e7, e9, e10, ↓D0, ↓D1, ↓D2, ↓D3, ↓D4, ↓D5, ↓D6, ↓D7, ↓D8, ↓D9, U0, U1, U2, U3, U4, U5, U6, U7, U8, U9, U10, ↓reduceIte, Nat.reduceAdd, Nat.reduceMul, Nat.reduceSub, Nat.reduceEqDiff, Nat.reduceBEq, Nat.reduceLeDiff, Nat.reduceLT, Int.reduceAdd, Int.reduceMul, Int.reduceSub, Int.reduceLT, Int.reduceLE, Int.reduceToNat, Int.reduceEq, Int.reduceNe, Int.reduceBEq, Int.reduceBNe, ne_eq, eq_self]
  have hS : Sep (biB kk (bsK x).1 :: wB b s (bsK x).2 :: wR s (bsK x).2 :: _) H' := hS
  have of1 : (bsK x).2.of ⟨1, 2, 0⟩ := hof
  have hS := hS.r2
  have hz1 := hS.lk 3 rfl
  have rz := fun o n => rdn_of hz1 o n
  simp only [e11, e5, e6, e7, e9, e10, hz1, rz, ↓D0, ↓D1, ↓D2, ↓D3, ↓D4, ↓D5, ↓D6, ↓D7, ↓D8, ↓D9, U0, U1, U2, U3, U4, U5, U6, U7, U8, U9, U10, ↓reduceIte, Nat.reduceAdd, Nat.reduceMul, Nat.reduceSub, Nat.reduceEqDiff, Nat.reduceBEq, Nat.reduceLeDiff, Nat.reduceLT, Int.reduceAdd, Int.reduceMul, Int.reduceSub, Int.reduceLT, Int.reduceLE, Int.reduceToNat, Int.reduceEq, Int.reduceNe, Int.reduceBEq, Int.reduceBNe, ne_eq, eq_self]
  refine callT_of (c_scnew (sh := ⟨1, 2, 0⟩) hS) ?_
  rintro v H' ⟨kc, rfl, hS⟩
  simp only [e11, e5, e6, e7, e9, e10, ↓D0, ↓D1, ↓D2, ↓D3, ↓D4, ↓D5, ↓D6, ↓D7, ↓D8, ↓D9, U0, U1, U2, U3, U4, U5, U6, U7, U8, U9, U10, ↓reduceIte, Nat.reduceAdd, Nat.reduceMul, Nat.reduceSub, Nat.reduceEqDiff, Nat.reduceBEq, Nat.reduceLeDiff, Nat.reduceLT, Int.reduceAdd, Int.reduceMul, Int.reduceSub, Int.reduceLT, Int.reduceLE, Int.reduceToNat, Int.reduceEq, Int.reduceNe, Int.reduceBEq, Int.reduceBNe, ne_eq, eq_self]
  refine loop_intro (bsI2 x y z b s kk kc (biB kk (bsK x).1 :: sg z (.cells #[.int .i64 1, .int .i64 2, .int .i64 0] 57 (0, 0)) :: l)) (fun F' _ => (40 - iv (gt F' 13)).toNat) ⟨0, by decide, rfl, by simp [gt, e5], by simp [gt, e6], by simp [gt, e7], by simp [gt, e9], by simp [gt, e10], by simp [gt], hS⟩ ?_
  rintro F' H' ⟨i, hi, e13, e5, e6, e7, e9, e10, e12, hS⟩
  have hwf : (its Sc.step i (Sc.new ⟨1, 2, 0⟩ 1 x 0) (bsK x).2).1.wf := Sc.its_wf (Sc.new_wf ⟨1, 2, 0⟩ 1 x 0) i
  have hsh : (its Sc.step i (Sc.new ⟨1, 2, 0⟩ 1 x 0) (bsK x).2).1.s = ⟨1, 2, 0⟩ := Sc.its_s (t := Sc.new ⟨1, 2, 0⟩ 1 x 0) i
  have hof := Sc.its_of (t := Sc.new ⟨1, 2, 0⟩ 1 x 0) of1 i
  rcases (by omega : i < 40 ∨ i = 40) with hlt | hlt
  · have d1 : decide ((i : Int) < 40) = true := decide_eq_true (by omega)
    have w1 : w64 ((i : Int) + 1) = ((i + 1 : Nat) : Int) := by rw [w64_eq (by omega) (by omega)]; omega
    simp only [e13, e5, e6, e7, e9, e10, e12, d1, ↓D0, ↓D1, ↓D2, ↓D3, ↓D4, ↓D5, ↓D6, ↓D7, ↓D8, ↓D9, U0, U1, U2, U3, U4, U5, U6, U7, U8, U9, U10, ↓reduceIte, Nat.reduceAdd, Nat.reduceMul, Nat.reduceSub, Nat.reduceEqDiff, Nat.reduceBEq, Nat.reduceLeDiff, Nat.reduceLT, Int.reduceAdd, Int.reduceMul, Int.reduceSub, Int.reduceLT, Int.reduceLE, Int.reduceToNat, Int.reduceEq, Int.reduceNe, Int.reduceBEq, Int.reduceBNe, ne_eq, eq_self]
    refine callT_of (c_scstep hwf (fun _ => by rw [hsh]; exact hof) hS) ?_
    rintro v H' ⟨rfl, hS⟩
    simp only [e13, e5, e6, e7, e9, e10, e12, wrap_w64, w1, ↓D0, ↓D1, ↓D2, ↓D3, ↓D4, ↓D5, ↓D6, ↓D7, ↓D8, ↓D9, U0, U1, U2, U3, U4, U5, U6, U7, U8, U9, U10, ↓reduceIte, Nat.reduceAdd, Nat.reduceMul, Nat.reduceSub, Nat.reduceEqDiff, Nat.reduceBEq, Nat.reduceLeDiff, Nat.reduceLT, Int.reduceAdd, Int.reduceMul, Int.reduceSub, Int.reduceLT, Int.reduceLE, Int.reduceToNat, Int.reduceEq, Int.reduceNe, Int.reduceBEq, Int.reduceBNe, ne_eq, eq_self]
    exact ⟨⟨i + 1, by omega, rfl, by simp [gt, e5], by simp [gt, e6], by simp [gt, e7], by simp [gt, e9], by simp [gt, e10], by simp [gt, e12], hS⟩, by simp [gt, iv, e13]; omega⟩
  subst hlt
  simp only [e13, e5, e6, e7, e9, e10, e12, ↓D0, ↓D1, ↓D2, ↓D3, ↓D4, ↓D5, ↓D6, ↓D7, ↓D8, ↓D9, U0, U1, U2, U3, U4, U5, U6, U7, U8, U9, U10, ↓reduceIte, Nat.reduceAdd, Nat.reduceMul, Nat.reduceSub, Nat.reduceEqDiff, Nat.reduceBEq, Nat.reduceLeDiff, Nat.reduceLT, Int.reduceAdd, Int.reduceMul, Int.reduceSub, Int.reduceLT, Int.reduceLE, Int.reduceToNat, Int.reduceEq, Int.reduceNe, Int.reduceBEq, Int.reduceBNe, ne_eq, eq_self]
  have hS : Sep (scB kc (bsC x).1 :: wB b s (bsC x).2 :: wR s (bsC x).2 :: _) H' := hS
  have of2 : (bsC x).2.of ⟨1, 2, 0⟩ := hof
  have hcs : (bsC x).1.s = ⟨1, 2, 0⟩ := hsh
  have n2 : (bsC x).2.n = 19 := by have := of2.n; rw [show words (⟨1, 2, 0⟩ : Sh).p (⟨1, 2, 0⟩ : Sh).c (⟨1, 2, 0⟩ : Sh).m = 19 from e1] at this; omega
  refine callT_of (c_scfound (fun _ => ⟨by rw [hcs]; decide, z4, by omega⟩) hS) ?_
  rintro v H' ⟨rfl, hS⟩
  simp only [e13, e5, e6, e7, e9, e10, e12, z2, z3, ↓D0, ↓D1, ↓D2, ↓D3, ↓D4, ↓D5, ↓D6, ↓D7, ↓D8, ↓D9, U0, U1, U2, U3, U4, U5, U6, U7, U8, U9, U10, ↓reduceIte, Nat.reduceAdd, Nat.reduceMul, Nat.reduceSub, Nat.reduceEqDiff, Nat.reduceBEq, Nat.reduceLeDiff, Nat.reduceLT, Int.reduceAdd, Int.reduceMul, Int.reduceSub, Int.reduceLT, Int.reduceLE, Int.reduceToNat, Int.reduceEq, Int.reduceNe, Int.reduceBEq, Int.reduceBNe, ne_eq, eq_self]
  refine callT_of (c_bidone hS.p3) ?_
  rintro v H' ⟨rfl, hS⟩
  simp only [e13, e5, e6, e7, e9, e10, e12, z1, u_putsl, ↓D0, ↓D1, ↓D2, ↓D3, ↓D4, ↓D5, ↓D6, ↓D7, ↓D8, ↓D9, U0, U1, U2, U3, U4, U5, U6, U7, U8, U9, U10, ↓reduceIte, Nat.reduceAdd, Nat.reduceMul, Nat.reduceSub, Nat.reduceEqDiff, Nat.reduceBEq, Nat.reduceLeDiff, Nat.reduceLT, Int.reduceAdd, Int.reduceMul, Int.reduceSub, Int.reduceLT, Int.reduceLE, Int.reduceToNat, Int.reduceEq, Int.reduceNe, Int.reduceBEq, Int.reduceBNe, ne_eq, eq_self]
  refine callT_of (c_put 3 (putSl 1 x) (by decide) (by rw [n2]; decide) hS.r3.r2) ?_
  rintro v H' ⟨rfl, hS⟩
  simp only [e13, e5, e6, e7, e9, e10, e12, u_putsl, ↓D0, ↓D1, ↓D2, ↓D3, ↓D4, ↓D5, ↓D6, ↓D7, ↓D8, ↓D9, U0, U1, U2, U3, U4, U5, U6, U7, U8, U9, U10, ↓reduceIte, Nat.reduceAdd, Nat.reduceMul, Nat.reduceSub, Nat.reduceEqDiff, Nat.reduceBEq, Nat.reduceLeDiff, Nat.reduceLT, Int.reduceAdd, Int.reduceMul, Int.reduceSub, Int.reduceLT, Int.reduceLE, Int.reduceToNat, Int.reduceEq, Int.reduceNe, Int.reduceBEq, Int.reduceBNe, ne_eq, eq_self]
  refine callT_of (c_put 4 (putSl 1 x) (by decide) (by show (4 : Int) < ((bsC x).2.n : Int); rw [n2]; decide) hS) ?_
  rintro v H' ⟨rfl, hS⟩
  have hS : Sep (wB b s (bsP x) :: wR s (bsP x) :: _) H' := hS
  have ofp : (bsP x).of ⟨1, 2, 0⟩ := Wd.of_put (Wd.of_put of2 (U_putSl ..) _) (U_putSl ..) _
  have hz1 := hS.lk 4 rfl
  have rz := fun o n => rdn_of hz1 o n
  simp only [e13, e5, e6, e7, e9, e10, e12, hz1, rz, ↓D0, ↓D1, ↓D2, ↓D3, ↓D4, ↓D5, ↓D6, ↓D7, ↓D8, ↓D9, U0, U1, U2, U3, U4, U5, U6, U7, U8, U9, U10, ↓reduceIte, Nat.reduceAdd, Nat.reduceMul, Nat.reduceSub, Nat.reduceEqDiff, Nat.reduceBEq, Nat.reduceLeDiff, Nat.reduceLT, Int.reduceAdd, Int.reduceMul, Int.reduceSub, Int.reduceLT, Int.reduceLE, Int.reduceToNat, Int.reduceEq, Int.reduceNe, Int.reduceBEq, Int.reduceBNe, ne_eq, eq_self]
  refine callT_of (c_stnew (sh := ⟨1, 2, 0⟩) hS) ?_
  rintro v H' ⟨kt, rfl, hS⟩
  simp only [e13, e5, e6, e7, e9, e10, e12, ↓D0, ↓D1, ↓D2, ↓D3, ↓D4, ↓D5, ↓D6, ↓D7, ↓D8, ↓D9, U0, U1, U2, U3, U4, U5, U6, U7, U8, U9, U10, ↓reduceIte, Nat.reduceAdd, Nat.reduceMul, Nat.reduceSub, Nat.reduceEqDiff, Nat.reduceBEq, Nat.reduceLeDiff, Nat.reduceLT, Int.reduceAdd, Int.reduceMul, Int.reduceSub, Int.reduceLT, Int.reduceLE, Int.reduceToNat, Int.reduceEq, Int.reduceNe, Int.reduceBEq, Int.reduceBNe, ne_eq, eq_self]
  refine loop_intro (bsI3 x y z b s kk kc kt (scB kc (bsC x).1 :: biB kk (bsK x).1 :: sg z (.cells #[.int .i64 1, .int .i64 2, .int .i64 0] 57 (0, 0)) :: l)) (fun F' _ => (40 - iv (gt F' 18)).toNat) ⟨0, by decide, rfl, by simp [gt, e5], by simp [gt, e6], by simp [gt, e7], by simp [gt, e9], by simp [gt, e10], by simp [gt, e12], by simp [gt], hS⟩ ?_
  rintro F' H' ⟨i, hi, e18, e5, e6, e7, e9, e10, e12, e17, hS⟩
  have hwf : (its St.step i (St.new ⟨1, 2, 0⟩ 1 0 x) (bsP x)).1.wf := St.its_wf (St.new_wf ⟨1, 2, 0⟩ 1 0 x) i
  have hsh : (its St.step i (St.new ⟨1, 2, 0⟩ 1 0 x) (bsP x)).1.s = ⟨1, 2, 0⟩ := St.its_s (t := St.new ⟨1, 2, 0⟩ 1 0 x) i
  have hof := St.its_of (t := St.new ⟨1, 2, 0⟩ 1 0 x) ofp i
  rcases (by omega : i < 40 ∨ i = 40) with hlt | hlt
  · have d1 : decide ((i : Int) < 40) = true := decide_eq_true (by omega)
    have w1 : w64 ((i : Int) + 1) = ((i + 1 : Nat) : Int) := by rw [w64_eq (by omega) (by omega)]; omega
    simp only [e18, e5, e6, e7, e9, e10, e12, e17, d1, ↓D0, ↓D1, ↓D2, ↓D3, ↓D4, ↓D5, ↓D6, ↓D7, ↓D8, ↓D9, U0, U1, U2, U3, U4, U5, U6, U7, U8, U9, U10, ↓reduceIte, Nat.reduceAdd, Nat.reduceMul, Nat.reduceSub, Nat.reduceEqDiff, Nat.reduceBEq, Nat.reduceLeDiff, Nat.reduceLT, Int.reduceAdd, Int.reduceMul, Int.reduceSub, Int.reduceLT, Int.reduceLE, Int.reduceToNat, Int.reduceEq, Int.reduceNe, Int.reduceBEq, Int.reduceBNe, ne_eq, eq_self]
    refine callT_of (c_ststep hwf (fun _ => by rw [hsh]; exact hof) hS) ?_
    rintro v H' ⟨rfl, hS⟩
    simp only [e18, e5, e6, e7, e9, e10, e12, e17, wrap_w64, w1, ↓D0, ↓D1, ↓D2, ↓D3, ↓D4, ↓D5, ↓D6, ↓D7, ↓D8, ↓D9, U0, U1, U2, U3, U4, U5, U6, U7, U8, U9, U10, ↓reduceIte, Nat.reduceAdd, Nat.reduceMul, Nat.reduceSub, Nat.reduceEqDiff, Nat.reduceBEq, Nat.reduceLeDiff, Nat.reduceLT, Int.reduceAdd, Int.reduceMul, Int.reduceSub, Int.reduceLT, Int.reduceLE, Int.reduceToNat, Int.reduceEq, Int.reduceNe, Int.reduceBEq, Int.reduceBNe, ne_eq, eq_self]
    exact ⟨⟨i + 1, by omega, rfl, by simp [gt, e5], by simp [gt, e6], by simp [gt, e7], by simp [gt, e9], by simp [gt, e10], by simp [gt, e12], by simp [gt, e17], hS⟩, by simp [gt, iv, e18]; omega⟩
  subst hlt
  simp only [e18, e5, e6, e7, e9, e10, e12, e17, ↓D0, ↓D1, ↓D2, ↓D3, ↓D4, ↓D5, ↓D6, ↓D7, ↓D8, ↓D9, U0, U1, U2, U3, U4, U5, U6, U7, U8, U9, U10, ↓reduceIte, Nat.reduceAdd, Nat.reduceMul, Nat.reduceSub, Nat.reduceEqDiff, Nat.reduceBEq, Nat.reduceLeDiff, Nat.reduceLT, Int.reduceAdd, Int.reduceMul, Int.reduceSub, Int.reduceLT, Int.reduceLE, Int.reduceToNat, Int.reduceEq, Int.reduceNe, Int.reduceBEq, Int.reduceBNe, ne_eq, eq_self]
  have hS : Sep (stB kt (bsT x).1 :: wB b s (bsT x).2 :: wR s (bsT x).2 :: _) H' := hS
  have of3 : (bsT x).2.of ⟨1, 2, 0⟩ := hof
  have hS := hS.r2
  have hz1 := hS.lk 5 rfl
  have rz := fun o n => rdn_of hz1 o n
  simp only [e18, e5, e6, e7, e9, e10, e12, e17, hz1, rz, ↓D0, ↓D1, ↓D2, ↓D3, ↓D4, ↓D5, ↓D6, ↓D7, ↓D8, ↓D9, U0, U1, U2, U3, U4, U5, U6, U7, U8, U9, U10, ↓reduceIte, Nat.reduceAdd, Nat.reduceMul, Nat.reduceSub, Nat.reduceEqDiff, Nat.reduceBEq, Nat.reduceLeDiff, Nat.reduceLT, Int.reduceAdd, Int.reduceMul, Int.reduceSub, Int.reduceLT, Int.reduceLE, Int.reduceToNat, Int.reduceEq, Int.reduceNe, Int.reduceBEq, Int.reduceBNe, ne_eq, eq_self]
  refine callT_of (c_binew (sh := ⟨1, 2, 0⟩) hS) ?_
  rintro v H' ⟨km, rfl, hS⟩
  simp only [e18, e5, e6, e7, e9, e10, e12, e17, ↓D0, ↓D1, ↓D2, ↓D3, ↓D4, ↓D5, ↓D6, ↓D7, ↓D8, ↓D9, U0, U1, U2, U3, U4, U5, U6, U7, U8, U9, U10, ↓reduceIte, Nat.reduceAdd, Nat.reduceMul, Nat.reduceSub, Nat.reduceEqDiff, Nat.reduceBEq, Nat.reduceLeDiff, Nat.reduceLT, Int.reduceAdd, Int.reduceMul, Int.reduceSub, Int.reduceLT, Int.reduceLE, Int.reduceToNat, Int.reduceEq, Int.reduceNe, Int.reduceBEq, Int.reduceBNe, ne_eq, eq_self]
  refine loop_intro (bsI4 x y z b s kk kc kt km (stB kt (bsT x).1 :: scB kc (bsC x).1 :: biB kk (bsK x).1 :: sg z (.cells #[.int .i64 1, .int .i64 2, .int .i64 0] 57 (0, 0)) :: l)) (fun F' _ => (40 - iv (gt F' 20)).toNat) ⟨0, by decide, rfl, by simp [gt, e5], by simp [gt, e6], by simp [gt, e7], by simp [gt, e9], by simp [gt, e10], by simp [gt, e12], by simp [gt, e17], by simp [gt], hS⟩ ?_
  rintro F' H' ⟨i, hi, e20, e5, e6, e7, e9, e10, e12, e17, e19, hS⟩
  have hwf : (its Bi.step i (Bi.new ⟨1, 2, 0⟩ 1 0 y) (bsT x).2).1.wf := Bi.its_wf (Bi.new_wf ⟨1, 2, 0⟩ 1 0 y) i
  have hsh : (its Bi.step i (Bi.new ⟨1, 2, 0⟩ 1 0 y) (bsT x).2).1.s = ⟨1, 2, 0⟩ := Bi.its_s (t := Bi.new ⟨1, 2, 0⟩ 1 0 y) i
  have hof := Bi.its_of (t := Bi.new ⟨1, 2, 0⟩ 1 0 y) of3 i
  rcases (by omega : i < 40 ∨ i = 40) with hlt | hlt
  · have d1 : decide ((i : Int) < 40) = true := decide_eq_true (by omega)
    have w1 : w64 ((i : Int) + 1) = ((i + 1 : Nat) : Int) := by rw [w64_eq (by omega) (by omega)]; omega
    simp only [e20, e5, e6, e7, e9, e10, e12, e17, e19, d1, ↓D0, ↓D1, ↓D2, ↓D3, ↓D4, ↓D5, ↓D6, ↓D7, ↓D8, ↓D9, U0, U1, U2, U3, U4, U5, U6, U7, U8, U9, U10, ↓reduceIte, Nat.reduceAdd, Nat.reduceMul, Nat.reduceSub, Nat.reduceEqDiff, Nat.reduceBEq, Nat.reduceLeDiff, Nat.reduceLT, Int.reduceAdd, Int.reduceMul, Int.reduceSub, Int.reduceLT, Int.reduceLE, Int.reduceToNat, Int.reduceEq, Int.reduceNe, Int.reduceBEq, Int.reduceBNe, ne_eq, eq_self]
    refine callT_of (c_bistep hwf (fun _ => by rw [hsh]; exact hof) hS) ?_
    rintro v H' ⟨rfl, hS⟩
    simp only [e20, e5, e6, e7, e9, e10, e12, e17, e19, wrap_w64, w1, ↓D0, ↓D1, ↓D2, ↓D3, ↓D4, ↓D5, ↓D6, ↓D7, ↓D8, ↓D9, U0, U1, U2, U3, U4, U5, U6, U7, U8, U9, U10, ↓reduceIte, Nat.reduceAdd, Nat.reduceMul, Nat.reduceSub, Nat.reduceEqDiff, Nat.reduceBEq, Nat.reduceLeDiff, Nat.reduceLT, Int.reduceAdd, Int.reduceMul, Int.reduceSub, Int.reduceLT, Int.reduceLE, Int.reduceToNat, Int.reduceEq, Int.reduceNe, Int.reduceBEq, Int.reduceBNe, ne_eq, eq_self]
    exact ⟨⟨i + 1, by omega, rfl, by simp [gt, e5], by simp [gt, e6], by simp [gt, e7], by simp [gt, e9], by simp [gt, e10], by simp [gt, e12], by simp [gt, e17], by simp [gt, e19], hS⟩, by simp [gt, iv, e20]; omega⟩
  subst hlt
  simp only [e20, e5, e6, e7, e9, e10, e12, e17, e19, ↓D0, ↓D1, ↓D2, ↓D3, ↓D4, ↓D5, ↓D6, ↓D7, ↓D8, ↓D9, U0, U1, U2, U3, U4, U5, U6, U7, U8, U9, U10, ↓reduceIte, Nat.reduceAdd, Nat.reduceMul, Nat.reduceSub, Nat.reduceEqDiff, Nat.reduceBEq, Nat.reduceLeDiff, Nat.reduceLT, Int.reduceAdd, Int.reduceMul, Int.reduceSub, Int.reduceLT, Int.reduceLE, Int.reduceToNat, Int.reduceEq, Int.reduceNe, Int.reduceBEq, Int.reduceBNe, ne_eq, eq_self]
  have hS : Sep (biB km (bsM x y).1 :: wB b s (bsM x y).2 :: wR s (bsM x y).2 :: _) H' := hS
  have of4 : (bsM x y).2.of ⟨1, 2, 0⟩ := hof
  have n4 : (bsM x y).2.n = 19 := by have := of4.n; rw [show words (⟨1, 2, 0⟩ : Sh).p (⟨1, 2, 0⟩ : Sh).c (⟨1, 2, 0⟩ : Sh).m = 19 from e1] at this; omega
  have hS := hS.r2
  refine loop_intro (bsI5 x y z b km kt (wB b s (bsM x y).2 :: wR s (bsM x y).2 :: biB km (bsM x y).1 :: stB kt (bsT x).1 :: scB kc (bsC x).1 :: biB kk (bsK x).1 :: sg z (.cells #[.int .i64 1, .int .i64 2, .int .i64 0] 57 (0, 0)) :: l)) (fun F' _ => (16 - iv (gt F' 21)).toNat) ⟨0, by decide, rfl, by simp [gt, e6], by simp [gt, e9], by simp [gt, e17], by simp [gt, e19], hS⟩ ?_
  rintro F' H' ⟨i, hi, e21, e6, e9, e17, e19, hS⟩
  rcases (by omega : i < 16 ∨ i = 16) with hlt | hlt
  · have d1 : decide ((i : Int) < 16) = true := decide_eq_true (by omega)
    have w1 : w64 ((i : Int) + 1) = ((i + 1 : Nat) : Int) := by rw [w64_eq (by omega) (by omega)]; omega
    have w3 : w64 (3 + (i : Int)) = 3 + (i : Int) := w64_eq (by omega) (by omega)
    have hget := z8 i hlt
    have k1 : 3 + (i : Int) < ((bsM x y).2.n : Int) := by rw [n4]; show 3 + (i : Int) < 19; omega
    by_cases hi0 : i = 0
    · have c0 : ((i : Int) == 0) = true := beq_iff_eq.2 (by omega)
      rw [if_pos hi0] at hget
      have c2 : ((bsM x y).2.get (3 + (i : Int)) != putSl 2 1) = false := by rw [hget]; simp
      by_cases hsl : (i : Int) < slots y
      · have c1 : decide ((i : Int) < slots y) = true := decide_eq_true hsl
        simp only [e21, e6, e9, e17, e19, d1, u_slots, u_putsl, c0, c1, wrap_w64, w3, ↓D0, ↓D1, ↓D2, ↓D3, ↓D4, ↓D5, ↓D6, ↓D7, ↓D8, ↓D9, U0, U1, U2, U3, U4, U5, U6, U7, U8, U9, U10, ↓reduceIte, Nat.reduceAdd, Nat.reduceMul, Nat.reduceSub, Nat.reduceEqDiff, Nat.reduceBEq, Nat.reduceLeDiff, Nat.reduceLT, Int.reduceAdd, Int.reduceMul, Int.reduceSub, Int.reduceLT, Int.reduceLE, Int.reduceToNat, Int.reduceEq, Int.reduceNe, Int.reduceBEq, Int.reduceBNe, ne_eq, eq_self]
        refine callT_of (c_look (3 + (i : Int)) (by omega) k1 hS) ?_
        rintro v H' ⟨rfl, hS⟩
        simp only [e21, e6, e9, e17, e19, c2, wrap_w64, w1, ↓D0, ↓D1, ↓D2, ↓D3, ↓D4, ↓D5, ↓D6, ↓D7, ↓D8, ↓D9, U0, U1, U2, U3, U4, U5, U6, U7, U8, U9, U10, ↓reduceIte, Nat.reduceAdd, Nat.reduceMul, Nat.reduceSub, Nat.reduceEqDiff, Nat.reduceBEq, Nat.reduceLeDiff, Nat.reduceLT, Int.reduceAdd, Int.reduceMul, Int.reduceSub, Int.reduceLT, Int.reduceLE, Int.reduceToNat, Int.reduceEq, Int.reduceNe, Int.reduceBEq, Int.reduceBNe, ne_eq, eq_self]
        exact ⟨⟨i + 1, by omega, by simp [gt], by simp [gt, e6], by simp [gt, e9], by simp [gt, e17], by simp [gt, e19], hS⟩, by simp [gt, iv, e21]; omega⟩
      · have c1 : decide ((i : Int) < slots y) = false := decide_eq_false hsl
        simp only [e21, e6, e9, e17, e19, d1, u_slots, u_putsl, c0, c1, wrap_w64, w3, ↓D0, ↓D1, ↓D2, ↓D3, ↓D4, ↓D5, ↓D6, ↓D7, ↓D8, ↓D9, U0, U1, U2, U3, U4, U5, U6, U7, U8, U9, U10, ↓reduceIte, Nat.reduceAdd, Nat.reduceMul, Nat.reduceSub, Nat.reduceEqDiff, Nat.reduceBEq, Nat.reduceLeDiff, Nat.reduceLT, Int.reduceAdd, Int.reduceMul, Int.reduceSub, Int.reduceLT, Int.reduceLE, Int.reduceToNat, Int.reduceEq, Int.reduceNe, Int.reduceBEq, Int.reduceBNe, ne_eq, eq_self]
        refine callT_of (c_look (3 + (i : Int)) (by omega) k1 hS) ?_
        rintro v H' ⟨rfl, hS⟩
        simp only [e21, e6, e9, e17, e19, c2, wrap_w64, w1, ↓D0, ↓D1, ↓D2, ↓D3, ↓D4, ↓D5, ↓D6, ↓D7, ↓D8, ↓D9, U0, U1, U2, U3, U4, U5, U6, U7, U8, U9, U10, ↓reduceIte, Nat.reduceAdd, Nat.reduceMul, Nat.reduceSub, Nat.reduceEqDiff, Nat.reduceBEq, Nat.reduceLeDiff, Nat.reduceLT, Int.reduceAdd, Int.reduceMul, Int.reduceSub, Int.reduceLT, Int.reduceLE, Int.reduceToNat, Int.reduceEq, Int.reduceNe, Int.reduceBEq, Int.reduceBNe, ne_eq, eq_self]
        exact ⟨⟨i + 1, by omega, by simp [gt], by simp [gt, e6], by simp [gt, e9], by simp [gt, e17], by simp [gt, e19], hS⟩, by simp [gt, iv, e21]; omega⟩
    · have c0 : ((i : Int) == 0) = false := beq_eq_false_iff_ne.2 (by omega)
      rw [if_neg hi0] at hget
      by_cases hsl : (i : Int) < slots y
      · have c1 : decide ((i : Int) < slots y) = true := decide_eq_true hsl
        rw [if_pos hsl] at hget
        have c2 : ((bsM x y).2.get (3 + (i : Int)) != putSl 1 y) = false := by rw [hget]; simp
        simp only [e21, e6, e9, e17, e19, d1, u_slots, u_putsl, c0, c1, wrap_w64, w3, ↓D0, ↓D1, ↓D2, ↓D3, ↓D4, ↓D5, ↓D6, ↓D7, ↓D8, ↓D9, U0, U1, U2, U3, U4, U5, U6, U7, U8, U9, U10, ↓reduceIte, Nat.reduceAdd, Nat.reduceMul, Nat.reduceSub, Nat.reduceEqDiff, Nat.reduceBEq, Nat.reduceLeDiff, Nat.reduceLT, Int.reduceAdd, Int.reduceMul, Int.reduceSub, Int.reduceLT, Int.reduceLE, Int.reduceToNat, Int.reduceEq, Int.reduceNe, Int.reduceBEq, Int.reduceBNe, ne_eq, eq_self]
        refine callT_of (c_look (3 + (i : Int)) (by omega) k1 hS) ?_
        rintro v H' ⟨rfl, hS⟩
        simp only [e21, e6, e9, e17, e19, c2, wrap_w64, w1, ↓D0, ↓D1, ↓D2, ↓D3, ↓D4, ↓D5, ↓D6, ↓D7, ↓D8, ↓D9, U0, U1, U2, U3, U4, U5, U6, U7, U8, U9, U10, ↓reduceIte, Nat.reduceAdd, Nat.reduceMul, Nat.reduceSub, Nat.reduceEqDiff, Nat.reduceBEq, Nat.reduceLeDiff, Nat.reduceLT, Int.reduceAdd, Int.reduceMul, Int.reduceSub, Int.reduceLT, Int.reduceLE, Int.reduceToNat, Int.reduceEq, Int.reduceNe, Int.reduceBEq, Int.reduceBNe, ne_eq, eq_self]
        exact ⟨⟨i + 1, by omega, by simp [gt], by simp [gt, e6], by simp [gt, e9], by simp [gt, e17], by simp [gt, e19], hS⟩, by simp [gt, iv, e21]; omega⟩
      · have c1 : decide ((i : Int) < slots y) = false := decide_eq_false hsl
        rw [if_neg hsl] at hget
        have c2 : ((bsM x y).2.get (3 + (i : Int)) != 0) = false := by rw [hget]; simp
        simp only [e21, e6, e9, e17, e19, d1, u_slots, u_putsl, c0, c1, wrap_w64, w3, ↓D0, ↓D1, ↓D2, ↓D3, ↓D4, ↓D5, ↓D6, ↓D7, ↓D8, ↓D9, U0, U1, U2, U3, U4, U5, U6, U7, U8, U9, U10, ↓reduceIte, Nat.reduceAdd, Nat.reduceMul, Nat.reduceSub, Nat.reduceEqDiff, Nat.reduceBEq, Nat.reduceLeDiff, Nat.reduceLT, Int.reduceAdd, Int.reduceMul, Int.reduceSub, Int.reduceLT, Int.reduceLE, Int.reduceToNat, Int.reduceEq, Int.reduceNe, Int.reduceBEq, Int.reduceBNe, ne_eq, eq_self]
        refine callT_of (c_look (3 + (i : Int)) (by omega) k1 hS) ?_
        rintro v H' ⟨rfl, hS⟩
        simp only [e21, e6, e9, e17, e19, c2, wrap_w64, w1, ↓D0, ↓D1, ↓D2, ↓D3, ↓D4, ↓D5, ↓D6, ↓D7, ↓D8, ↓D9, U0, U1, U2, U3, U4, U5, U6, U7, U8, U9, U10, ↓reduceIte, Nat.reduceAdd, Nat.reduceMul, Nat.reduceSub, Nat.reduceEqDiff, Nat.reduceBEq, Nat.reduceLeDiff, Nat.reduceLT, Int.reduceAdd, Int.reduceMul, Int.reduceSub, Int.reduceLT, Int.reduceLE, Int.reduceToNat, Int.reduceEq, Int.reduceNe, Int.reduceBEq, Int.reduceBNe, ne_eq, eq_self]
        exact ⟨⟨i + 1, by omega, by simp [gt], by simp [gt, e6], by simp [gt, e9], by simp [gt, e17], by simp [gt, e19], hS⟩, by simp [gt, iv, e21]; omega⟩
  subst hlt
  have c9 : ((bsM x y).2.get 2 == putPg 2 y 1) = true := beq_iff_eq.2 z9
  simp only [e21, e6, e9, e17, e19, ↓D0, ↓D1, ↓D2, ↓D3, ↓D4, ↓D5, ↓D6, ↓D7, ↓D8, ↓D9, U0, U1, U2, U3, U4, U5, U6, U7, U8, U9, U10, ↓reduceIte, Nat.reduceAdd, Nat.reduceMul, Nat.reduceSub, Nat.reduceEqDiff, Nat.reduceBEq, Nat.reduceLeDiff, Nat.reduceLT, Int.reduceAdd, Int.reduceMul, Int.reduceSub, Int.reduceLT, Int.reduceLE, Int.reduceToNat, Int.reduceEq, Int.reduceNe, Int.reduceBEq, Int.reduceBNe, ne_eq, eq_self]
  refine callT_of (c_stheld hS.p3) ?_
  rintro v H' ⟨rfl, hS⟩
  simp only [e21, e6, e9, e17, e19, z6, ↓D0, ↓D1, ↓D2, ↓D3, ↓D4, ↓D5, ↓D6, ↓D7, ↓D8, ↓D9, U0, U1, U2, U3, U4, U5, U6, U7, U8, U9, U10, ↓reduceIte, Nat.reduceAdd, Nat.reduceMul, Nat.reduceSub, Nat.reduceEqDiff, Nat.reduceBEq, Nat.reduceLeDiff, Nat.reduceLT, Int.reduceAdd, Int.reduceMul, Int.reduceSub, Int.reduceLT, Int.reduceLE, Int.reduceToNat, Int.reduceEq, Int.reduceNe, Int.reduceBEq, Int.reduceBNe, ne_eq, eq_self]
  refine callT_of (c_bidone hS.p3) ?_
  rintro v H' ⟨rfl, hS⟩
  simp only [e21, e6, e9, e17, e19, z7, ↓D0, ↓D1, ↓D2, ↓D3, ↓D4, ↓D5, ↓D6, ↓D7, ↓D8, ↓D9, U0, U1, U2, U3, U4, U5, U6, U7, U8, U9, U10, ↓reduceIte, Nat.reduceAdd, Nat.reduceMul, Nat.reduceSub, Nat.reduceEqDiff, Nat.reduceBEq, Nat.reduceLeDiff, Nat.reduceLT, Int.reduceAdd, Int.reduceMul, Int.reduceSub, Int.reduceLT, Int.reduceLE, Int.reduceToNat, Int.reduceEq, Int.reduceNe, Int.reduceBEq, Int.reduceBNe, ne_eq, eq_self]
  refine callT_of (c_look 2 (by decide) (by rw [n4]; decide) hS.r3.r2) ?_
  rintro v H' ⟨rfl, hS⟩
  simp only [e21, e6, e9, e17, e19, c9, u_putpg, ↓D0, ↓D1, ↓D2, ↓D3, ↓D4, ↓D5, ↓D6, ↓D7, ↓D8, ↓D9, U0, U1, U2, U3, U4, U5, U6, U7, U8, U9, U10, ↓reduceIte, Nat.reduceAdd, Nat.reduceMul, Nat.reduceSub, Nat.reduceEqDiff, Nat.reduceBEq, Nat.reduceLeDiff, Nat.reduceLT, Int.reduceAdd, Int.reduceMul, Int.reduceSub, Int.reduceLT, Int.reduceLE, Int.reduceToNat, Int.reduceEq, Int.reduceNe, Int.reduceBEq, Int.reduceBNe, ne_eq, eq_self]
  exact hS.tail.tail.tail.tail.tail.tail.tail
end
theorem l_bindstrip {W : World} (a : Int) (ha : 0 ≤ a ∧ a ≤ 255) (b : Int) (hb : 0 ≤ b ∧ b ≤ 255) :
    CallP Try.prog W 27 #[.int .u8 a, .int .u8 b] (memOf W) fun v H' => v = .bool true ∧ Sub (memOf W) H' :=
  (c_bindstrip ha.1 ha.2 hb.1 hb.2 (Sep.one _)).mono fun v H' ⟨h1, h2⟩ => ⟨h1, h2.head⟩
end Go.Proofs.Ytfapipblclikbaa
