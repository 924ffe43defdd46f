/-
  StripTwo, walked: two strip one page, a third one looks for a slot there. Conditions: none.
-/
import Derived.Test.YtfapipblclikbaaStripK
import Derived.Test.YtfapipblclikbaaSlotK
import Derived.Test.YtfapipblclikbaaRowB
import Derived.Test.YtfapipblclikbaaMaStripTwo
import Derived.Test.YtfapipblclikbaaMaBd
set_option linter.unusedVariables false
set_option linter.unusedSimpArgs false
set_option maxRecDepth 8000
namespace Go.Proofs.Ytfapipblclikbaa
open Go Go.Ev Go.Pl Go.Ma

def s2W (k : Int) (i : Nat) : Int := if i = 0 then 0 else oneW k (slots k).toNat (fun _ => opn k) (i - 1)
theorem s2W_U (k : Int) (i : Nat) : U (s2W k i) := by unfold s2W; split; exact U_0; exact U_oneW _ _ (fun _ => U_opn _) _
section
variable {W : World} {H h : Hp} {l : List Hp} {n2 cap2 : Nat} {a : Option Addr} {tt : Nat → Int}

def twG (k : Int) (n2 cap2 : Nat) (a : Option Addr) (z b ka kb kc : Nat) (F' : Fr) : Prop := gt F' 1 = .slice a n2 cap2 ∧ gt F' 5 = .int .i64 k ∧ gt F' 6 = .pointer (some ⟨z, 0, none⟩) ∧ gt F' 8 = .pointer (some ⟨b, 0, none⟩) ∧ gt F' 9 = .pointer (some ⟨ka, 0, none⟩) ∧ gt F' 10 = .pointer (some ⟨kb, 0, none⟩) ∧ gt F' 11 = .pointer (some ⟨kc, 0, none⟩)
def tw1 (k : Int) (n2 cap2 : Nat) (a : Option Addr) (z b ka kb kc : Nat) (s : Nat) (L : List Hp) (F' : Fr) (H' : Hp) : Prop :=
  ∃ (i : Int) (ts : Nat → St) (u : Sc) (w : Wd), 0 ≤ i ∧ i ≤ 120 ∧ gt F' 12 = .int .i64 i ∧ twG k n2 cap2 a z b ka kb kc F' ∧ S3Inv 2 ⟨1, 3, 0⟩ k ts u w ∧ u.Bd ∧ (ts 0).left ≤ max 0 34 ∧ (ts 1).left ≤ max 0 34 ∧ u.left ≤ max 0 33 ∧ Sep (stB ka (ts 0) :: stB kb (ts 1) :: scB kc u :: wB b s w :: wR s w :: L) H'
def tw2 (k : Int) (n2 cap2 : Nat) (a : Option Addr) (z b ka kb kc : Nat) (s : Nat) (L : List Hp) (F' : Fr) (H' : Hp) : Prop :=
  ∃ (i : Int) (ts : Nat → St) (u : Sc) (w : Wd), 0 ≤ i ∧ i ≤ 60 ∧ gt F' 14 = .int .i64 i ∧ twG k n2 cap2 a z b ka kb kc F' ∧ S3Inv 2 ⟨1, 3, 0⟩ k ts u w ∧ u.Bd ∧ (ts 0).left ≤ max 0 (34 - i) ∧ (ts 1).left ≤ max 0 (34 - i) ∧ u.left ≤ max 0 (33 - i) ∧ Sep (stB ka (ts 0) :: stB kb (ts 1) :: scB kc u :: wB b s w :: wR s w :: L) H'
def tw3 (k : Int) (n2 cap2 : Nat) (a : Option Addr) (z b ka kb kc : Nat) (ok : Bool) (at' : Int) (L : List Hp) (F' : Fr) (H' : Hp) : Prop :=
  ∃ i : Int, 0 ≤ i ∧ i ≤ slots k ∧ gt F' 18 = .int .i64 i ∧ gt F' 17 = .bool ok ∧ gt F' 16 = .int .i64 at' ∧ twG k n2 cap2 a z b ka kb kc F' ∧ Sep L H'

theorem c_striptwo {g0 : Int} (hg0 : 0 ≤ g0) (hg1 : g0 ≤ 255) (hr2 : RowV h a n2 (fun i => .int .u8 (tt i))) (ht : ∀ i, i < n2 → 0 ≤ tt i ∧ tt i ≤ 255) (hS : Sep (h :: l) H) :
    CallP Try.prog W 25 #[.int .u8 g0, .slice a n2 cap2] H fun v H' => v = .bool true ∧ Sep (h :: l) H' := by
  refine CallP.of mixed Try.func25 tr25 (by show 2 ≤ _; decide) fun W _ => ?_
  simp only [↓D0, ↓D1, ↓D2, ↓D3, ↓D4, ↓D5, ↓D6, ↓D7, ↓D8, ↓D9, U0, U1, U2, U3, U4, U5, U6, U7, U8, U9, U10, ↓reduceIte, Nat.reduceAdd, Nat.reduceMul, Nat.reduceSub, Nat.reduceEqDiff, Nat.reduceBEq, Nat.reduceLeDiff, Nat.reduceLT, Int.reduceAdd, Int.reduceMul, Int.reduceSub, Int.reduceLT, Int.reduceLE, Int.reduceToNat, Int.reduceEq, Int.reduceNe, Int.reduceBEq, Int.reduceBNe, ne_eq, eq_self]
  refine callT_of (c_awake11 hS) ?_
  rintro v H' ⟨rfl, hS⟩
  have eg0 : w64 g0 = g0 := w64_eq (by omega) (by omega)
  have em0 : g0.tmod 4 = g0 % 4 := Int.tmod_eq_emod_of_nonneg hg0
  obtain ⟨k, hk⟩ : ∃ k, g0 % 4 = k := ⟨_, rfl⟩
  have k0 : 0 ≤ k := by omega
  have k3 : k ≤ 3 := by omega
  have ww0 : w64 k = k := w64_eq (by omega) (by omega)
  have sb0 := slots_bd k
  have sp := slots_pos k0 k3
  simp only [wrap_w64, eg0, em0, hk, ww0, ↓D0, ↓D1, ↓D2, ↓D3, ↓D4, ↓D5, ↓D6, ↓D7, ↓D8, ↓D9, U0, U1, U2, U3, U4, U5, U6, U7, U8, U9, U10, ↓reduceIte, Nat.reduceAdd, Nat.reduceMul, Nat.reduceSub, Nat.reduceEqDiff, Nat.reduceBEq, Nat.reduceLeDiff, Nat.reduceLT, Int.reduceAdd, Int.reduceMul, Int.reduceSub, Int.reduceLT, Int.reduceLE, Int.reduceToNat, Int.reduceEq, Int.reduceNe, Int.reduceBEq, Int.reduceBNe, ne_eq, eq_self]
  refine callT_of (c_full k hS) ?_
  rintro v H' ⟨y, rfl, hS⟩
  simp only [↓D0, ↓D1, ↓D2, ↓D3, ↓D4, ↓D5, ↓D6, ↓D7, ↓D8, ↓D9, U0, U1, U2, U3, U4, U5, U6, U7, U8, U9, U10, ↓reduceIte, Nat.reduceAdd, Nat.reduceMul, Nat.reduceSub, Nat.reduceEqDiff, Nat.reduceBEq, Nat.reduceLeDiff, Nat.reduceLT, Int.reduceAdd, Int.reduceMul, Int.reduceSub, Int.reduceLT, Int.reduceLE, Int.reduceToNat, Int.reduceEq, Int.reduceNe, Int.reduceBEq, Int.reduceBNe, ne_eq, eq_self]
  refine newB_intro fun z hz f3 f4 => ?_
  have hS := hS.new f3 (.cells #[.int .i64 0, .int .i64 0, .int .i64 0] 57 (0, 0))
  have hS := hS.set (.cells #[.int .i64 1, .int .i64 3, .int .i64 0] 57 (0, 0))
  rw [Ev.upd_upd] at hS
  simp only [Ev.upd_upd, ↓D0, ↓D1, ↓D2, ↓D3, ↓D4, ↓D5, ↓D6, ↓D7, ↓D8, ↓D9, U0, U1, U2, U3, U4, U5, U6, U7, U8, U9, U10, ↓reduceIte, Nat.reduceAdd, Nat.reduceMul, Nat.reduceSub, Nat.reduceEqDiff, Nat.reduceBEq, Nat.reduceLeDiff, Nat.reduceLT, Int.reduceAdd, Int.reduceMul, Int.reduceSub, Int.reduceLT, Int.reduceLE, Int.reduceToNat, Int.reduceEq, Int.reduceNe, Int.reduceBEq, Int.reduceBNe, ne_eq, eq_self]
  refine newB_intro fun q hq f5 f6 => ?_
  have hS := hS.new f5 (.cells #[.int .u64 0] 26 (0, 0))
  have hq1 := hS.look
  have hy1 := hS.lk 2 rfl
  have hry := rds_own hy1
  have hrq : rds (upd (upd H' z (.cells #[.int .i64 1, .int .i64 3, .int .i64 0] 57 (0, 0))) q (.cells #[.int .u64 0] 26 (0, 0))) (some ⟨q, 0, none⟩) 1 = some #[.int .u64 0] := by
    simp only [rds, ↓D0, ↓D1, ↓D2, ↓D3, ↓D4, ↓D5, ↓D6, ↓D7, ↓D8, ↓D9, U0, U1, U2, U3, U4, U5, U6, U7, U8, U9, U10, ↓reduceIte, Nat.reduceAdd, Nat.reduceMul, Nat.reduceSub, Nat.reduceEqDiff, Nat.reduceBEq, Nat.reduceLeDiff, Nat.reduceLT, Int.reduceAdd, Int.reduceMul, Int.reduceSub, Int.reduceLT, Int.reduceLE, Int.reduceToNat, Int.reduceEq, Int.reduceNe, Int.reduceBEq, Int.reduceBNe, ne_eq, eq_self]
  have n201 : (20 ≤ 1) = False := eq_false (by decide)
  have us := urow_size 19 (oneW k (slots k).toNat fun _ => opn k)
  simp only [Ev.upd_upd, hry, hrq, us, n201, ↓D0, ↓D1, ↓D2, ↓D3, ↓D4, ↓D5, ↓D6, ↓D7, ↓D8, ↓D9, U0, U1, U2, U3, U4, U5, U6, U7, U8, U9, U10, ↓reduceIte, Nat.reduceAdd, Nat.reduceMul, Nat.reduceSub, Nat.reduceEqDiff, Nat.reduceBEq, Nat.reduceLeDiff, Nat.reduceLT, Int.reduceAdd, Int.reduceMul, Int.reduceSub, Int.reduceLT, Int.reduceLE, Int.reduceToNat, Int.reduceEq, Int.reduceNe, Int.reduceBEq, Int.reduceBNe, ne_eq, eq_self]
  refine ⟨by decide, fun cap hcap => ?_⟩
  rw [Ev.upd_upd, Ev.upd_upd]
  refine newB_intro fun q2 hq2 f7 f8 => ?_
  have hS := hS.tail.new f7 (.cells (#[.int .u64 0] ++ urow 19 (oneW k (slots k).toNat fun _ => opn k) ++ Builtin.zeroCells #[.int .u64 0] (cap - 20)) 26 (0, 0))
  have hrow : RowU (sg q2 (.cells (#[.int .u64 0] ++ urow 19 (oneW k (slots k).toNat fun _ => opn k) ++ Builtin.zeroCells #[.int .u64 0] (cap - 20)) 26 (0, 0))) (some ⟨q2, 0, none⟩) 20 (s2W k) :=
    .inr ⟨q2, 0, rfl, fun i hi => by
      rw [rd_of (sg_at _ _), Nat.zero_add, Array.append_assoc]
      by_cases hi0 : i = 0
      · subst hi0
        rw [Array.getElem?_append_left (by simp)]; rfl
      · rw [Array.getElem?_append_right (by simp; omega), Array.getElem?_append_left (by simp [urow]; omega), urow_at (by simp; omega)]
        unfold s2W
        rw [if_neg hi0]; rfl⟩
  simp only [↓D0, ↓D1, ↓D2, ↓D3, ↓D4, ↓D5, ↓D6, ↓D7, ↓D8, ↓D9, U0, U1, U2, U3, U4, U5, U6, U7, U8, U9, U10, ↓reduceIte, Nat.reduceAdd, Nat.reduceMul, Nat.reduceSub, Nat.reduceEqDiff, Nat.reduceBEq, Nat.reduceLeDiff, Nat.reduceLT, Int.reduceAdd, Int.reduceMul, Int.reduceSub, Int.reduceLT, Int.reduceLE, Int.reduceToNat, Int.reduceEq, Int.reduceNe, Int.reduceBEq, Int.reduceBNe, ne_eq, eq_self]
  refine callT_of (c_fill (n := 20) (by decide) hrow hS) ?_
  rintro v H' ⟨b, s, rfl, hS⟩
  have hS := hS.p2.tail.p3.tail
  obtain ⟨w0, hw0⟩ : ∃ w0, w0 = rowW 20 (s2W k) := ⟨_, rfl⟩
  rw [← hw0] at hS
  have hm : may (⟨1, 3, 0⟩ : Sh).p (⟨1, 3, 0⟩ : Sh).c (⟨1, 3, 0⟩ : Sh).m = true := by decide
  have hof0 : w0.of ⟨1, 3, 0⟩ := by rw [hw0]; exact ⟨by show ((20 : Nat) : Int) = words 1 3 0; decide, fun i => U_row _ (s2W_U k) i⟩
  have hsl : ∀ j : Int, 0 ≤ j → j < slots k → w0.get ((3 : Int) + 1 + j) = opn k := fun j j0 j1 => by
    rw [hw0]
    show (if ((3 : Int) + 1 + j).toNat < 20 then s2W k ((3 : Int) + 1 + j).toNat else 0) = _
    rw [if_pos (by omega)]
    unfold s2W oneW
    rw [if_neg (by omega), if_pos (by omega)]
  have hpg : w0.get 3 = super k 0 := by rw [hw0]; rfl
  have hinit := S3Inv.init (n := 2) hof0 hm rfl (by show (2 : Int) + 1 ≤ 3; omega) sp hsl hpg
  have hz1 := hS.lk 2 rfl
  have rz := fun o n => rdn_of hz1 o n
  simp only [↓D0, ↓D1, ↓D2, ↓D3, ↓D4, ↓D5, ↓D6, ↓D7, ↓D8, ↓D9, U0, U1, U2, U3, U4, U5, U6, U7, U8, U9, U10, ↓reduceIte, Nat.reduceAdd, Nat.reduceMul, Nat.reduceSub, Nat.reduceEqDiff, Nat.reduceBEq, Nat.reduceLeDiff, Nat.reduceLT, Int.reduceAdd, Int.reduceMul, Int.reduceSub, Int.reduceLT, Int.reduceLE, Int.reduceToNat, Int.reduceEq, Int.reduceNe, Int.reduceBEq, Int.reduceBNe, ne_eq, eq_self]
  refine draw_intro [(z, #[.int .i64 1, .int .i64 3, .int .i64 0], [])] (by simp only [hz1, ↓D0, ↓D1, ↓D2, ↓D3, ↓D4, ↓D5, ↓D6, ↓D7, ↓D8, ↓D9, U0, U1, U2, U3, U4, U5, U6, U7, U8, U9, U10, ↓reduceIte, Nat.reduceAdd, Nat.reduceMul, Nat.reduceSub, Nat.reduceEqDiff, Nat.reduceBEq, Nat.reduceLeDiff, Nat.reduceLT, Int.reduceAdd, Int.reduceMul, Int.reduceSub, Int.reduceLT, Int.reduceLE, Int.reduceToNat, Int.reduceEq, Int.reduceNe, Int.reduceBEq, Int.reduceBNe, ne_eq, eq_self]) ?_
  simp only [hz1, rz, ↓D0, ↓D1, ↓D2, ↓D3, ↓D4, ↓D5, ↓D6, ↓D7, ↓D8, ↓D9, U0, U1, U2, U3, U4, U5, U6, U7, U8, U9, U10, ↓reduceIte, Nat.reduceAdd, Nat.reduceMul, Nat.reduceSub, Nat.reduceEqDiff, Nat.reduceBEq, Nat.reduceLeDiff, Nat.reduceLT, Int.reduceAdd, Int.reduceMul, Int.reduceSub, Int.reduceLT, Int.reduceLE, Int.reduceToNat, Int.reduceEq, Int.reduceNe, Int.reduceBEq, Int.reduceBNe, ne_eq, eq_self]
  refine callT_of (c_stnew (sh := ⟨1, 3, 0⟩) hS) ?_
  rintro v H' ⟨ka, rfl, hS⟩
  have hz1 := hS.lk 3 rfl
  simp only [hz1, ↓D0, ↓D1, ↓D2, ↓D3, ↓D4, ↓D5, ↓D6, ↓D7, ↓D8, ↓D9, U0, U1, U2, U3, U4, U5, U6, U7, U8, U9, U10, ↓reduceIte, Nat.reduceAdd, Nat.reduceMul, Nat.reduceSub, Nat.reduceEqDiff, Nat.reduceBEq, Nat.reduceLeDiff, Nat.reduceLT, Int.reduceAdd, Int.reduceMul, Int.reduceSub, Int.reduceLT, Int.reduceLE, Int.reduceToNat, Int.reduceEq, Int.reduceNe, Int.reduceBEq, Int.reduceBNe, ne_eq, eq_self]
  refine callT_of (c_stnew (sh := ⟨1, 3, 0⟩) hS) ?_
  rintro v H' ⟨kb, rfl, hS⟩
  have hz1 := hS.lk 4 rfl
  have rz := fun o n => rdn_of hz1 o n
  simp only [hz1, rz, ↓D0, ↓D1, ↓D2, ↓D3, ↓D4, ↓D5, ↓D6, ↓D7, ↓D8, ↓D9, U0, U1, U2, U3, U4, U5, U6, U7, U8, U9, U10, ↓reduceIte, Nat.reduceAdd, Nat.reduceMul, Nat.reduceSub, Nat.reduceEqDiff, Nat.reduceBEq, Nat.reduceLeDiff, Nat.reduceLT, Int.reduceAdd, Int.reduceMul, Int.reduceSub, Int.reduceLT, Int.reduceLE, Int.reduceToNat, Int.reduceEq, Int.reduceNe, Int.reduceBEq, Int.reduceBNe, ne_eq, eq_self]
  refine callT_of (c_scnew (sh := ⟨1, 3, 0⟩) hS) ?_
  rintro v H' ⟨kc, rfl, hS⟩
  simp only [↓D0, ↓D1, ↓D2, ↓D3, ↓D4, ↓D5, ↓D6, ↓D7, ↓D8, ↓D9, U0, U1, U2, U3, U4, U5, U6, U7, U8, U9, U10, ↓reduceIte, Nat.reduceAdd, Nat.reduceMul, Nat.reduceSub, Nat.reduceEqDiff, Nat.reduceBEq, Nat.reduceLeDiff, Nat.reduceLT, Int.reduceAdd, Int.reduceMul, Int.reduceSub, Int.reduceLT, Int.reduceLE, Int.reduceToNat, Int.reduceEq, Int.reduceNe, Int.reduceBEq, Int.reduceBNe, ne_eq, eq_self]
  have la := St.new_left ⟨1, 3, 0⟩ ((0 : Nat) : Int) 0 k
  have lb := St.new_left ⟨1, 3, 0⟩ ((1 : Nat) : Int) 0 k
  have lc := Sc.left_le (Sc.new_wf ⟨1, 3, 0⟩ 2 k 0) (by show (0 : Int) ≤ 1; decide)
  have lc : (Sc.new ⟨1, 3, 0⟩ 2 k 0).left ≤ 33 * 1 := lc
  refine loop_intro (tw1 k n2 cap2 a z b ka kb kc s (sg z (.cells #[.int .i64 1, .int .i64 3, .int .i64 0] 57 (0, 0)) :: h :: l)) (fun F' _ => (120 - iv (gt F' 12)).toNat)
    ⟨0, _, _, _, by omega, by omega, rfl, ⟨rfl, rfl, rfl, rfl, rfl, rfl, rfl⟩, hinit, Sc.Bd.new (by show (0 : Int) < 1; decide) (by decide) (by decide), by show (St.new ⟨1, 3, 0⟩ ((0 : Nat) : Int) 0 k).left ≤ _; omega, by show (St.new ⟨1, 3, 0⟩ ((1 : Nat) : Int) 0 k).left ≤ _; omega, by show (Sc.new ⟨1, 3, 0⟩ 2 k 0).left ≤ _; omega, hS.p1.p2⟩ ?_
  clear la lb lc
  rintro F' H' ⟨i, ts, u, w, i0, i1, e12, ⟨e1, e5, e6, e8, e9, e10, e11⟩, hI, hB, l1, l2, l3, hS⟩
  obtain ⟨tA, sA, -⟩ := hI.wf 0 (by decide)
  obtain ⟨tB, sB, -⟩ := hI.wf 1 (by decide)
  obtain ⟨tC, sC, -⟩ := hI.hu
  by_cases hlt : i < 120
  · have d1 : decide (i < 120) = true := decide_eq_true hlt
    have wi : w64 (i + 1) = i + 1 := w64_eq (by omega) (by omega)
    have l1' := St.left_step (w := w) tA l1
    have l2' := St.left_step (w := w) tB l2
    have l3' := Sc.left_step (w := w) tC l3
    have et : i.tmod 3 = i % 3 := Int.tmod_eq_emod_of_nonneg i0
    by_cases hi : i < (n2 : Int)
    · have d5 : decide (i < (n2 : Int)) = true := decide_eq_true hi
      obtain ⟨tb, to, rfl, hrd⟩ := (hr2.sub (hS.sb h (by simp))).at' (i := i.toNat) (by omega)
      have hti := ht i.toNat (by omega)
      have wq0 : w64 (i % 3) = i % 3 := w64_eq (by omega) (by omega)
      have wt0 : w64 (tt i.toNat) = tt i.toNat := w64_eq (by omega) (by omega)
      have em : (tt i.toNat).tmod 3 = tt i.toNat % 3 := Int.tmod_eq_emod_of_nonneg hti.1
      obtain ⟨q, hq⟩ : ∃ q, tt i.toNat % 3 = q := ⟨_, rfl⟩
      have wt1 : w64 q = q := w64_eq (by omega) (by omega)
      rw [hq] at em
      have wq1 := wt1
      have w1 := i0
      have w2 := hi
      have i0b := i0
      rcases (by omega : q = 0 ∨ q = 1 ∨ q = 2) with eq | eq | eq
      · simp only [e12, e1, e5, e6, e8, e9, e10, e11, d1, d5, et, wq0, em, wq1, eq, hrd, w1, w2, i0, i0b, wrap_w64, wt0, wt1, ↓D0, ↓D1, ↓D2, ↓D3, ↓D4, ↓D5, ↓D6, ↓D7, ↓D8, ↓D9, U0, U1, U2, U3, U4, U5, U6, U7, U8, U9, U10, ↓reduceIte, Nat.reduceAdd, Nat.reduceMul, Nat.reduceSub, Nat.reduceEqDiff, Nat.reduceBEq, Nat.reduceLeDiff, Nat.reduceLT, Int.reduceAdd, Int.reduceMul, Int.reduceSub, Int.reduceLT, Int.reduceLE, Int.reduceToNat, Int.reduceEq, Int.reduceNe, Int.reduceBEq, Int.reduceBNe, ne_eq, eq_self]
        refine callT_of (c_ststep tA (fun _ => by rw [sA]; exact hI.of) hS.p4.p4.p2) ?_
        rintro v H' ⟨rfl, hS⟩
        simp only [e12, e1, e5, e6, e8, e9, e10, e11, wrap_w64, wi, ↓D0, ↓D1, ↓D2, ↓D3, ↓D4, ↓D5, ↓D6, ↓D7, ↓D8, ↓D9, U0, U1, U2, U3, U4, U5, U6, U7, U8, U9, U10, ↓reduceIte, Nat.reduceAdd, Nat.reduceMul, Nat.reduceSub, Nat.reduceEqDiff, Nat.reduceBEq, Nat.reduceLeDiff, Nat.reduceLT, Int.reduceAdd, Int.reduceMul, Int.reduceSub, Int.reduceLT, Int.reduceLE, Int.reduceToNat, Int.reduceEq, Int.reduceNe, Int.reduceBEq, Int.reduceBNe, ne_eq, eq_self]
        exact ⟨⟨i + 1, _, _, _, by omega, by omega, by simp [gt], ⟨by simp [gt, e1], by simp [gt, e5], by simp [gt, e6], by simp [gt, e8], by simp [gt, e9], by simp [gt, e10], by simp [gt, e11]⟩, hI.step (c := 0) (by decide), hB, by rw [upT_same]; omega, by rw [upT_ne _ _ (by decide)]; exact l2, l3, by rw [upT_same, upT_ne _ _ (by decide)]; exact hS.p2.p2.p4.p4.p4⟩, by simp [gt, iv, e12]; omega⟩
      · simp only [e12, e1, e5, e6, e8, e9, e10, e11, d1, d5, et, wq0, em, wq1, eq, hrd, w1, w2, i0, i0b, wrap_w64, wt0, wt1, ↓D0, ↓D1, ↓D2, ↓D3, ↓D4, ↓D5, ↓D6, ↓D7, ↓D8, ↓D9, U0, U1, U2, U3, U4, U5, U6, U7, U8, U9, U10, ↓reduceIte, Nat.reduceAdd, Nat.reduceMul, Nat.reduceSub, Nat.reduceEqDiff, Nat.reduceBEq, Nat.reduceLeDiff, Nat.reduceLT, Int.reduceAdd, Int.reduceMul, Int.reduceSub, Int.reduceLT, Int.reduceLE, Int.reduceToNat, Int.reduceEq, Int.reduceNe, Int.reduceBEq, Int.reduceBNe, ne_eq, eq_self]
        refine callT_of (c_ststep tB (fun _ => by rw [sB]; exact hI.of) hS.p4.p4.p3) ?_
        rintro v H' ⟨rfl, hS⟩
        simp only [e12, e1, e5, e6, e8, e9, e10, e11, wrap_w64, wi, ↓D0, ↓D1, ↓D2, ↓D3, ↓D4, ↓D5, ↓D6, ↓D7, ↓D8, ↓D9, U0, U1, U2, U3, U4, U5, U6, U7, U8, U9, U10, ↓reduceIte, Nat.reduceAdd, Nat.reduceMul, Nat.reduceSub, Nat.reduceEqDiff, Nat.reduceBEq, Nat.reduceLeDiff, Nat.reduceLT, Int.reduceAdd, Int.reduceMul, Int.reduceSub, Int.reduceLT, Int.reduceLE, Int.reduceToNat, Int.reduceEq, Int.reduceNe, Int.reduceBEq, Int.reduceBNe, ne_eq, eq_self]
        exact ⟨⟨i + 1, _, _, _, by omega, by omega, by simp [gt], ⟨by simp [gt, e1], by simp [gt, e5], by simp [gt, e6], by simp [gt, e8], by simp [gt, e9], by simp [gt, e10], by simp [gt, e11]⟩, hI.step (c := 1) (by decide), hB, by rw [upT_ne _ _ (by decide)]; exact l1, by rw [upT_same]; omega, l3, by rw [upT_same, upT_ne _ _ (by decide)]; exact hS.p2.p2.p4.p3.p4⟩, by simp [gt, iv, e12]; omega⟩
      · simp only [e12, e1, e5, e6, e8, e9, e10, e11, d1, d5, et, wq0, em, wq1, eq, hrd, w1, w2, i0, i0b, wrap_w64, wt0, wt1, ↓D0, ↓D1, ↓D2, ↓D3, ↓D4, ↓D5, ↓D6, ↓D7, ↓D8, ↓D9, U0, U1, U2, U3, U4, U5, U6, U7, U8, U9, U10, ↓reduceIte, Nat.reduceAdd, Nat.reduceMul, Nat.reduceSub, Nat.reduceEqDiff, Nat.reduceBEq, Nat.reduceLeDiff, Nat.reduceLT, Int.reduceAdd, Int.reduceMul, Int.reduceSub, Int.reduceLT, Int.reduceLE, Int.reduceToNat, Int.reduceEq, Int.reduceNe, Int.reduceBEq, Int.reduceBNe, ne_eq, eq_self]
        refine callT_of (c_scstep tC (fun _ => by rw [sC]; exact hI.of) hS.p4.p4.p4) ?_
        rintro v H' ⟨rfl, hS⟩
        simp only [e12, e1, e5, e6, e8, e9, e10, e11, wrap_w64, wi, ↓D0, ↓D1, ↓D2, ↓D3, ↓D4, ↓D5, ↓D6, ↓D7, ↓D8, ↓D9, U0, U1, U2, U3, U4, U5, U6, U7, U8, U9, U10, ↓reduceIte, Nat.reduceAdd, Nat.reduceMul, Nat.reduceSub, Nat.reduceEqDiff, Nat.reduceBEq, Nat.reduceLeDiff, Nat.reduceLT, Int.reduceAdd, Int.reduceMul, Int.reduceSub, Int.reduceLT, Int.reduceLE, Int.reduceToNat, Int.reduceEq, Int.reduceNe, Int.reduceBEq, Int.reduceBNe, ne_eq, eq_self]
        exact ⟨⟨i + 1, _, _, _, by omega, by omega, by simp [gt], ⟨by simp [gt, e1], by simp [gt, e5], by simp [gt, e6], by simp [gt, e8], by simp [gt, e9], by simp [gt, e10], by simp [gt, e11]⟩, hI.stepU, hB.step tC, l1, l2, by omega, hS.p4.p4⟩, by simp [gt, iv, e12]; omega⟩
    · have d5 : decide (i < (n2 : Int)) = false := decide_eq_false hi
      obtain ⟨q, hq⟩ : ∃ q, i % 3 = q := ⟨_, rfl⟩
      rw [hq] at et
      have wq0 : w64 q = q := w64_eq (by omega) (by omega)
      rcases (by omega : q = 0 ∨ q = 1 ∨ q = 2) with eq | eq | eq
      · simp only [e12, e1, e5, e6, e8, e9, e10, e11, d1, d5, et, wq0, eq, wrap_w64, ↓D0, ↓D1, ↓D2, ↓D3, ↓D4, ↓D5, ↓D6, ↓D7, ↓D8, ↓D9, U0, U1, U2, U3, U4, U5, U6, U7, U8, U9, U10, ↓reduceIte, Nat.reduceAdd, Nat.reduceMul, Nat.reduceSub, Nat.reduceEqDiff, Nat.reduceBEq, Nat.reduceLeDiff, Nat.reduceLT, Int.reduceAdd, Int.reduceMul, Int.reduceSub, Int.reduceLT, Int.reduceLE, Int.reduceToNat, Int.reduceEq, Int.reduceNe, Int.reduceBEq, Int.reduceBNe, ne_eq, eq_self]
        refine callT_of (c_ststep tA (fun _ => by rw [sA]; exact hI.of) hS.p4.p4.p2) ?_
        rintro v H' ⟨rfl, hS⟩
        simp only [e12, e1, e5, e6, e8, e9, e10, e11, wrap_w64, wi, ↓D0, ↓D1, ↓D2, ↓D3, ↓D4, ↓D5, ↓D6, ↓D7, ↓D8, ↓D9, U0, U1, U2, U3, U4, U5, U6, U7, U8, U9, U10, ↓reduceIte, Nat.reduceAdd, Nat.reduceMul, Nat.reduceSub, Nat.reduceEqDiff, Nat.reduceBEq, Nat.reduceLeDiff, Nat.reduceLT, Int.reduceAdd, Int.reduceMul, Int.reduceSub, Int.reduceLT, Int.reduceLE, Int.reduceToNat, Int.reduceEq, Int.reduceNe, Int.reduceBEq, Int.reduceBNe, ne_eq, eq_self]
        exact ⟨⟨i + 1, _, _, _, by omega, by omega, by simp [gt], ⟨by simp [gt, e1], by simp [gt, e5], by simp [gt, e6], by simp [gt, e8], by simp [gt, e9], by simp [gt, e10], by simp [gt, e11]⟩, hI.step (c := 0) (by decide), hB, by rw [upT_same]; omega, by rw [upT_ne _ _ (by decide)]; exact l2, l3, by rw [upT_same, upT_ne _ _ (by decide)]; exact hS.p2.p2.p4.p4.p4⟩, by simp [gt, iv, e12]; omega⟩
      · simp only [e12, e1, e5, e6, e8, e9, e10, e11, d1, d5, et, wq0, eq, wrap_w64, ↓D0, ↓D1, ↓D2, ↓D3, ↓D4, ↓D5, ↓D6, ↓D7, ↓D8, ↓D9, U0, U1, U2, U3, U4, U5, U6, U7, U8, U9, U10, ↓reduceIte, Nat.reduceAdd, Nat.reduceMul, Nat.reduceSub, Nat.reduceEqDiff, Nat.reduceBEq, Nat.reduceLeDiff, Nat.reduceLT, Int.reduceAdd, Int.reduceMul, Int.reduceSub, Int.reduceLT, Int.reduceLE, Int.reduceToNat, Int.reduceEq, Int.reduceNe, Int.reduceBEq, Int.reduceBNe, ne_eq, eq_self]
        refine callT_of (c_ststep tB (fun _ => by rw [sB]; exact hI.of) hS.p4.p4.p3) ?_
        rintro v H' ⟨rfl, hS⟩
        simp only [e12, e1, e5, e6, e8, e9, e10, e11, wrap_w64, wi, ↓D0, ↓D1, ↓D2, ↓D3, ↓D4, ↓D5, ↓D6, ↓D7, ↓D8, ↓D9, U0, U1, U2, U3, U4, U5, U6, U7, U8, U9, U10, ↓reduceIte, Nat.reduceAdd, Nat.reduceMul, Nat.reduceSub, Nat.reduceEqDiff, Nat.reduceBEq, Nat.reduceLeDiff, Nat.reduceLT, Int.reduceAdd, Int.reduceMul, Int.reduceSub, Int.reduceLT, Int.reduceLE, Int.reduceToNat, Int.reduceEq, Int.reduceNe, Int.reduceBEq, Int.reduceBNe, ne_eq, eq_self]
        exact ⟨⟨i + 1, _, _, _, by omega, by omega, by simp [gt], ⟨by simp [gt, e1], by simp [gt, e5], by simp [gt, e6], by simp [gt, e8], by simp [gt, e9], by simp [gt, e10], by simp [gt, e11]⟩, hI.step (c := 1) (by decide), hB, by rw [upT_ne _ _ (by decide)]; exact l1, by rw [upT_same]; omega, l3, by rw [upT_same, upT_ne _ _ (by decide)]; exact hS.p2.p2.p4.p3.p4⟩, by simp [gt, iv, e12]; omega⟩
      · simp only [e12, e1, e5, e6, e8, e9, e10, e11, d1, d5, et, wq0, eq, wrap_w64, ↓D0, ↓D1, ↓D2, ↓D3, ↓D4, ↓D5, ↓D6, ↓D7, ↓D8, ↓D9, U0, U1, U2, U3, U4, U5, U6, U7, U8, U9, U10, ↓reduceIte, Nat.reduceAdd, Nat.reduceMul, Nat.reduceSub, Nat.reduceEqDiff, Nat.reduceBEq, Nat.reduceLeDiff, Nat.reduceLT, Int.reduceAdd, Int.reduceMul, Int.reduceSub, Int.reduceLT, Int.reduceLE, Int.reduceToNat, Int.reduceEq, Int.reduceNe, Int.reduceBEq, Int.reduceBNe, ne_eq, eq_self]
        refine callT_of (c_scstep tC (fun _ => by rw [sC]; exact hI.of) hS.p4.p4.p4) ?_
        rintro v H' ⟨rfl, hS⟩
        simp only [e12, e1, e5, e6, e8, e9, e10, e11, wrap_w64, wi, ↓D0, ↓D1, ↓D2, ↓D3, ↓D4, ↓D5, ↓D6, ↓D7, ↓D8, ↓D9, U0, U1, U2, U3, U4, U5, U6, U7, U8, U9, U10, ↓reduceIte, Nat.reduceAdd, Nat.reduceMul, Nat.reduceSub, Nat.reduceEqDiff, Nat.reduceBEq, Nat.reduceLeDiff, Nat.reduceLT, Int.reduceAdd, Int.reduceMul, Int.reduceSub, Int.reduceLT, Int.reduceLE, Int.reduceToNat, Int.reduceEq, Int.reduceNe, Int.reduceBEq, Int.reduceBNe, ne_eq, eq_self]
        exact ⟨⟨i + 1, _, _, _, by omega, by omega, by simp [gt], ⟨by simp [gt, e1], by simp [gt, e5], by simp [gt, e6], by simp [gt, e8], by simp [gt, e9], by simp [gt, e10], by simp [gt, e11]⟩, hI.stepU, hB.step tC, l1, l2, by omega, hS.p4.p4⟩, by simp [gt, iv, e12]; omega⟩
  have d1 : decide (i < 120) = false := decide_eq_false hlt
  simp only [e12, e1, e5, e6, e8, e9, e10, e11, d1, ↓D0, ↓D1, ↓D2, ↓D3, ↓D4, ↓D5, ↓D6, ↓D7, ↓D8, ↓D9, U0, U1, U2, U3, U4, U5, U6, U7, U8, U9, U10, ↓reduceIte, Nat.reduceAdd, Nat.reduceMul, Nat.reduceSub, Nat.reduceEqDiff, Nat.reduceBEq, Nat.reduceLeDiff, Nat.reduceLT, Int.reduceAdd, Int.reduceMul, Int.reduceSub, Int.reduceLT, Int.reduceLE, Int.reduceToNat, Int.reduceEq, Int.reduceNe, Int.reduceBEq, Int.reduceBNe, ne_eq, eq_self]
  refine loop_intro (tw2 k n2 cap2 a z b ka kb kc s (sg z (.cells #[.int .i64 1, .int .i64 3, .int .i64 0] 57 (0, 0)) :: h :: l)) (fun F' _ => (60 - iv (gt F' 14)).toNat)
    ⟨0, ts, u, w, by omega, by omega, by simp [gt], ⟨by simp [gt, e1], by simp [gt, e5], by simp [gt, e6], by simp [gt, e8], by simp [gt, e9], by simp [gt, e10], by simp [gt, e11]⟩, hI, hB, by omega, by omega, by omega, hS⟩ ?_
  clear hI hB l1 l2 l3 tA sA tB sB tC sC
  rintro F' H' ⟨i, ts, u, w, i0, i1, e14, ⟨e1, e5, e6, e8, e9, e10, e11⟩, hI, hB, l1, l2, l3, hS⟩
  obtain ⟨tA, sA, -⟩ := hI.wf 0 (by decide)
  obtain ⟨tB, sB, -⟩ := hI.wf 1 (by decide)
  obtain ⟨tC, sC, -⟩ := hI.hu
  by_cases hlt : i < 60
  · have d1 : decide (i < 60) = true := decide_eq_true hlt
    have wi : w64 (i + 1) = i + 1 := w64_eq (by omega) (by omega)
    have hI1 := hI.step (c := 0) (by decide)
    have of1 := hI1.of
    have hI2 := hI1.step (c := 1) (by decide)
    rw [upT_ne _ _ (by decide)] at hI2
    have of2 := hI2.of
    have hI3 := hI2.stepU
    have l1' := St.left_step (w := w) tA l1
    have l2' := St.left_step (w := ((ts 0).step w).2) tB l2
    have l3' := Sc.left_step (w := ((ts 1).step ((ts 0).step w).2).2) tC l3
    simp only [e14, e1, e5, e6, e8, e9, e10, e11, d1, ↓D0, ↓D1, ↓D2, ↓D3, ↓D4, ↓D5, ↓D6, ↓D7, ↓D8, ↓D9, U0, U1, U2, U3, U4, U5, U6, U7, U8, U9, U10, ↓reduceIte, Nat.reduceAdd, Nat.reduceMul, Nat.reduceSub, Nat.reduceEqDiff, Nat.reduceBEq, Nat.reduceLeDiff, Nat.reduceLT, Int.reduceAdd, Int.reduceMul, Int.reduceSub, Int.reduceLT, Int.reduceLE, Int.reduceToNat, Int.reduceEq, Int.reduceNe, Int.reduceBEq, Int.reduceBNe, ne_eq, eq_self]
    refine callT_of (c_ststep tA (fun _ => by rw [sA]; exact hI.of) hS.p4.p4.p2) ?_
    rintro v H' ⟨rfl, hS⟩
    simp only [e14, e1, e5, e6, e8, e9, e10, e11, ↓D0, ↓D1, ↓D2, ↓D3, ↓D4, ↓D5, ↓D6, ↓D7, ↓D8, ↓D9, U0, U1, U2, U3, U4, U5, U6, U7, U8, U9, U10, ↓reduceIte, Nat.reduceAdd, Nat.reduceMul, Nat.reduceSub, Nat.reduceEqDiff, Nat.reduceBEq, Nat.reduceLeDiff, Nat.reduceLT, Int.reduceAdd, Int.reduceMul, Int.reduceSub, Int.reduceLT, Int.reduceLE, Int.reduceToNat, Int.reduceEq, Int.reduceNe, Int.reduceBEq, Int.reduceBNe, ne_eq, eq_self]
    refine callT_of (c_ststep tB (fun _ => by rw [sB]; exact of1) hS.p2.p2.p3) ?_
    rintro v H' ⟨rfl, hS⟩
    simp only [e14, e1, e5, e6, e8, e9, e10, e11, ↓D0, ↓D1, ↓D2, ↓D3, ↓D4, ↓D5, ↓D6, ↓D7, ↓D8, ↓D9, U0, U1, U2, U3, U4, U5, U6, U7, U8, U9, U10, ↓reduceIte, Nat.reduceAdd, Nat.reduceMul, Nat.reduceSub, Nat.reduceEqDiff, Nat.reduceBEq, Nat.reduceLeDiff, Nat.reduceLT, Int.reduceAdd, Int.reduceMul, Int.reduceSub, Int.reduceLT, Int.reduceLE, Int.reduceToNat, Int.reduceEq, Int.reduceNe, Int.reduceBEq, Int.reduceBNe, ne_eq, eq_self]
    refine callT_of (c_scstep tC (fun _ => by rw [sC]; exact of2) hS.p2.p2.p4) ?_
    rintro v H' ⟨rfl, hS⟩
    simp only [e14, e1, e5, e6, e8, e9, e10, e11, wrap_w64, wi, ↓D0, ↓D1, ↓D2, ↓D3, ↓D4, ↓D5, ↓D6, ↓D7, ↓D8, ↓D9, U0, U1, U2, U3, U4, U5, U6, U7, U8, U9, U10, ↓reduceIte, Nat.reduceAdd, Nat.reduceMul, Nat.reduceSub, Nat.reduceEqDiff, Nat.reduceBEq, Nat.reduceLeDiff, Nat.reduceLT, Int.reduceAdd, Int.reduceMul, Int.reduceSub, Int.reduceLT, Int.reduceLE, Int.reduceToNat, Int.reduceEq, Int.reduceNe, Int.reduceBEq, Int.reduceBNe, ne_eq, eq_self]
    exact ⟨⟨i + 1, _, _, _, by omega, by omega, by simp [gt], ⟨by simp [gt, e1], by simp [gt, e5], by simp [gt, e6], by simp [gt, e8], by simp [gt, e9], by simp [gt, e10], by simp [gt, e11]⟩, hI3, hB.step tC, by rw [upT_ne _ _ (by decide), upT_same]; omega, by rw [upT_same]; omega, by omega, by rw [upT_ne _ _ (by decide), upT_same, upT_same]; exact hS.p3.p4⟩, by simp [gt, iv, e14]; omega⟩
  have d1 : decide (i < 60) = false := decide_eq_false hlt
  have dA : (ts 0).dn = true := St.left_dn tA (by have := St.left_nn tA; omega)
  have dB : (ts 1).dn = true := St.left_dn tB (by have := St.left_nn tB; omega)
  have dC : u.dn = true := Sc.left_dn tC (by have := Sc.left_nn tC; omega)
  have hall : ∀ c, c < 2 → (ts c).dn = true := fun c hc => by
    rcases (by omega : c = 0 ∨ c = 1) with rfl | rfl
    · exact dA
    · exact dB
  have hwn : (w.n : Int) = 20 := by rw [hI.of.n]; decide
  simp only [e14, e1, e5, e6, e8, e9, e10, e11, d1, ↓D0, ↓D1, ↓D2, ↓D3, ↓D4, ↓D5, ↓D6, ↓D7, ↓D8, ↓D9, U0, U1, U2, U3, U4, U5, U6, U7, U8, U9, U10, ↓reduceIte, Nat.reduceAdd, Nat.reduceMul, Nat.reduceSub, Nat.reduceEqDiff, Nat.reduceBEq, Nat.reduceLeDiff, Nat.reduceLT, Int.reduceAdd, Int.reduceMul, Int.reduceSub, Int.reduceLT, Int.reduceLE, Int.reduceToNat, Int.reduceEq, Int.reduceNe, Int.reduceBEq, Int.reduceBNe, ne_eq, eq_self]
  refine callT_of (c_scfound (fun _ => hB.fd) hS.p2) ?_
  rintro v H' ⟨rfl, hS⟩
  simp only [e14, e1, e5, e6, e8, e9, e10, e11, ↓D0, ↓D1, ↓D2, ↓D3, ↓D4, ↓D5, ↓D6, ↓D7, ↓D8, ↓D9, U0, U1, U2, U3, U4, U5, U6, U7, U8, U9, U10, ↓reduceIte, Nat.reduceAdd, Nat.reduceMul, Nat.reduceSub, Nat.reduceEqDiff, Nat.reduceBEq, Nat.reduceLeDiff, Nat.reduceLT, Int.reduceAdd, Int.reduceMul, Int.reduceSub, Int.reduceLT, Int.reduceLE, Int.reduceToNat, Int.reduceEq, Int.reduceNe, Int.reduceBEq, Int.reduceBNe, ne_eq, eq_self]
  refine callT_of (c_stdone hS.p1) ?_
  rintro v H' ⟨rfl, hS⟩
  simp only [e14, e1, e5, e6, e8, e9, e10, e11, dA, ↓D0, ↓D1, ↓D2, ↓D3, ↓D4, ↓D5, ↓D6, ↓D7, ↓D8, ↓D9, U0, U1, U2, U3, U4, U5, U6, U7, U8, U9, U10, ↓reduceIte, Nat.reduceAdd, Nat.reduceMul, Nat.reduceSub, Nat.reduceEqDiff, Nat.reduceBEq, Nat.reduceLeDiff, Nat.reduceLT, Int.reduceAdd, Int.reduceMul, Int.reduceSub, Int.reduceLT, Int.reduceLE, Int.reduceToNat, Int.reduceEq, Int.reduceNe, Int.reduceBEq, Int.reduceBNe, ne_eq, eq_self]
  refine callT_of (c_stdone hS.p2) ?_
  rintro v H' ⟨rfl, hS⟩
  simp only [e14, e1, e5, e6, e8, e9, e10, e11, dB, ↓D0, ↓D1, ↓D2, ↓D3, ↓D4, ↓D5, ↓D6, ↓D7, ↓D8, ↓D9, U0, U1, U2, U3, U4, U5, U6, U7, U8, U9, U10, ↓reduceIte, Nat.reduceAdd, Nat.reduceMul, Nat.reduceSub, Nat.reduceEqDiff, Nat.reduceBEq, Nat.reduceLeDiff, Nat.reduceLT, Int.reduceAdd, Int.reduceMul, Int.reduceSub, Int.reduceLT, Int.reduceLE, Int.reduceToNat, Int.reduceEq, Int.reduceNe, Int.reduceBEq, Int.reduceBNe, ne_eq, eq_self]
  refine callT_of (c_scdone hS.p2) ?_
  rintro v H' ⟨rfl, hS⟩
  simp only [e14, e1, e5, e6, e8, e9, e10, e11, dC, ↓D0, ↓D1, ↓D2, ↓D3, ↓D4, ↓D5, ↓D6, ↓D7, ↓D8, ↓D9, U0, U1, U2, U3, U4, U5, U6, U7, U8, U9, U10, ↓reduceIte, Nat.reduceAdd, Nat.reduceMul, Nat.reduceSub, Nat.reduceEqDiff, Nat.reduceBEq, Nat.reduceLeDiff, Nat.reduceLT, Int.reduceAdd, Int.reduceMul, Int.reduceSub, Int.reduceLT, Int.reduceLE, Int.reduceToNat, Int.reduceEq, Int.reduceNe, Int.reduceBEq, Int.reduceBNe, ne_eq, eq_self]
  refine callT_of (c_stheld hS.p2) ?_
  rintro v H' ⟨rfl, hS⟩
  cases hA : (ts 0).hd
  · cases hf : u.fd
    · simp only [e14, e1, e5, e6, e8, e9, e10, e11, hA, hf, ↓D0, ↓D1, ↓D2, ↓D3, ↓D4, ↓D5, ↓D6, ↓D7, ↓D8, ↓D9, U0, U1, U2, U3, U4, U5, U6, U7, U8, U9, U10, ↓reduceIte, Nat.reduceAdd, Nat.reduceMul, Nat.reduceSub, Nat.reduceEqDiff, Nat.reduceBEq, Nat.reduceLeDiff, Nat.reduceLT, Int.reduceAdd, Int.reduceMul, Int.reduceSub, Int.reduceLT, Int.reduceLE, Int.reduceToNat, Int.reduceEq, Int.reduceNe, Int.reduceBEq, Int.reduceBNe, ne_eq, eq_self]
      refine callT_of (c_stheld hS) ?_
      rintro v H' ⟨rfl, hS⟩
      simp only [e14, e1, e5, e6, e8, e9, e10, e11, hA, hf, ↓D0, ↓D1, ↓D2, ↓D3, ↓D4, ↓D5, ↓D6, ↓D7, ↓D8, ↓D9, U0, U1, U2, U3, U4, U5, U6, U7, U8, U9, U10, ↓reduceIte, Nat.reduceAdd, Nat.reduceMul, Nat.reduceSub, Nat.reduceEqDiff, Nat.reduceBEq, Nat.reduceLeDiff, Nat.reduceLT, Int.reduceAdd, Int.reduceMul, Int.reduceSub, Int.reduceLT, Int.reduceLE, Int.reduceToNat, Int.reduceEq, Int.reduceNe, Int.reduceBEq, Int.reduceBNe, ne_eq, eq_self]
      refine callT_of (c_stheld hS.p2) ?_
      rintro v H' ⟨rfl, hS⟩
      cases hBh : (ts 1).hd
      · have hno : ∀ c, c < 2 → (ts c).hd = false := fun c hc => by
          rcases (by omega : c = 0 ∨ c = 1) with rfl | rfl
          · exact hA
          · exact hBh
        have hends : ∀ j, 0 ≤ j → j < slots k → w.get (4 + j) = if u.fd = true ∧ u.i = j then way 2 else opn k := fun j j0 j1 => by
          rw [show 4 + j = (3 : Int) + 1 + j by omega]; exact hI.ends hall hno j0 j1
        have hpg3 : (w.get 3 == putPg 2 k 0) = true := beq_iff_eq.2 (hI.pg hno)
        simp only [e14, e1, e5, e6, e8, e9, e10, e11, hA, hf, hBh, ↓D0, ↓D1, ↓D2, ↓D3, ↓D4, ↓D5, ↓D6, ↓D7, ↓D8, ↓D9, U0, U1, U2, U3, U4, U5, U6, U7, U8, U9, U10, ↓reduceIte, Nat.reduceAdd, Nat.reduceMul, Nat.reduceSub, Nat.reduceEqDiff, Nat.reduceBEq, Nat.reduceLeDiff, Nat.reduceLT, Int.reduceAdd, Int.reduceMul, Int.reduceSub, Int.reduceLT, Int.reduceLE, Int.reduceToNat, Int.reduceEq, Int.reduceNe, Int.reduceBEq, Int.reduceBNe, ne_eq, eq_self]
        have hS := hS.tail.tail.tail
        refine loop_intro (tw3 k n2 cap2 a z b ka kb kc false (0) (wB b s w :: wR s w :: sg z (.cells #[.int .i64 1, .int .i64 3, .int .i64 0] 57 (0, 0)) :: h :: l)) (fun F' _ => (16 - iv (gt F' 18)).toNat)
          ⟨0, by omega, by omega, by simp [gt], by simp [gt], by simp [gt], ⟨by simp [gt, e1], by simp [gt, e5], by simp [gt, e6], by simp [gt, e8], by simp [gt, e9], by simp [gt, e10], by simp [gt, e11]⟩, hS⟩ ?_
        rintro F' H' ⟨j, j0, j1, e18, e17, e16, ⟨e1, e5, e6, e8, e9, e10, e11⟩, hS⟩
        by_cases hjl : j < slots k
        · have d1 : decide (j < slots k) = true := decide_eq_true hjl
          have wj : w64 (j + 1) = j + 1 := w64_eq (by omega) (by omega)
          have w4 : w64 (4 + j) = 4 + j := w64_eq (by omega) (by omega)
          have hx := hends j j0 hjl
          simp only [e18, e17, e16, e1, e5, e6, e8, e9, e10, e11, d1, u_slots, wrap_w64, w4, ↓D0, ↓D1, ↓D2, ↓D3, ↓D4, ↓D5, ↓D6, ↓D7, ↓D8, ↓D9, U0, U1, U2, U3, U4, U5, U6, U7, U8, U9, U10, ↓reduceIte, Nat.reduceAdd, Nat.reduceMul, Nat.reduceSub, Nat.reduceEqDiff, Nat.reduceBEq, Nat.reduceLeDiff, Nat.reduceLT, Int.reduceAdd, Int.reduceMul, Int.reduceSub, Int.reduceLT, Int.reduceLE, Int.reduceToNat, Int.reduceEq, Int.reduceNe, Int.reduceBEq, Int.reduceBNe, ne_eq, eq_self]
          refine callT_of (c_look (4 + j) (by omega) (by omega) hS) ?_
          rintro v H' ⟨rfl, hS⟩
          rw [if_neg (fun h => by rw [hf] at h; cases h.1)] at hx
          have c2 : (w.get (4 + j) != opn k) = false := by rw [hx]; simp
          simp only [e18, e17, e16, e1, e5, e6, e8, e9, e10, e11, ↓D0, ↓D1, ↓D2, ↓D3, ↓D4, ↓D5, ↓D6, ↓D7, ↓D8, ↓D9, U0, U1, U2, U3, U4, U5, U6, U7, U8, U9, U10, ↓reduceIte, Nat.reduceAdd, Nat.reduceMul, Nat.reduceSub, Nat.reduceEqDiff, Nat.reduceBEq, Nat.reduceLeDiff, Nat.reduceLT, Int.reduceAdd, Int.reduceMul, Int.reduceSub, Int.reduceLT, Int.reduceLE, Int.reduceToNat, Int.reduceEq, Int.reduceNe, Int.reduceBEq, Int.reduceBNe, ne_eq, eq_self]
          refine callT_of (c_open k hS) ?_
          rintro v H' ⟨rfl, hS⟩
          simp only [e18, e17, e16, e1, e5, e6, e8, e9, e10, e11, c2, wrap_w64, wj, ↓D0, ↓D1, ↓D2, ↓D3, ↓D4, ↓D5, ↓D6, ↓D7, ↓D8, ↓D9, U0, U1, U2, U3, U4, U5, U6, U7, U8, U9, U10, ↓reduceIte, Nat.reduceAdd, Nat.reduceMul, Nat.reduceSub, Nat.reduceEqDiff, Nat.reduceBEq, Nat.reduceLeDiff, Nat.reduceLT, Int.reduceAdd, Int.reduceMul, Int.reduceSub, Int.reduceLT, Int.reduceLE, Int.reduceToNat, Int.reduceEq, Int.reduceNe, Int.reduceBEq, Int.reduceBNe, ne_eq, eq_self]
          exact ⟨⟨j + 1, by omega, by omega, by simp [gt], by simp [gt, e17], by simp [gt, e16], ⟨by simp [gt, e1], by simp [gt, e5], by simp [gt, e6], by simp [gt, e8], by simp [gt, e9], by simp [gt, e10], by simp [gt, e11]⟩, hS⟩, by simp [gt, iv, e18]; omega⟩
        have d1 : decide (j < slots k) = false := decide_eq_false hjl
        simp only [e18, e17, e16, e1, e5, e6, e8, e9, e10, e11, d1, u_slots, ↓D0, ↓D1, ↓D2, ↓D3, ↓D4, ↓D5, ↓D6, ↓D7, ↓D8, ↓D9, U0, U1, U2, U3, U4, U5, U6, U7, U8, U9, U10, ↓reduceIte, Nat.reduceAdd, Nat.reduceMul, Nat.reduceSub, Nat.reduceEqDiff, Nat.reduceBEq, Nat.reduceLeDiff, Nat.reduceLT, Int.reduceAdd, Int.reduceMul, Int.reduceSub, Int.reduceLT, Int.reduceLE, Int.reduceToNat, Int.reduceEq, Int.reduceNe, Int.reduceBEq, Int.reduceBNe, ne_eq, eq_self]
        refine callT_of (c_look 3 (by decide) (by omega) hS) ?_
        rintro v H' ⟨rfl, hS⟩
        simp only [e18, e17, e16, e1, e5, e6, e8, e9, e10, e11, hpg3, u_putpg, ↓D0, ↓D1, ↓D2, ↓D3, ↓D4, ↓D5, ↓D6, ↓D7, ↓D8, ↓D9, U0, U1, U2, U3, U4, U5, U6, U7, U8, U9, U10, ↓reduceIte, Nat.reduceAdd, Nat.reduceMul, Nat.reduceSub, Nat.reduceEqDiff, Nat.reduceBEq, Nat.reduceLeDiff, Nat.reduceLT, Int.reduceAdd, Int.reduceMul, Int.reduceSub, Int.reduceLT, Int.reduceLE, Int.reduceToNat, Int.reduceEq, Int.reduceNe, Int.reduceBEq, Int.reduceBNe, ne_eq, eq_self]
        exact hS.tail.tail.tail
      · simp only [e14, e1, e5, e6, e8, e9, e10, e11, hA, hf, hBh, ↓D0, ↓D1, ↓D2, ↓D3, ↓D4, ↓D5, ↓D6, ↓D7, ↓D8, ↓D9, U0, U1, U2, U3, U4, U5, U6, U7, U8, U9, U10, ↓reduceIte, Nat.reduceAdd, Nat.reduceMul, Nat.reduceSub, Nat.reduceEqDiff, Nat.reduceBEq, Nat.reduceLeDiff, Nat.reduceLT, Int.reduceAdd, Int.reduceMul, Int.reduceSub, Int.reduceLT, Int.reduceLE, Int.reduceToNat, Int.reduceEq, Int.reduceNe, Int.reduceBEq, Int.reduceBNe, ne_eq, eq_self]
        exact hS.tail.tail.tail.tail.tail.tail
    · have hBh : (ts 1).hd = false := by
        cases hb : (ts 1).hd
        · rfl
        · exact (hI.apart (c := 1) (by decide) hb hf).elim
      have hno : ∀ c, c < 2 → (ts c).hd = false := fun c hc => by
        rcases (by omega : c = 0 ∨ c = 1) with rfl | rfl
        · exact hA
        · exact hBh
      have hends : ∀ j, 0 ≤ j → j < slots k → w.get (4 + j) = if u.fd = true ∧ u.i = j then way 2 else opn k := fun j j0 j1 => by
        rw [show 4 + j = (3 : Int) + 1 + j by omega]; exact hI.ends hall hno j0 j1
      have hpg3 : (w.get 3 == putPg 2 k 0) = true := beq_iff_eq.2 (hI.pg hno)
      simp only [e14, e1, e5, e6, e8, e9, e10, e11, hA, hf, ↓D0, ↓D1, ↓D2, ↓D3, ↓D4, ↓D5, ↓D6, ↓D7, ↓D8, ↓D9, U0, U1, U2, U3, U4, U5, U6, U7, U8, U9, U10, ↓reduceIte, Nat.reduceAdd, Nat.reduceMul, Nat.reduceSub, Nat.reduceEqDiff, Nat.reduceBEq, Nat.reduceLeDiff, Nat.reduceLT, Int.reduceAdd, Int.reduceMul, Int.reduceSub, Int.reduceLT, Int.reduceLE, Int.reduceToNat, Int.reduceEq, Int.reduceNe, Int.reduceBEq, Int.reduceBNe, ne_eq, eq_self]
      refine callT_of (c_stheld hS) ?_
      rintro v H' ⟨rfl, hS⟩
      simp only [e14, e1, e5, e6, e8, e9, e10, e11, hA, hf, ↓D0, ↓D1, ↓D2, ↓D3, ↓D4, ↓D5, ↓D6, ↓D7, ↓D8, ↓D9, U0, U1, U2, U3, U4, U5, U6, U7, U8, U9, U10, ↓reduceIte, Nat.reduceAdd, Nat.reduceMul, Nat.reduceSub, Nat.reduceEqDiff, Nat.reduceBEq, Nat.reduceLeDiff, Nat.reduceLT, Int.reduceAdd, Int.reduceMul, Int.reduceSub, Int.reduceLT, Int.reduceLE, Int.reduceToNat, Int.reduceEq, Int.reduceNe, Int.reduceBEq, Int.reduceBNe, ne_eq, eq_self]
      refine callT_of (c_stheld hS.p2) ?_
      rintro v H' ⟨rfl, hS⟩
      simp only [e14, e1, e5, e6, e8, e9, e10, e11, hA, hf, hBh, ↓D0, ↓D1, ↓D2, ↓D3, ↓D4, ↓D5, ↓D6, ↓D7, ↓D8, ↓D9, U0, U1, U2, U3, U4, U5, U6, U7, U8, U9, U10, ↓reduceIte, Nat.reduceAdd, Nat.reduceMul, Nat.reduceSub, Nat.reduceEqDiff, Nat.reduceBEq, Nat.reduceLeDiff, Nat.reduceLT, Int.reduceAdd, Int.reduceMul, Int.reduceSub, Int.reduceLT, Int.reduceLE, Int.reduceToNat, Int.reduceEq, Int.reduceNe, Int.reduceBEq, Int.reduceBNe, ne_eq, eq_self]
      refine callT_of (c_stheld hS.p1) ?_
      rintro v H' ⟨rfl, hS⟩
      simp only [e14, e1, e5, e6, e8, e9, e10, e11, hA, hf, hBh, ↓D0, ↓D1, ↓D2, ↓D3, ↓D4, ↓D5, ↓D6, ↓D7, ↓D8, ↓D9, U0, U1, U2, U3, U4, U5, U6, U7, U8, U9, U10, ↓reduceIte, Nat.reduceAdd, Nat.reduceMul, Nat.reduceSub, Nat.reduceEqDiff, Nat.reduceBEq, Nat.reduceLeDiff, Nat.reduceLT, Int.reduceAdd, Int.reduceMul, Int.reduceSub, Int.reduceLT, Int.reduceLE, Int.reduceToNat, Int.reduceEq, Int.reduceNe, Int.reduceBEq, Int.reduceBNe, ne_eq, eq_self]
      refine callT_of (c_stheld hS.p1) ?_
      rintro v H' ⟨rfl, hS⟩
      simp only [e14, e1, e5, e6, e8, e9, e10, e11, hA, hf, hBh, ↓D0, ↓D1, ↓D2, ↓D3, ↓D4, ↓D5, ↓D6, ↓D7, ↓D8, ↓D9, U0, U1, U2, U3, U4, U5, U6, U7, U8, U9, U10, ↓reduceIte, Nat.reduceAdd, Nat.reduceMul, Nat.reduceSub, Nat.reduceEqDiff, Nat.reduceBEq, Nat.reduceLeDiff, Nat.reduceLT, Int.reduceAdd, Int.reduceMul, Int.reduceSub, Int.reduceLT, Int.reduceLE, Int.reduceToNat, Int.reduceEq, Int.reduceNe, Int.reduceBEq, Int.reduceBNe, ne_eq, eq_self]
      have hS := hS.tail.tail.tail
      refine loop_intro (tw3 k n2 cap2 a z b ka kb kc true (u.i) (wB b s w :: wR s w :: sg z (.cells #[.int .i64 1, .int .i64 3, .int .i64 0] 57 (0, 0)) :: h :: l)) (fun F' _ => (16 - iv (gt F' 18)).toNat)
        ⟨0, by omega, by omega, by simp [gt], by simp [gt], by simp [gt], ⟨by simp [gt, e1], by simp [gt, e5], by simp [gt, e6], by simp [gt, e8], by simp [gt, e9], by simp [gt, e10], by simp [gt, e11]⟩, hS⟩ ?_
      rintro F' H' ⟨j, j0, j1, e18, e17, e16, ⟨e1, e5, e6, e8, e9, e10, e11⟩, hS⟩
      by_cases hjl : j < slots k
      · have d1 : decide (j < slots k) = true := decide_eq_true hjl
        have wj : w64 (j + 1) = j + 1 := w64_eq (by omega) (by omega)
        have w4 : w64 (4 + j) = 4 + j := w64_eq (by omega) (by omega)
        have hx := hends j j0 hjl
        simp only [e18, e17, e16, e1, e5, e6, e8, e9, e10, e11, d1, u_slots, wrap_w64, w4, ↓D0, ↓D1, ↓D2, ↓D3, ↓D4, ↓D5, ↓D6, ↓D7, ↓D8, ↓D9, U0, U1, U2, U3, U4, U5, U6, U7, U8, U9, U10, ↓reduceIte, Nat.reduceAdd, Nat.reduceMul, Nat.reduceSub, Nat.reduceEqDiff, Nat.reduceBEq, Nat.reduceLeDiff, Nat.reduceLT, Int.reduceAdd, Int.reduceMul, Int.reduceSub, Int.reduceLT, Int.reduceLE, Int.reduceToNat, Int.reduceEq, Int.reduceNe, Int.reduceBEq, Int.reduceBNe, ne_eq, eq_self]
        refine callT_of (c_look (4 + j) (by omega) (by omega) hS) ?_
        rintro v H' ⟨rfl, hS⟩
        by_cases hj : u.i = j
        · rw [if_pos ⟨hf, hj⟩] at hx
          have c1 : (j == u.i) = true := beq_iff_eq.2 hj.symm
          have c2 : (w.get (4 + j) != putSl 2 2) = false := by rw [hx]; simp [way]
          simp only [e18, e17, e16, e1, e5, e6, e8, e9, e10, e11, u_putsl, c1, c2, wrap_w64, wj, ↓D0, ↓D1, ↓D2, ↓D3, ↓D4, ↓D5, ↓D6, ↓D7, ↓D8, ↓D9, U0, U1, U2, U3, U4, U5, U6, U7, U8, U9, U10, ↓reduceIte, Nat.reduceAdd, Nat.reduceMul, Nat.reduceSub, Nat.reduceEqDiff, Nat.reduceBEq, Nat.reduceLeDiff, Nat.reduceLT, Int.reduceAdd, Int.reduceMul, Int.reduceSub, Int.reduceLT, Int.reduceLE, Int.reduceToNat, Int.reduceEq, Int.reduceNe, Int.reduceBEq, Int.reduceBNe, ne_eq, eq_self]
          exact ⟨⟨j + 1, by omega, by omega, by simp [gt], by simp [gt, e17], by simp [gt, e16], ⟨by simp [gt, e1], by simp [gt, e5], by simp [gt, e6], by simp [gt, e8], by simp [gt, e9], by simp [gt, e10], by simp [gt, e11]⟩, hS⟩, by simp [gt, iv, e18]; omega⟩
        · rw [if_neg (fun h => hj h.2)] at hx
          have c1 : (j == u.i) = false := beq_eq_false_iff_ne.2 fun h => hj h.symm
          have c2 : (w.get (4 + j) != opn k) = false := by rw [hx]; simp
          simp only [e18, e17, e16, e1, e5, e6, e8, e9, e10, e11, u_putsl, c1, ↓D0, ↓D1, ↓D2, ↓D3, ↓D4, ↓D5, ↓D6, ↓D7, ↓D8, ↓D9, U0, U1, U2, U3, U4, U5, U6, U7, U8, U9, U10, ↓reduceIte, Nat.reduceAdd, Nat.reduceMul, Nat.reduceSub, Nat.reduceEqDiff, Nat.reduceBEq, Nat.reduceLeDiff, Nat.reduceLT, Int.reduceAdd, Int.reduceMul, Int.reduceSub, Int.reduceLT, Int.reduceLE, Int.reduceToNat, Int.reduceEq, Int.reduceNe, Int.reduceBEq, Int.reduceBNe, ne_eq, eq_self]
          refine callT_of (c_open k hS) ?_
          rintro v H' ⟨rfl, hS⟩
          simp only [e18, e17, e16, e1, e5, e6, e8, e9, e10, e11, c2, wrap_w64, wj, ↓D0, ↓D1, ↓D2, ↓D3, ↓D4, ↓D5, ↓D6, ↓D7, ↓D8, ↓D9, U0, U1, U2, U3, U4, U5, U6, U7, U8, U9, U10, ↓reduceIte, Nat.reduceAdd, Nat.reduceMul, Nat.reduceSub, Nat.reduceEqDiff, Nat.reduceBEq, Nat.reduceLeDiff, Nat.reduceLT, Int.reduceAdd, Int.reduceMul, Int.reduceSub, Int.reduceLT, Int.reduceLE, Int.reduceToNat, Int.reduceEq, Int.reduceNe, Int.reduceBEq, Int.reduceBNe, ne_eq, eq_self]
          exact ⟨⟨j + 1, by omega, by omega, by simp [gt], by simp [gt, e17], by simp [gt, e16], ⟨by simp [gt, e1], by simp [gt, e5], by simp [gt, e6], by simp [gt, e8], by simp [gt, e9], by simp [gt, e10], by simp [gt, e11]⟩, hS⟩, by simp [gt, iv, e18]; omega⟩
      have d1 : decide (j < slots k) = false := decide_eq_false hjl
      simp only [e18, e17, e16, e1, e5, e6, e8, e9, e10, e11, d1, u_slots, ↓D0, ↓D1, ↓D2, ↓D3, ↓D4, ↓D5, ↓D6, ↓D7, ↓D8, ↓D9, U0, U1, U2, U3, U4, U5, U6, U7, U8, U9, U10, ↓reduceIte, Nat.reduceAdd, Nat.reduceMul, Nat.reduceSub, Nat.reduceEqDiff, Nat.reduceBEq, Nat.reduceLeDiff, Nat.reduceLT, Int.reduceAdd, Int.reduceMul, Int.reduceSub, Int.reduceLT, Int.reduceLE, Int.reduceToNat, Int.reduceEq, Int.reduceNe, Int.reduceBEq, Int.reduceBNe, ne_eq, eq_self]
      refine callT_of (c_look 3 (by decide) (by omega) hS) ?_
      rintro v H' ⟨rfl, hS⟩
      simp only [e18, e17, e16, e1, e5, e6, e8, e9, e10, e11, hpg3, u_putpg, ↓D0, ↓D1, ↓D2, ↓D3, ↓D4, ↓D5, ↓D6, ↓D7, ↓D8, ↓D9, U0, U1, U2, U3, U4, U5, U6, U7, U8, U9, U10, ↓reduceIte, Nat.reduceAdd, Nat.reduceMul, Nat.reduceSub, Nat.reduceEqDiff, Nat.reduceBEq, Nat.reduceLeDiff, Nat.reduceLT, Int.reduceAdd, Int.reduceMul, Int.reduceSub, Int.reduceLT, Int.reduceLE, Int.reduceToNat, Int.reduceEq, Int.reduceNe, Int.reduceBEq, Int.reduceBNe, ne_eq, eq_self]
      exact hS.tail.tail.tail
  · have hBh : (ts 1).hd = false := by
      cases hb : (ts 1).hd
      · rfl
      · have := hI.once (c := 0) (d := 1) (by decide) (by decide) hA hb; omega
    have hf : u.fd = false := by
      cases hb : u.fd
      · rfl
      · exact (hI.apart (c := 0) (by decide) hA hb).elim
    simp only [e14, e1, e5, e6, e8, e9, e10, e11, hA, hf, ↓D0, ↓D1, ↓D2, ↓D3, ↓D4, ↓D5, ↓D6, ↓D7, ↓D8, ↓D9, U0, U1, U2, U3, U4, U5, U6, U7, U8, U9, U10, ↓reduceIte, Nat.reduceAdd, Nat.reduceMul, Nat.reduceSub, Nat.reduceEqDiff, Nat.reduceBEq, Nat.reduceLeDiff, Nat.reduceLT, Int.reduceAdd, Int.reduceMul, Int.reduceSub, Int.reduceLT, Int.reduceLE, Int.reduceToNat, Int.reduceEq, Int.reduceNe, Int.reduceBEq, Int.reduceBNe, ne_eq, eq_self]
    refine callT_of (c_stheld hS.p2) ?_
    rintro v H' ⟨rfl, hS⟩
    simp only [e14, e1, e5, e6, e8, e9, e10, e11, hA, hf, hBh, ↓D0, ↓D1, ↓D2, ↓D3, ↓D4, ↓D5, ↓D6, ↓D7, ↓D8, ↓D9, U0, U1, U2, U3, U4, U5, U6, U7, U8, U9, U10, ↓reduceIte, Nat.reduceAdd, Nat.reduceMul, Nat.reduceSub, Nat.reduceEqDiff, Nat.reduceBEq, Nat.reduceLeDiff, Nat.reduceLT, Int.reduceAdd, Int.reduceMul, Int.reduceSub, Int.reduceLT, Int.reduceLE, Int.reduceToNat, Int.reduceEq, Int.reduceNe, Int.reduceBEq, Int.reduceBNe, ne_eq, eq_self]
    refine callT_of (c_stheld hS.p1) ?_
    rintro v H' ⟨rfl, hS⟩
    simp only [e14, e1, e5, e6, e8, e9, e10, e11, hA, hf, hBh, ↓D0, ↓D1, ↓D2, ↓D3, ↓D4, ↓D5, ↓D6, ↓D7, ↓D8, ↓D9, U0, U1, U2, U3, U4, U5, U6, U7, U8, U9, U10, ↓reduceIte, Nat.reduceAdd, Nat.reduceMul, Nat.reduceSub, Nat.reduceEqDiff, Nat.reduceBEq, Nat.reduceLeDiff, Nat.reduceLT, Int.reduceAdd, Int.reduceMul, Int.reduceSub, Int.reduceLT, Int.reduceLE, Int.reduceToNat, Int.reduceEq, Int.reduceNe, Int.reduceBEq, Int.reduceBNe, ne_eq, eq_self]
    exact hS.tail.tail.tail.tail.tail.tail
end

theorem l_striptwo {W : World} {n2 cap2 : Nat} {a : Option Addr} {tt : Nat → Int} (g0 : Int) (hg : 0 ≤ g0 ∧ g0 ≤ 255) (hn2 : n2 ≤ 9223372036854775807) (hr2 : RowV (memOf W) a n2 (fun i => .int .u8 (tt i))) (ht : ∀ i, i < n2 → IntKind.u8.has (tt i)) :
    CallP Try.prog W 25 #[.int .u8 g0, .slice a n2 cap2] (memOf W) fun v H' => v = .bool true ∧ Sub (memOf W) H' :=
  (c_striptwo hg.1 hg.2 hr2 (fun i hi => u8_bd (ht i hi)) (Sep.one _)).mono fun v H' ⟨h1, h2⟩ => ⟨h1, h2.head⟩
end Go.Proofs.Ytfapipblclikbaa
