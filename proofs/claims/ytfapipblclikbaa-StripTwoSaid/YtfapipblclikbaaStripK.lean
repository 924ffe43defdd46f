/-
  Chapters 9 and 11: a heap of one page of a class; chapter 11's awake. Conditions: none.
-/
import Derived.Test.YtfapipblclikbaaStrip
import Derived.Test.YtfapipblclikbaaGrow
import Derived.Test.YtfapipblclikbaaLawK
import Derived.Test.YtfapipblclikbaaMaIts
set_option linter.unusedVariables false
set_option linter.unusedSimpArgs false
set_option maxRecDepth 8000
namespace Go.Proofs.Ytfapipblclikbaa
open Go Go.Ev Go.Pl Go.Ma

theorem stow_urow {H : Hp} {y N o m : Nat} {f g : Nat → Int} {T : TypeId} {K : Hp → Prop} (hy : H y = some (.cells (urow N f) T (0, 0))) (h : o + m ≤ N)
    (hK : K (upd H y (.cells (urow N fun j => if o ≤ j ∧ j < o + m then g (j - o) else f j) T (0, 0)))) : stow H (some ⟨y, o, none⟩) 0 (urow m g) K := by
  unfold stow
  rw [urow_size]
  split
  · rename_i hm
    subst hm
    have e : (fun j => if o ≤ j ∧ j < o + 0 then g (j - o) else f j) = f := by funext j; rw [if_neg (by omega)]
    rw [e, upd_self hy] at hK
    exact hK
  · show onCells (H y) _
    rw [hy]
    refine ⟨by simp only [urow_size]; omega, List.all_eq_true.2 fun v hv => by simp [urow] at hv; obtain ⟨i, rfl⟩ := hv; rfl, ?_⟩
    have e : (urow m g).toList = (List.range' o m).map fun j => Value.int .u64 (g (j - o)) := by
      apply List.ext_getElem
      · simp [urow]
      · intro i h1 h2; simp [urow]
    show K (upd H y (.cells (setN (urow N f) (o + 0) (urow m g).toList) T (0, 0)))
    rw [e, Nat.add_zero, setN_urow (fun j => g (j - o)) m o f h]
    exact hK
section
variable {W : World} {H h : Hp} {l : List Hp} {n cap : Nat} {a : Option Addr} {ws : Nat → Int}

theorem c_open (k : Int) (hS : Sep l H) : CallP Try.prog W 68 #[.int .i64 k] H fun v H' => v = .int .u64 (opn k) ∧ Sep l H' := by
  refine CallP.of mixed Try.func68 tr68 (by show 1 ≤ _; decide) fun W _ => ?_
  simp only [u_putsl, ↓D0, ↓D1, ↓D2, ↓D3, ↓D4, ↓D5, ↓D6, ↓D7, ↓D8, ↓D9, U0, U1, U2, U3, U4, U5, U6, U7, U8, U9, U10, ↓reduceIte, Nat.reduceAdd, Nat.reduceMul, Nat.reduceSub, Nat.reduceEqDiff, Nat.reduceBEq, Nat.reduceLeDiff, Nat.reduceLT, Int.reduceAdd, Int.reduceMul, Int.reduceSub, Int.reduceLT, Int.reduceLE, Int.reduceToNat, Int.reduceEq, Int.reduceNe, Int.reduceBEq, Int.reduceBNe, ne_eq, eq_self]
  exact ⟨rfl, hS⟩
def oneW (k : Int) (n : Nat) (ws : Nat → Int) : Nat → Int := fun j => if 3 ≤ j ∧ j - 3 < n then ws (j - 3) else if j = 2 then putPg 2 k 0 else 0
theorem c_one (k : Int) (hn : n ≤ 16) (hr : RowU h a n ws) (hS : Sep (h :: l) H) :
    CallP Try.prog W 70 #[.int .i64 k, .slice a n cap] H fun v H' => ∃ y, v = .tuple #[.agg #[.int .i64 1, .int .i64 2, .int .i64 0], .slice (some ⟨y, 0, none⟩) 19 19] ∧ Sep (sg y (.cells (urow 19 (oneW k n ws)) 26 (0, 0)) :: h :: l) H' := by
  refine CallP.of mixed Try.func70 tr70 (by show 2 ≤ _; decide) fun W _ => ?_
  have e1 : words 1 2 0 = 19 := by decide
  simp only [↓D0, ↓D1, ↓D2, ↓D3, ↓D4, ↓D5, ↓D6, ↓D7, ↓D8, ↓D9, U0, U1, U2, U3, U4, U5, U6, U7, U8, U9, U10, ↓reduceIte, Nat.reduceAdd, Nat.reduceMul, Nat.reduceSub, Nat.reduceEqDiff, Nat.reduceBEq, Nat.reduceLeDiff, Nat.reduceLT, Int.reduceAdd, Int.reduceMul, Int.reduceSub, Int.reduceLT, Int.reduceLE, Int.reduceToNat, Int.reduceEq, Int.reduceNe, Int.reduceBEq, Int.reduceBNe, ne_eq, eq_self]
  refine newB_intro fun x hx f1 f2 => ?_
  have hS := hS.new f1 (.cells #[.int .i64 0, .int .i64 0, .int .i64 0] 57 (0, 0))
  simp only [↓D0, ↓D1, ↓D2, ↓D3, ↓D4, ↓D5, ↓D6, ↓D7, ↓D8, ↓D9, U0, U1, U2, U3, U4, U5, U6, U7, U8, U9, U10, ↓reduceIte, Nat.reduceAdd, Nat.reduceMul, Nat.reduceSub, Nat.reduceEqDiff, Nat.reduceBEq, Nat.reduceLeDiff, Nat.reduceLT, Int.reduceAdd, Int.reduceMul, Int.reduceSub, Int.reduceLT, Int.reduceLE, Int.reduceToNat, Int.reduceEq, Int.reduceNe, Int.reduceBEq, Int.reduceBNe, ne_eq, eq_self]
  refine newB_intro fun x2 hx2 f3 f4 => ?_
  have hS := hS.new f3 (.cells #[.int .i64 1, .int .i64 2, .int .i64 0] 57 (0, 0))
  simp only [u_words, e1, ↓D0, ↓D1, ↓D2, ↓D3, ↓D4, ↓D5, ↓D6, ↓D7, ↓D8, ↓D9, U0, U1, U2, U3, U4, U5, U6, U7, U8, U9, U10, ↓reduceIte, Nat.reduceAdd, Nat.reduceMul, Nat.reduceSub, Nat.reduceEqDiff, Nat.reduceBEq, Nat.reduceLeDiff, Nat.reduceLT, Int.reduceAdd, Int.reduceMul, Int.reduceSub, Int.reduceLT, Int.reduceLE, Int.reduceToNat, Int.reduceEq, Int.reduceNe, Int.reduceBEq, Int.reduceBNe, ne_eq, eq_self]
  refine newB_intro fun y hy f5 f6 => ?_
  have hS := hS.new f5 (.cells (urow 19 fun j => if j = 2 then putPg 2 k 0 else 0) 26 (0, 0))
  have n1 := hS.neq 0 1 (by decide) rfl rfl
  have n2 := hS.neq 0 2 (by decide) rfl rfl
  have n3 := hS.neq 1 2 (by decide) rfl rfl
  have n4 := hS.qen 0 1 (by decide) rfl rfl
  have n5 := hS.qen 0 2 (by decide) rfl rfl
  have n6 := hS.qen 1 2 (by decide) rfl rfl
  have hm : Nat.min n 16 = n := Nat.min_eq_left hn
  have hr2 := rds_row (by omega) hr (hS.sb h (by simp))
  simp only [urow_zero, urow_set, urow_size, u_putpg, n1, n2, n3, n4, n5, n6, hm, hr2, ↓D0, ↓D1, ↓D2, ↓D3, ↓D4, ↓D5, ↓D6, ↓D7, ↓D8, ↓D9, U0, U1, U2, U3, U4, U5, U6, U7, U8, U9, U10, ↓reduceIte, Nat.reduceAdd, Nat.reduceMul, Nat.reduceSub, Nat.reduceEqDiff, Nat.reduceBEq, Nat.reduceLeDiff, Nat.reduceLT, Int.reduceAdd, Int.reduceMul, Int.reduceSub, Int.reduceLT, Int.reduceLE, Int.reduceToNat, Int.reduceEq, Int.reduceNe, Int.reduceBEq, Int.reduceBNe, ne_eq, eq_self]
  refine stow_urow (N := 19) (o := 3) (m := n) (g := ws) hS.look (by omega) ?_
  have e : (fun j => if 3 ≤ j ∧ j < 3 + n then ws (j - 3) else if j = 2 then putPg 2 k 0 else 0) = oneW k n ws := by
    funext j; unfold oneW
    by_cases h1 : 3 ≤ j ∧ j < 3 + n
    · rw [if_pos h1, if_pos (by omega)]
    · rw [if_neg h1, if_neg (show ¬ (3 ≤ j ∧ j - 3 < n) by omega)]
  rw [e]
  have hS := hS.set (.cells (urow 19 (oneW k n ws)) 26 (0, 0))
  rw [Ev.upd_upd] at hS
  simp only [n1, n2, n3, n4, n5, n6, ↓D0, ↓D1, ↓D2, ↓D3, ↓D4, ↓D5, ↓D6, ↓D7, ↓D8, ↓D9, U0, U1, U2, U3, U4, U5, U6, U7, U8, U9, U10, ↓reduceIte, Nat.reduceAdd, Nat.reduceMul, Nat.reduceSub, Nat.reduceEqDiff, Nat.reduceBEq, Nat.reduceLeDiff, Nat.reduceLT, Int.reduceAdd, Int.reduceMul, Int.reduceSub, Int.reduceLT, Int.reduceLE, Int.reduceToNat, Int.reduceEq, Int.reduceNe, Int.reduceBEq, Int.reduceBNe, ne_eq, eq_self]
  exact ⟨y, rfl, (hS.p2.set _).tail.p1.tail⟩
def fullI (k : Int) (x : Nat) (l : List Hp) (F' : Fr) (H' : Hp) : Prop :=
  ∃ (i : Nat) (a : Option Addr) (cap : Nat) (g : Hp), (i : Int) ≤ slots k ∧ gt F' 5 = .int .i64 (i : Int) ∧ gt F' 4 = .slice a i cap ∧ gt F' 0 = .int .i64 k ∧ gt F' 2 = .pointer (some ⟨x, 0, none⟩) ∧ Gr 26 a i cap (fun _ => .int .u64 (opn k)) g ∧ Sep (g :: l) H'
theorem c_full (k : Int) (hS : Sep l H) :
    CallP Try.prog W 108 #[.int .i64 k] H fun v H' => ∃ y, v = .tuple #[.agg #[.int .i64 1, .int .i64 2, .int .i64 0], .slice (some ⟨y, 0, none⟩) 19 19] ∧ Sep (sg y (.cells (urow 19 (oneW k (slots k).toNat fun _ => opn k)) 26 (0, 0)) :: l) H' := by
  refine CallP.of mixed Try.func108 tr108 (by show 1 ≤ _; decide) fun W _ => ?_
  have sb := slots_bd k
  simp only [↓D0, ↓D1, ↓D2, ↓D3, ↓D4, ↓D5, ↓D6, ↓D7, ↓D8, ↓D9, U0, U1, U2, U3, U4, U5, U6, U7, U8, U9, U10, ↓reduceIte, Nat.reduceAdd, Nat.reduceMul, Nat.reduceSub, Nat.reduceEqDiff, Nat.reduceBEq, Nat.reduceLeDiff, Nat.reduceLT, Int.reduceAdd, Int.reduceMul, Int.reduceSub, Int.reduceLT, Int.reduceLE, Int.reduceToNat, Int.reduceEq, Int.reduceNe, Int.reduceBEq, Int.reduceBNe, ne_eq, eq_self]
  refine newB_intro fun x hx f1 f2 => ?_
  have hS := (hS.new f1 (.cells #[.int .i64 0, .int .i64 0, .int .i64 0] 57 (0, 0)))
  simp only [↓D0, ↓D1, ↓D2, ↓D3, ↓D4, ↓D5, ↓D6, ↓D7, ↓D8, ↓D9, U0, U1, U2, U3, U4, U5, U6, U7, U8, U9, U10, ↓reduceIte, Nat.reduceAdd, Nat.reduceMul, Nat.reduceSub, Nat.reduceEqDiff, Nat.reduceBEq, Nat.reduceLeDiff, Nat.reduceLT, Int.reduceAdd, Int.reduceMul, Int.reduceSub, Int.reduceLT, Int.reduceLE, Int.reduceToNat, Int.reduceEq, Int.reduceNe, Int.reduceBEq, Int.reduceBNe, ne_eq, eq_self]
  refine loop_intro (fullI k x (sg x (.cells #[.int .i64 0, .int .i64 0, .int .i64 0] 57 (0, 0)) :: l)) (fun F' _ => (16 - iv (gt F' 5)).toNat) ⟨0, none, 0, _, by omega, rfl, rfl, rfl, rfl, Gr.none _ _, hS.nothing⟩ ?_
  rintro F' H' ⟨i, a, cap, g, hi, e5, e4, e0, e2, hG, hS⟩
  by_cases hlt : (i : Int) < slots k
  · have g1 : decide ((i : Int) < slots k) = true := decide_eq_true hlt
    have w1 : w64 ((i : Int) + 1) = ((i + 1 : Nat) : Int) := by rw [w64_eq (by omega) (by omega)]; omega
    simp only [e5, e4, e0, u_slots, g1, ↓D0, ↓D1, ↓D2, ↓D3, ↓D4, ↓D5, ↓D6, ↓D7, ↓D8, ↓D9, U0, U1, U2, U3, U4, U5, U6, U7, U8, U9, U10, ↓reduceIte, Nat.reduceAdd, Nat.reduceMul, Nat.reduceSub, Nat.reduceEqDiff, Nat.reduceBEq, Nat.reduceLeDiff, Nat.reduceLT, Int.reduceAdd, Int.reduceMul, Int.reduceSub, Int.reduceLT, Int.reduceLE, Int.reduceToNat, Int.reduceEq, Int.reduceNe, Int.reduceBEq, Int.reduceBNe, ne_eq, eq_self]
    refine callT_of (c_open k hS) ?_
    rintro v H' ⟨rfl, hS⟩
    simp only [e5, e4, e0, ↓D0, ↓D1, ↓D2, ↓D3, ↓D4, ↓D5, ↓D6, ↓D7, ↓D8, ↓D9, U0, U1, U2, U3, U4, U5, U6, U7, U8, U9, U10, ↓reduceIte, Nat.reduceAdd, Nat.reduceMul, Nat.reduceSub, Nat.reduceEqDiff, Nat.reduceBEq, Nat.reduceLeDiff, Nat.reduceLT, Int.reduceAdd, Int.reduceMul, Int.reduceSub, Int.reduceLT, Int.reduceLE, Int.reduceToNat, Int.reduceEq, Int.reduceNe, Int.reduceBEq, Int.reduceBNe, ne_eq, eq_self]
    refine newB_intro fun y hy f5 f6 => ?_
    have hS2 := hS.new f5 (.cells #[.int .u64 (opn k)] 26 (0, 0))
    have ha : rds (upd H' y (.cells #[.int .u64 (opn k)] 26 (0, 0))) (some ⟨y, 0, none⟩) 1 = some #[.int .u64 (opn k)] := by
      simp only [rds, ↓D0, ↓D1, ↓D2, ↓D3, ↓D4, ↓D5, ↓D6, ↓D7, ↓D8, ↓D9, U0, U1, U2, U3, U4, U5, U6, U7, U8, U9, U10, ↓reduceIte, Nat.reduceAdd, Nat.reduceMul, Nat.reduceSub, Nat.reduceEqDiff, Nat.reduceBEq, Nat.reduceLeDiff, Nat.reduceLT, Int.reduceAdd, Int.reduceMul, Int.reduceSub, Int.reduceLT, Int.reduceLE, Int.reduceToNat, Int.reduceEq, Int.reduceNe, Int.reduceBEq, Int.reduceBNe, ne_eq, eq_self]
    simp only [e5, e4, e0, ha, ↓D0, ↓D1, ↓D2, ↓D3, ↓D4, ↓D5, ↓D6, ↓D7, ↓D8, ↓D9, U0, U1, U2, U3, U4, U5, U6, U7, U8, U9, U10, ↓reduceIte, Nat.reduceAdd, Nat.reduceMul, Nat.reduceSub, Nat.reduceEqDiff, Nat.reduceBEq, Nat.reduceLeDiff, Nat.reduceLT, Int.reduceAdd, Int.reduceMul, Int.reduceSub, Int.reduceLT, Int.reduceLE, Int.reduceToNat, Int.reduceEq, Int.reduceNe, Int.reduceBEq, Int.reduceBNe, ne_eq, eq_self]
    have e : (fun j => if j = i then Value.int .u64 (opn k) else Value.int .u64 (opn k)) = fun _ => Value.int .u64 (opn k) := by funext j; split <;> rfl
    refine grow (z0 := .int .u64 0) (bytes := 8) (v := .int .u64 (opn k)) hG rfl (by omega) (by decide) (hS2.p1) (fun g2 H2 hG2 hS3 => ?_) (fun old cap2 b hG2 hS3 => ?_)
    all_goals
      rw [e] at hG2
      simp only [e5, e4, e0, e2, wrap_w64, w1, ↓D0, ↓D1, ↓D2, ↓D3, ↓D4, ↓D5, ↓D6, ↓D7, ↓D8, ↓D9, U0, U1, U2, U3, U4, U5, U6, U7, U8, U9, U10, ↓reduceIte, Nat.reduceAdd, Nat.reduceMul, Nat.reduceSub, Nat.reduceEqDiff, Nat.reduceBEq, Nat.reduceLeDiff, Nat.reduceLT, Int.reduceAdd, Int.reduceMul, Int.reduceSub, Int.reduceLT, Int.reduceLE, Int.reduceToNat, Int.reduceEq, Int.reduceNe, Int.reduceBEq, Int.reduceBNe, ne_eq, eq_self]
      exact ⟨⟨i + 1, _, _, _, by omega, rfl, by simp [gt], by simp [gt, e0], by simp [gt, e2], hG2, hS3.p1.tail⟩, by simp [gt, iv, e5]; omega⟩
  · have hin : (i : Int) = slots k := by omega
    have g1 : decide ((i : Int) < slots k) = false := decide_eq_false hlt
    simp only [e5, e4, e0, u_slots, g1, ↓D0, ↓D1, ↓D2, ↓D3, ↓D4, ↓D5, ↓D6, ↓D7, ↓D8, ↓D9, U0, U1, U2, U3, U4, U5, U6, U7, U8, U9, U10, ↓reduceIte, Nat.reduceAdd, Nat.reduceMul, Nat.reduceSub, Nat.reduceEqDiff, Nat.reduceBEq, Nat.reduceLeDiff, Nat.reduceLT, Int.reduceAdd, Int.reduceMul, Int.reduceSub, Int.reduceLT, Int.reduceLE, Int.reduceToNat, Int.reduceEq, Int.reduceNe, Int.reduceBEq, Int.reduceBNe, ne_eq, eq_self]
    refine callT_of (c_one k (by omega) hG.row hS) ?_
    rintro v H' ⟨y, rfl, hS⟩
    have hx := hS.lk 2 rfl
    have nyx := hS.neq 0 2 (by decide) rfl rfl
    have e : i = (slots k).toNat := by omega
    simp only [e5, e4, e0, e2, hx, nyx, ↓D0, ↓D1, ↓D2, ↓D3, ↓D4, ↓D5, ↓D6, ↓D7, ↓D8, ↓D9, U0, U1, U2, U3, U4, U5, U6, U7, U8, U9, U10, ↓reduceIte, Nat.reduceAdd, Nat.reduceMul, Nat.reduceSub, Nat.reduceEqDiff, Nat.reduceBEq, Nat.reduceLeDiff, Nat.reduceLT, Int.reduceAdd, Int.reduceMul, Int.reduceSub, Int.reduceLT, Int.reduceLE, Int.reduceToNat, Int.reduceEq, Int.reduceNe, Int.reduceBEq, Int.reduceBNe, ne_eq, eq_self]
    refine ⟨y, rfl, ?_⟩
    rw [← e]
    exact (hS.p2.set _).tail.p1.tail
end

/-! ### Chapter 11's awake -/
def aw11t : St := St.new ⟨1, 2, 0⟩ 1 0 3
def aw11w : Wd := rowW 19 (oneW 3 2 fun _ => opn 3)
theorem aw11_end : (its St.step 3 aw11t aw11w).1.dn = true ∧ (its St.step 3 aw11t aw11w).1.hd = true ∧ ((its St.step 3 aw11t aw11w).2.get 2 == putPg 1 1 0) = true := by decide +kernel
theorem U_oneW (k : Int) (n : Nat) {ws : Nat → Int} (h : ∀ i, U (ws i)) (j : Nat) : U (oneW k n ws j) := by
  unfold oneW
  split
  · exact h _
  · split
    · exact U_putPg ..
    · exact U_0
theorem U_row (n : Nat) {ws : Nat → Int} (h : ∀ i, U (ws i)) (j : Nat) : U ((rowW n ws).ws j) := by
  show U (if _ then _ else _)
  split
  · exact h _
  · exact U_0
theorem aw11_of : aw11w.of ⟨1, 2, 0⟩ := ⟨by decide, fun i => U_row _ (fun j => U_oneW _ _ (fun _ => U_opn _) j) i⟩

section
variable {W : World} {H : Hp} {l : List Hp}

def aw11I (k b s : Nat) (l : List Hp) (F' : Fr) (H' : Hp) : Prop :=
  ∃ i : Nat, i ≤ 3 ∧ gt F' 5 = .int .i64 (i : Int) ∧ gt F' 3 = .pointer (some ⟨b, 0, none⟩) ∧ gt F' 4 = .pointer (some ⟨k, 0, none⟩) ∧
    Sep (stB k (its St.step i aw11t aw11w).1 :: wB b s (its St.step i aw11t aw11w).2 :: wR s (its St.step i aw11t aw11w).2 :: l) H'
theorem c_awake11 (hS : Sep l H) : CallP Try.prog W 66 #[] H fun v H' => v = .bool true ∧ Sep l H' := by
  refine CallP.of mixed Try.func66 tr66 (by show 0 ≤ _; decide) fun W _ => ?_
  have es : (slots 3).toNat = 2 := by decide
  simp only [↓D0, ↓D1, ↓D2, ↓D3, ↓D4, ↓D5, ↓D6, ↓D7, ↓D8, ↓D9, U0, U1, U2, U3, U4, U5, U6, U7, U8, U9, U10, ↓reduceIte, Nat.reduceAdd, Nat.reduceMul, Nat.reduceSub, Nat.reduceEqDiff, Nat.reduceBEq, Nat.reduceLeDiff, Nat.reduceLT, Int.reduceAdd, Int.reduceMul, Int.reduceSub, Int.reduceLT, Int.reduceLE, Int.reduceToNat, Int.reduceEq, Int.reduceNe, Int.reduceBEq, Int.reduceBNe, ne_eq, eq_self]
  refine callT_of (c_full 3 hS) ?_
  rintro v H' ⟨y, rfl, hS⟩
  rw [es] at hS
  simp only [↓D0, ↓D1, ↓D2, ↓D3, ↓D4, ↓D5, ↓D6, ↓D7, ↓D8, ↓D9, U0, U1, U2, U3, U4, U5, U6, U7, U8, U9, U10, ↓reduceIte, Nat.reduceAdd, Nat.reduceMul, Nat.reduceSub, Nat.reduceEqDiff, Nat.reduceBEq, Nat.reduceLeDiff, Nat.reduceLT, Int.reduceAdd, Int.reduceMul, Int.reduceSub, Int.reduceLT, Int.reduceLE, Int.reduceToNat, Int.reduceEq, Int.reduceNe, Int.reduceBEq, Int.reduceBNe, ne_eq, eq_self]
  refine newB_intro fun x hx f1 f2 => ?_
  have hS := hS.new f1 (.cells #[.int .i64 1, .int .i64 2, .int .i64 0] 57 (0, 0))
  simp only [↓D0, ↓D1, ↓D2, ↓D3, ↓D4, ↓D5, ↓D6, ↓D7, ↓D8, ↓D9, U0, U1, U2, U3, U4, U5, U6, U7, U8, U9, U10, ↓reduceIte, Nat.reduceAdd, Nat.reduceMul, Nat.reduceSub, Nat.reduceEqDiff, Nat.reduceBEq, Nat.reduceLeDiff, Nat.reduceLT, Int.reduceAdd, Int.reduceMul, Int.reduceSub, Int.reduceLT, Int.reduceLE, Int.reduceToNat, Int.reduceEq, Int.reduceNe, Int.reduceBEq, Int.reduceBNe, ne_eq, eq_self]
  have hS := hS.p1
  refine callT_of (c_fill (n := 19) (by decide) (RowU.own y 19 _ _ _) hS) ?_
  rintro v H' ⟨b, s, rfl, hS⟩
  have hx := hS.lk 3 rfl
  have r2 := fun o n => rdn_of hx o n
  simp only [hx, r2, ↓D0, ↓D1, ↓D2, ↓D3, ↓D4, ↓D5, ↓D6, ↓D7, ↓D8, ↓D9, U0, U1, U2, U3, U4, U5, U6, U7, U8, U9, U10, ↓reduceIte, Nat.reduceAdd, Nat.reduceMul, Nat.reduceSub, Nat.reduceEqDiff, Nat.reduceBEq, Nat.reduceLeDiff, Nat.reduceLT, Int.reduceAdd, Int.reduceMul, Int.reduceSub, Int.reduceLT, Int.reduceLE, Int.reduceToNat, Int.reduceEq, Int.reduceNe, Int.reduceBEq, Int.reduceBNe, ne_eq, eq_self]
  refine callT_of (c_stnew (sh := ⟨1, 2, 0⟩) hS) ?_
  rintro v H' ⟨k, rfl, hS⟩
  simp only [↓D0, ↓D1, ↓D2, ↓D3, ↓D4, ↓D5, ↓D6, ↓D7, ↓D8, ↓D9, U0, U1, U2, U3, U4, U5, U6, U7, U8, U9, U10, ↓reduceIte, Nat.reduceAdd, Nat.reduceMul, Nat.reduceSub, Nat.reduceEqDiff, Nat.reduceBEq, Nat.reduceLeDiff, Nat.reduceLT, Int.reduceAdd, Int.reduceMul, Int.reduceSub, Int.reduceLT, Int.reduceLE, Int.reduceToNat, Int.reduceEq, Int.reduceNe, Int.reduceBEq, Int.reduceBNe, ne_eq, eq_self]
  refine loop_intro (aw11I k b s l) (fun F' _ => (3 - iv (gt F' 5)).toNat) ⟨0, by decide, rfl, rfl, rfl, hS.p3.tail.p3.tail⟩ ?_
  rintro F' H' ⟨i, hi, e5, e3, e4, hS⟩
  have hwf : (its St.step i aw11t aw11w).1.wf := St.its_wf (St.new_wf ⟨1, 2, 0⟩ 1 0 3) i
  have hsh : (its St.step i aw11t aw11w).1.s = ⟨1, 2, 0⟩ := St.its_s (t := aw11t) i
  have hof := St.its_of (t := aw11t) aw11_of i
  by_cases hlt : i < 3
  · have g1 : decide ((i : Int) < 3) = true := decide_eq_true (by omega)
    have w1 : w64 ((i : Int) + 1) = ((i + 1 : Nat) : Int) := by rw [w64_eq (by omega) (by omega)]; omega
    simp only [e5, e3, e4, g1, ↓D0, ↓D1, ↓D2, ↓D3, ↓D4, ↓D5, ↓D6, ↓D7, ↓D8, ↓D9, U0, U1, U2, U3, U4, U5, U6, U7, U8, U9, U10, ↓reduceIte, Nat.reduceAdd, Nat.reduceMul, Nat.reduceSub, Nat.reduceEqDiff, Nat.reduceBEq, Nat.reduceLeDiff, Nat.reduceLT, Int.reduceAdd, Int.reduceMul, Int.reduceSub, Int.reduceLT, Int.reduceLE, Int.reduceToNat, Int.reduceEq, Int.reduceNe, Int.reduceBEq, Int.reduceBNe, ne_eq, eq_self]
    refine callT_of (c_ststep hwf (fun _ => by rw [hsh]; exact hof) hS) ?_
    rintro v H' ⟨rfl, hS⟩
    simp only [e5, e3, e4, wrap_w64, w1, ↓D0, ↓D1, ↓D2, ↓D3, ↓D4, ↓D5, ↓D6, ↓D7, ↓D8, ↓D9, U0, U1, U2, U3, U4, U5, U6, U7, U8, U9, U10, ↓reduceIte, Nat.reduceAdd, Nat.reduceMul, Nat.reduceSub, Nat.reduceEqDiff, Nat.reduceBEq, Nat.reduceLeDiff, Nat.reduceLT, Int.reduceAdd, Int.reduceMul, Int.reduceSub, Int.reduceLT, Int.reduceLE, Int.reduceToNat, Int.reduceEq, Int.reduceNe, Int.reduceBEq, Int.reduceBNe, ne_eq, eq_self]
    exact ⟨⟨i + 1, by omega, rfl, by simp [gt, e3], by simp [gt, e4], hS⟩, by simp [gt, iv, e5]; omega⟩
  · have hin : i = 3 := by omega
    subst hin
    obtain ⟨z1, z2, z3⟩ := aw11_end
    have hp : (2 : Int) < (its St.step 3 aw11t aw11w).2.n := by decide +kernel
    simp only [e5, e3, e4, ↓D0, ↓D1, ↓D2, ↓D3, ↓D4, ↓D5, ↓D6, ↓D7, ↓D8, ↓D9, U0, U1, U2, U3, U4, U5, U6, U7, U8, U9, U10, ↓reduceIte, Nat.reduceAdd, Nat.reduceMul, Nat.reduceSub, Nat.reduceEqDiff, Nat.reduceBEq, Nat.reduceLeDiff, Nat.reduceLT, Int.reduceAdd, Int.reduceMul, Int.reduceSub, Int.reduceLT, Int.reduceLE, Int.reduceToNat, Int.reduceEq, Int.reduceNe, Int.reduceBEq, Int.reduceBNe, ne_eq, eq_self]
    refine callT_of (c_stdone hS) ?_
    rintro v H' ⟨rfl, hS⟩
    simp only [e5, e3, e4, z1, ↓D0, ↓D1, ↓D2, ↓D3, ↓D4, ↓D5, ↓D6, ↓D7, ↓D8, ↓D9, U0, U1, U2, U3, U4, U5, U6, U7, U8, U9, U10, ↓reduceIte, Nat.reduceAdd, Nat.reduceMul, Nat.reduceSub, Nat.reduceEqDiff, Nat.reduceBEq, Nat.reduceLeDiff, Nat.reduceLT, Int.reduceAdd, Int.reduceMul, Int.reduceSub, Int.reduceLT, Int.reduceLE, Int.reduceToNat, Int.reduceEq, Int.reduceNe, Int.reduceBEq, Int.reduceBNe, ne_eq, eq_self]
    refine callT_of (c_stheld hS) ?_
    rintro v H' ⟨rfl, hS⟩
    simp only [e5, e3, e4, z2, ↓D0, ↓D1, ↓D2, ↓D3, ↓D4, ↓D5, ↓D6, ↓D7, ↓D8, ↓D9, U0, U1, U2, U3, U4, U5, U6, U7, U8, U9, U10, ↓reduceIte, Nat.reduceAdd, Nat.reduceMul, Nat.reduceSub, Nat.reduceEqDiff, Nat.reduceBEq, Nat.reduceLeDiff, Nat.reduceLT, Int.reduceAdd, Int.reduceMul, Int.reduceSub, Int.reduceLT, Int.reduceLE, Int.reduceToNat, Int.reduceEq, Int.reduceNe, Int.reduceBEq, Int.reduceBNe, ne_eq, eq_self]
    refine callT_of (c_look 2 (by decide) hp hS.tail) ?_
    rintro v H' ⟨rfl, hS⟩
    simp only [u_putpg, z3, ↓D0, ↓D1, ↓D2, ↓D3, ↓D4, ↓D5, ↓D6, ↓D7, ↓D8, ↓D9, U0, U1, U2, U3, U4, U5, U6, U7, U8, U9, U10, ↓reduceIte, Nat.reduceAdd, Nat.reduceMul, Nat.reduceSub, Nat.reduceEqDiff, Nat.reduceBEq, Nat.reduceLeDiff, Nat.reduceLT, Int.reduceAdd, Int.reduceMul, Int.reduceSub, Int.reduceLT, Int.reduceLE, Int.reduceToNat, Int.reduceEq, Int.reduceNe, Int.reduceBEq, Int.reduceBNe, ne_eq, eq_self]
    exact hS.tail.tail
end

end Go.Proofs.Ytfapipblclikbaa
