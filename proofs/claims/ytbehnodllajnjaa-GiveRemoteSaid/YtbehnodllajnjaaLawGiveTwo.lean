/-
  GiveTwo, walked: two that give the same block, whatever their turns. Conditions: none.
-/
import Derived.Test.YtbehnodllajnjaaGiveK
import Derived.Test.YtbehnodllajnjaaRowV
import Derived.Test.YtbehnodllajnjaaMaGiveTwo
set_option linter.unusedVariables false
set_option linter.unusedSimpArgs false
set_option maxRecDepth 8000
namespace Go.Proofs.Ytbehnodllajnjaa
open Go Go.Ev Go.Pl Go.Ma

theorem shr4_u8 (n : Int) : Int.fdiv n (2 ^ min 4 IntKind.u8.bits) = n / 16 := by
  rw [show min 4 IntKind.u8.bits = 4 from rfl, Int.fdiv_eq_ediv_of_nonneg n (by decide)]; rfl
/-- The words at the beginning: j slots are written. -/
def gvF (k B : Int) (j : Nat) : Nat → Int := fun q => if 3 ≤ q ∧ q < 3 + j then taken k else if q = 2 then super k B else 0
theorem gvF_U (k B : Int) (j q : Nat) : U (gvF k B j q) := by unfold gvF; split; exact U_taken _; split; exact U_super ..; exact U_0
theorem gvF_step (k B : Int) (j : Nat) : (fun q => if q = 3 + j then taken k else gvF k B j q) = gvF k B (j + 1) := by
  funext q; unfold gvF
  by_cases h : q = 3 + j
  · rw [if_pos h, if_pos (by omega)]
  · rw [if_neg h]
    by_cases h2 : 3 ≤ q ∧ q < 3 + j
    · rw [if_pos h2, if_pos (by omega)]
    · rw [if_neg h2, if_neg (show ¬ (3 ≤ q ∧ q < 3 + (j + 1)) by omega)]
theorem gvF_zero (k B : Int) : (fun q => if q = 2 then super k B else 0 : Nat → Int) = gvF k B 0 := by
  funext q; unfold gvF; rw [if_neg (show ¬ (3 ≤ q ∧ q < 3 + 0) by omega)]
theorem gv_left_le {t : Gv} (h : t.wf) (hm : 0 ≤ t.s.m) (hp : ∀ p, t.put = some p → p.left ≤ t.s.m + 1) : t.left ≤ t.s.m + 13 := by
  cases hd : t.dn
  · have h1 := h.of hd
    unfold Gv.left
    rw [hd, if_neg (by decide)]
    split
    · omega
    split
    · omega
    split
    · cases hq : t.put with
      | none => show (0 : Int) + 2 ≤ _; omega
      | some p => have := hp p hq; show p.left + 2 ≤ _; omega
    split
    · omega
    · rename_i e0 e1 e2 e3
      have h4 := h.n4 hd (by omega)
      obtain ⟨-, hb, -⟩ := h.bl hd (by omega)
      rcases hb with hb | hb <;> omega
  · have : t.left = 0 := by unfold Gv.left; rw [hd]; rfl
    omega
theorem gv_left {t : Gv} {w : Wd} {m : Int} (h : t.wf) (hl : t.left ≤ max 0 m) : (t.step w).1.left ≤ max 0 (m - 1) := by
  cases hd : t.dn
  · have := Gv.step_left (w := w) h hd; omega
  · rw [Gv.step_dn hd]
    have : t.left = 0 := by unfold Gv.left; rw [hd]; rfl
    show t.left ≤ _; omega

section
variable {W : World} {H h : Hp} {l : List Hp} {n cap : Nat} {a : Option Addr} {B : Nat → Bool}

def gtG (g0 g1 k i : Int) (n cap : Nat) (a : Option Addr) (x : Nat) (F' : Fr) : Prop :=
  gt F' 0 = .int .u8 g0 ∧ gt F' 1 = .int .u8 g1 ∧ gt F' 2 = .slice a n cap ∧ gt F' 7 = .int .i64 k ∧ gt F' 8 = .int .i64 i ∧ gt F' 9 = .pointer (some ⟨x, 0, none⟩)
def gtA (g0 g1 k i b' : Int) (N : Nat) (n cap : Nat) (a : Option Addr) (x y : Nat) (L : List Hp) (F' : Fr) (H' : Hp) : Prop :=
  ∃ j : Nat, (j : Int) ≤ slots k ∧ gt F' 11 = .int .i64 (j : Int) ∧ gt F' 10 = .slice (some ⟨y, 0, none⟩) N N ∧ gtG g0 g1 k i n cap a x F' ∧ Sep (sg y (.cells (urow N (gvF k b' j)) 29 (0, 0)) :: L) H'
def gtB (g0 g1 k i b' m : Int) (n cap : Nat) (a : Option Addr) (x b ka kb s : Nat) (L : List Hp) (second : Bool) (F' : Fr) (H' : Hp) : Prop :=
  ∃ (j : Int) (ta tb : Gv) (w : Wd) (pa pb : Nat), 0 ≤ j ∧ j ≤ 20 ∧ gt F' (if second then 17 else 16) = .int .i64 j ∧ gtG g0 g1 k i n cap a x F' ∧
    (gt F' 12 = .pointer (some ⟨b, 0, none⟩) ∧ gt F' 14 = .pointer (some ⟨ka, 0, none⟩) ∧ gt F' 15 = .pointer (some ⟨kb, 0, none⟩)) ∧ Gv.Two m k i b' 0 1 ta tb w ∧ w.n = (19 + 2 * m).toNat ∧
    (ta.left ≤ 14 ∧ tb.left ≤ 14) ∧ (second = true → ta.left ≤ max 0 (20 - j) ∧ tb.left ≤ max 0 (20 - j)) ∧ Sep (gvB ka pa ta :: puO pa ta.put :: gvB kb pb tb :: puO pb tb.put :: wB b s w :: wR s w :: L) H'
theorem c_givetwo {g0 g1 : Int} (hg0 : 0 ≤ g0) (hg1 : g0 ≤ 255) (hk0 : 0 ≤ g1) (hk1 : g1 ≤ 255) (hr : RowV h a n (fun i => .bool (B i))) (hS : Sep (h :: l) H) :
    CallP Try.prog W 5 #[.int .u8 g0, .int .u8 g1, .slice a n cap] H fun v H' => v = .bool true ∧ Sep (h :: l) H' := by
  refine CallP.of mixed Try.func5 tr5 (by show 3 ≤ _; decide) fun W _ => ?_
  simp only [↓D0, ↓D1, ↓D2, ↓D3, ↓D4, ↓D5, ↓D6, ↓D7, ↓D8, ↓D9, U0, U1, U2, U3, U4, U5, U6, U7, U8, U9, U10, ↓reduceIte, Nat.reduceAdd, Nat.reduceMul, Nat.reduceSub, Nat.reduceEqDiff, Nat.reduceBEq, Nat.reduceLeDiff, Nat.reduceLT, Int.reduceAdd, Int.reduceMul, Int.reduceSub, Int.reduceLT, Int.reduceLE, Int.reduceToNat, Int.reduceEq, Int.reduceNe, Int.reduceBEq, Int.reduceBNe, ne_eq, eq_self]
  refine callT_of (c_awake16 hS) ?_
  rintro v H' ⟨rfl, hS⟩
  have eg0 : w64 g0 = g0 := w64_eq (by omega) (by omega)
  have eg1 : w64 g1 = g1 := w64_eq (by omega) (by omega)
  have et0 : g0.tmod 4 = g0 % 4 := Int.tmod_eq_emod_of_nonneg hg0
  obtain ⟨k, hk⟩ : ∃ k, g0 % 4 = k := ⟨_, rfl⟩
  have kb' : 0 ≤ k ∧ k ≤ 3 := by omega
  have sb := slots_bd k
  have sp : 0 < slots k := (Gv.slot_of (o := 0) (k := k) kb' ⟨by decide, by decide⟩).2 |> fun h => by have := Int.zero_ediv (size k); omega
  have s0 : (slots k = 0) = False := eq_false (by omega)
  have et1 : g1.tmod (slots k) = g1 % slots k := Int.tmod_eq_emod_of_nonneg hk0
  obtain ⟨i, hi⟩ : ∃ i, g1 % slots k = i := ⟨_, rfl⟩
  have ib := mod_bd (a := g1) (p := slots k) sp
  rw [hi] at ib
  have e16 : g1 / 16 ≤ 15 ∧ 0 ≤ g1 / 16 := by omega
  have f16 : g0 / 16 ≤ 15 ∧ 0 ≤ g0 / 16 := by omega
  have we1 : w64 (g1 / 16) = g1 / 16 := w64_eq (by omega) (by omega)
  have we0 : w64 (g0 / 16) = g0 / 16 := w64_eq (by omega) (by omega)
  have et2 : (g1 / 16).tmod 2 = g1 / 16 % 2 := Int.tmod_eq_emod_of_nonneg (by omega)
  have et3 : (g0 / 16).tmod 2 = g0 / 16 % 2 := Int.tmod_eq_emod_of_nonneg (by omega)
  obtain ⟨m, hm⟩ : ∃ m, g1 / 16 % 2 = m := ⟨_, rfl⟩
  obtain ⟨b', hb'⟩ : ∃ b', g0 / 16 % 2 = b' := ⟨_, rfl⟩
  have mb : m = 0 ∨ m = 1 := by omega
  have bb : b' = 0 ∨ b' = 1 := by omega
  have D : Gv.Dt m k i b' := ⟨mb, kb', ib, bb⟩
  have wk : w64 k = k := w64_eq (by omega) (by omega)
  have wi' : w64 i = i := w64_eq (by omega) (by omega)
  have wm : w64 m = m := w64_eq (by omega) (by omega)
  have wb' : w64 b' = b' := w64_eq (by omega) (by omega)
  simp only [wrap_w64, eg0, eg1, et0, hk, wk, u_slots, s0, et1, hi, wi', shr4_u8, we1, et2, hm, wm, ↓D0, ↓D1, ↓D2, ↓D3, ↓D4, ↓D5, ↓D6, ↓D7, ↓D8, ↓D9, U0, U1, U2, U3, U4, U5, U6, U7, U8, U9, U10, ↓reduceIte, Nat.reduceAdd, Nat.reduceMul, Nat.reduceSub, Nat.reduceEqDiff, Nat.reduceBEq, Nat.reduceLeDiff, Nat.reduceLT, Int.reduceAdd, Int.reduceMul, Int.reduceSub, Int.reduceLT, Int.reduceLE, Int.reduceToNat, Int.reduceEq, Int.reduceNe, Int.reduceBEq, Int.reduceBNe, ne_eq, eq_self]
  refine newB_intro fun x hx f3 f4 => ?_
  have hS := hS.new f3 (.cells #[.int .i64 0, .int .i64 0, .int .i64 0] 25 (0, 0))
  have hS := hS.set (.cells #[.int .i64 1, .int .i64 2, .int .i64 m] 25 (0, 0))
  rw [Ev.upd_upd] at hS
  have hx1 := hS.look
  have r0 := fun o => rd_of hx1 o
  have r1 := fun o n => rdn_of hx1 o n
  have hmay := D.may
  obtain ⟨N, hN⟩ : ∃ N : Nat, words 1 2 m = (N : Int) := ⟨(words 1 2 m).toNat, by have := words_le hmay; omega⟩
  have hN' : (N : Int) = 19 + 2 * m := by
    rw [← hN]; unfold words; rw [if_pos hmay]; omega
  have hN2 : N ≤ 2000 := by omega
  have n0 : (0 : Int) ≤ (N : Int) := by omega
  have n8 : 8 * (N : Int) ≤ 281474976710656 := by omega
  have n9 : (N : Int) ≤ 9223372036854775807 := by omega
  have nle : (N : Int) ≤ (N : Int) := Int.le_refl _
  simp only [Ev.upd_upd, hx1, r1, u_words, hN, n0, n8, n9, nle, Int.toNat_natCast, ↓D0, ↓D1, ↓D2, ↓D3, ↓D4, ↓D5, ↓D6, ↓D7, ↓D8, ↓D9, U0, U1, U2, U3, U4, U5, U6, U7, U8, U9, U10, ↓reduceIte, Nat.reduceAdd, Nat.reduceMul, Nat.reduceSub, Nat.reduceEqDiff, Nat.reduceBEq, Nat.reduceLeDiff, Nat.reduceLT, Int.reduceAdd, Int.reduceMul, Int.reduceSub, Int.reduceLT, Int.reduceLE, Int.reduceToNat, Int.reduceEq, Int.reduceNe, Int.reduceBEq, Int.reduceBNe, ne_eq, eq_self]
  refine newB_intro fun y hy f5 f6 => ?_
  have hS := hS.new f5 (.cells (urow N (gvF k b' 0)) 29 (0, 0))
  have n2 : (2 : Int) < (N : Int) := by omega
  have nyx := hS.neq 0 1 (by decide) rfl rfl
  have nxy := hS.qen 0 1 (by decide) rfl rfl
  have hsup : putPg 2 k b' = super k b' := rfl
  simp only [urow_zero, urow_size, urow_set, Ev.upd_upd, n2, nyx, nxy, wrap_w64, eg0, shr4_u8, we0, et3, hb', wb', u_putpg, hsup, gvF_zero, ↓D0, ↓D1, ↓D2, ↓D3, ↓D4, ↓D5, ↓D6, ↓D7, ↓D8, ↓D9, U0, U1, U2, U3, U4, U5, U6, U7, U8, U9, U10, ↓reduceIte, Nat.reduceAdd, Nat.reduceMul, Nat.reduceSub, Nat.reduceEqDiff, Nat.reduceBEq, Nat.reduceLeDiff, Nat.reduceLT, Int.reduceAdd, Int.reduceMul, Int.reduceSub, Int.reduceLT, Int.reduceLE, Int.reduceToNat, Int.reduceEq, Int.reduceNe, Int.reduceBEq, Int.reduceBNe, ne_eq, eq_self]
  refine ⟨by omega, ?_⟩
  refine loop_intro (gtA g0 g1 k i b' N n cap a x y (sg x (.cells #[.int .i64 1, .int .i64 2, .int .i64 m] 25 (0, 0)) :: h :: l)) (fun F' _ => (16 - iv (gt F' 11)).toNat)
    ?_ ?_
  · refine ⟨0, by omega, rfl, rfl, ⟨?_, ?_, ?_, ?_, ?_, ?_⟩, hS⟩
    all_goals rfl
  rintro F' H' ⟨j, hj, e11, e10, ⟨e0, e1, e2, e7, e8, e9⟩, hS⟩
  have hx1 := hS.lk 1 rfl
  have r0 := fun o => rd_of hx1 o
  have r1 := fun o n => rdn_of hx1 o n
  by_cases hlt : (j : Int) < slots k
  · have d1 : decide ((j : Int) < slots k) = true := decide_eq_true hlt
    have w3 : w64 (3 + (j : Int)) = 3 + (j : Int) := w64_eq (by omega) (by omega)
    have wj : w64 ((j : Int) + 1) = ((j + 1 : Nat) : Int) := by rw [w64_eq (by omega) (by omega)]; omega
    have q0 : (0 : Int) ≤ 3 + (j : Int) := by omega
    have q1 : 3 + (j : Int) < (N : Int) := by omega
    have q2 : (3 + (j : Int)).toNat = 3 + j := by omega
    have hset := hS.set (.cells (urow N (gvF k b' (j + 1))) 29 (0, 0))
    have hy1 := hS.look
    have htk : putSl 3 k = taken k := rfl
    simp only [e0, e1, e2, e7, e8, e9, e10, e11, d1, u_slots, hy1, wrap_w64, w3, wj, q0, q1, q2, u_putsl, htk, urow_size, urow_set, gvF_step, Int.toNat_natCast, ↓D0, ↓D1, ↓D2, ↓D3, ↓D4, ↓D5, ↓D6, ↓D7, ↓D8, ↓D9, U0, U1, U2, U3, U4, U5, U6, U7, U8, U9, U10, ↓reduceIte, Nat.reduceAdd, Nat.reduceMul, Nat.reduceSub, Nat.reduceEqDiff, Nat.reduceBEq, Nat.reduceLeDiff, Nat.reduceLT, Int.reduceAdd, Int.reduceMul, Int.reduceSub, Int.reduceLT, Int.reduceLE, Int.reduceToNat, Int.reduceEq, Int.reduceNe, Int.reduceBEq, Int.reduceBNe, ne_eq, eq_self]
    refine ⟨by omega, ⟨j + 1, by omega, by simp [gt], by simp [gt, e10], ⟨by simp [gt, e0], by simp [gt, e1], by simp [gt, e2], by simp [gt, e7], by simp [gt, e8], by simp [gt, e9]⟩, hset⟩, by simp [gt, iv, e11]; omega⟩
  have d1 : decide ((j : Int) < slots k) = false := decide_eq_false hlt
  have hjs : (j : Int) = slots k := by omega
  simp only [e0, e1, e2, e7, e8, e9, e10, e11, d1, u_slots, ↓D0, ↓D1, ↓D2, ↓D3, ↓D4, ↓D5, ↓D6, ↓D7, ↓D8, ↓D9, U0, U1, U2, U3, U4, U5, U6, U7, U8, U9, U10, ↓reduceIte, Nat.reduceAdd, Nat.reduceMul, Nat.reduceSub, Nat.reduceEqDiff, Nat.reduceBEq, Nat.reduceLeDiff, Nat.reduceLT, Int.reduceAdd, Int.reduceMul, Int.reduceSub, Int.reduceLT, Int.reduceLE, Int.reduceToNat, Int.reduceEq, Int.reduceNe, Int.reduceBEq, Int.reduceBNe, ne_eq, eq_self]
  refine callT_of (c_fill (n := N) hN2 (RowU.own y N _ _ _) hS) ?_
  rintro v H' ⟨b, s, rfl, hS⟩
  have hx1 := hS.lk 3 rfl
  have r0 := fun o => rd_of hx1 o
  have r1 := fun o n => rdn_of hx1 o n
  obtain ⟨o1, o2, -, -⟩ := D.off
  have wat : w64 (i * size k) = i * size k := w64_eq (by omega) (by omega)
  simp only [e0, e1, e2, e7, e8, e9, u_size, wrap_w64, wat, ↓D0, ↓D1, ↓D2, ↓D3, ↓D4, ↓D5, ↓D6, ↓D7, ↓D8, ↓D9, U0, U1, U2, U3, U4, U5, U6, U7, U8, U9, U10, ↓reduceIte, Nat.reduceAdd, Nat.reduceMul, Nat.reduceSub, Nat.reduceEqDiff, Nat.reduceBEq, Nat.reduceLeDiff, Nat.reduceLT, Int.reduceAdd, Int.reduceMul, Int.reduceSub, Int.reduceLT, Int.reduceLE, Int.reduceToNat, Int.reduceEq, Int.reduceNe, Int.reduceBEq, Int.reduceBNe, ne_eq, eq_self]
  refine draw_intro [(x, #[.int .i64 1, .int .i64 2, .int .i64 m], [])] (by simp only [hx1, ↓D0, ↓D1, ↓D2, ↓D3, ↓D4, ↓D5, ↓D6, ↓D7, ↓D8, ↓D9, U0, U1, U2, U3, U4, U5, U6, U7, U8, U9, U10, ↓reduceIte, Nat.reduceAdd, Nat.reduceMul, Nat.reduceSub, Nat.reduceEqDiff, Nat.reduceBEq, Nat.reduceLeDiff, Nat.reduceLT, Int.reduceAdd, Int.reduceMul, Int.reduceSub, Int.reduceLT, Int.reduceLE, Int.reduceToNat, Int.reduceEq, Int.reduceNe, Int.reduceBEq, Int.reduceBNe, ne_eq, eq_self]) ?_
  simp only [hx1, r1, e0, e1, e2, e7, e8, e9, ↓D0, ↓D1, ↓D2, ↓D3, ↓D4, ↓D5, ↓D6, ↓D7, ↓D8, ↓D9, U0, U1, U2, U3, U4, U5, U6, U7, U8, U9, U10, ↓reduceIte, Nat.reduceAdd, Nat.reduceMul, Nat.reduceSub, Nat.reduceEqDiff, Nat.reduceBEq, Nat.reduceLeDiff, Nat.reduceLT, Int.reduceAdd, Int.reduceMul, Int.reduceSub, Int.reduceLT, Int.reduceLE, Int.reduceToNat, Int.reduceEq, Int.reduceNe, Int.reduceBEq, Int.reduceBNe, ne_eq, eq_self]
  refine callT_of (c_gvnew (sh := ⟨1, 2, m⟩) hS) ?_
  rintro v H' ⟨ka, rfl, hS⟩
  have hx1 := hS.lk 4 rfl
  simp only [hx1, e0, e1, e2, e7, e8, e9, ↓D0, ↓D1, ↓D2, ↓D3, ↓D4, ↓D5, ↓D6, ↓D7, ↓D8, ↓D9, U0, U1, U2, U3, U4, U5, U6, U7, U8, U9, U10, ↓reduceIte, Nat.reduceAdd, Nat.reduceMul, Nat.reduceSub, Nat.reduceEqDiff, Nat.reduceBEq, Nat.reduceLeDiff, Nat.reduceLT, Int.reduceAdd, Int.reduceMul, Int.reduceSub, Int.reduceLT, Int.reduceLE, Int.reduceToNat, Int.reduceEq, Int.reduceNe, Int.reduceBEq, Int.reduceBNe, ne_eq, eq_self]
  refine callT_of (c_gvnew (sh := ⟨1, 2, m⟩) hS) ?_
  rintro v H' ⟨kb, rfl, hS⟩
  have hx1 := hS.lk 5 rfl
  obtain ⟨w0, hw0⟩ : ∃ w0, w0 = rowW N (gvF k b' j) := ⟨_, rfl⟩
  rw [← hw0] at hS
  have hof0 : w0.of ⟨1, 2, m⟩ := by rw [hw0]; exact rowW_of hN.symm fun i _ => gvF_U k b' j i
  have hG : ∀ q : Int, 0 ≤ q → q < N → w0.get q = gvF k b' j q.toNat := fun q q0 q1 => by
    rw [hw0]
    show (if q.toNat < N then gvF k b' j q.toNat else 0) = _
    rw [if_pos (by omega)]
  have g2 : w0.get 2 = super k b' := by rw [hG 2 (by decide) n2]; unfold gvF; rw [if_neg (by show ¬ (3 ≤ 2 ∧ _); omega)]; rfl
  have g3 : w0.get (3 + i) = taken k := by rw [hG _ (by omega) (by omega)]; unfold gvF; rw [if_pos (by omega)]
  have gz : ∀ c, c = 0 ∨ c = 1 → w0.get (19 + c) = 0 := fun c hc => by
    by_cases hq : 19 + c < (N : Int)
    · rw [hG _ (by omega) hq]; unfold gvF; rw [if_neg (by omega), if_neg (by omega)]
    · rw [hw0]
      show (if (19 + c).toNat < N then gvF k b' j (19 + c).toNat else 0) = _
      rw [if_neg (by omega)]
  have hT := Gv.Two.init D hof0 g2 g3 gz
  simp only [hx1, e0, e1, e2, e7, e8, e9, ↓D0, ↓D1, ↓D2, ↓D3, ↓D4, ↓D5, ↓D6, ↓D7, ↓D8, ↓D9, U0, U1, U2, U3, U4, U5, U6, U7, U8, U9, U10, ↓reduceIte, Nat.reduceAdd, Nat.reduceMul, Nat.reduceSub, Nat.reduceEqDiff, Nat.reduceBEq, Nat.reduceLeDiff, Nat.reduceLT, Int.reduceAdd, Int.reduceMul, Int.reduceSub, Int.reduceLT, Int.reduceLE, Int.reduceToNat, Int.reduceEq, Int.reduceNe, Int.reduceBEq, Int.reduceBNe, ne_eq, eq_self]
  have L0 : ∀ c : Int, (Gv.new ⟨1, 2, m⟩ c (i * size k)).left ≤ 14 := fun c => by
    unfold Gv.left
    split
    · omega
    · show m + 13 ≤ 14; omega
  refine loop_intro (gtB g0 g1 k i b' m n cap a x b ka kb s (sg x (.cells #[.int .i64 1, .int .i64 2, .int .i64 m] 25 (0, 0)) :: h :: l) false) (fun F' _ => (20 - iv (gt F' 16)).toNat) ?_ ?_
  · refine ⟨0, _, _, w0, 0, 0, by omega, by omega, rfl, ⟨?_, ?_, ?_, ?_, ?_, ?_⟩, ⟨?_, ?_, ?_⟩, hT, by rw [hw0]; show N = _; omega, ⟨L0 _, L0 _⟩, (fun h => by cases h), hS.p4.tail.nothing.p1.nothing.p3⟩
    all_goals simp [gt, e0, e1, e2, e7, e8, e9]
  rintro F' H' ⟨j, ta, tb, w, pa, pb, h0, h1, e16, ⟨e0, e1, e2, e7, e8, e9⟩, ⟨e12, e14, e15⟩, hT, hwn, hl14, -, hS⟩
  have e16 : gt F' 16 = .int .i64 j := e16
  have hwa := hT.ia
  have hwb := hT.ib
  have SN : ∀ {t : Gv} {w : Wd}, t.wf → (t.step w).2.n = w.n := fun {t w} ht => by
    rcases Gv.step_cases ht w with ⟨-, e⟩ | ⟨-, ⟨-, e⟩ | ⟨-, -, e⟩ | ⟨-, -, e⟩ | ⟨-, p, -, -, -, -, -, -, e⟩ | ⟨-, e⟩ | ⟨-, -, e⟩ | ⟨-, -, e⟩⟩ <;> rw [e] <;> try rfl
    show (p.step w).2.n = w.n
    unfold Pu.step; split
    · rfl
    split
    · rfl
    split <;> rfl
  have SL : ∀ {t : Gv} {w : Wd}, t.wf → t.left ≤ 14 → (t.step w).1.left ≤ 14 := fun {t w} ht hl => by
    have := gv_left (w := w) (m := 14) ht (by omega); omega
  have ofa : ta.dn = false → w.of ta.s := fun _ => by rw [hwa.s]; exact hT.of
  have ofb : tb.dn = false → w.of tb.s := fun _ => by rw [hwb.s]; exact hT.of
  by_cases hlt : j < 20
  · have d1 : decide (j < 20) = true := decide_eq_true hlt
    have wi : w64 (j + 1) = j + 1 := w64_eq (by omega) (by omega)
    cases hturn : (decide (j < (n : Int)) && B j.toNat)
    · cases hd : decide (j < (n : Int))
      · simp only [e16, e0, e1, e2, e7, e8, e9, e12, e14, e15, d1, hd, ↓D0, ↓D1, ↓D2, ↓D3, ↓D4, ↓D5, ↓D6, ↓D7, ↓D8, ↓D9, U0, U1, U2, U3, U4, U5, U6, U7, U8, U9, U10, ↓reduceIte, Nat.reduceAdd, Nat.reduceMul, Nat.reduceSub, Nat.reduceEqDiff, Nat.reduceBEq, Nat.reduceLeDiff, Nat.reduceLT, Int.reduceAdd, Int.reduceMul, Int.reduceSub, Int.reduceLT, Int.reduceLE, Int.reduceToNat, Int.reduceEq, Int.reduceNe, Int.reduceBEq, Int.reduceBNe, ne_eq, eq_self]
        refine callT_of (c_gvstep hwa.wf ofa hS.p3.p3.p5.p5.p5.p5) ?_
        rintro v H' ⟨rfl, pa2, hS⟩
        simp only [e16, e0, e1, e2, e7, e8, e9, e12, e14, e15, wrap_w64, wi, ↓D0, ↓D1, ↓D2, ↓D3, ↓D4, ↓D5, ↓D6, ↓D7, ↓D8, ↓D9, U0, U1, U2, U3, U4, U5, U6, U7, U8, U9, U10, ↓reduceIte, Nat.reduceAdd, Nat.reduceMul, Nat.reduceSub, Nat.reduceEqDiff, Nat.reduceBEq, Nat.reduceLeDiff, Nat.reduceLT, Int.reduceAdd, Int.reduceMul, Int.reduceSub, Int.reduceLT, Int.reduceLE, Int.reduceToNat, Int.reduceEq, Int.reduceNe, Int.reduceBEq, Int.reduceBNe, ne_eq, eq_self]
        exact ⟨⟨j + 1, _, _, _, pa2, pb, by omega, by omega, by simp [gt], ⟨by simp [gt, e0], by simp [gt, e1], by simp [gt, e2], by simp [gt, e7], by simp [gt, e8], by simp [gt, e9]⟩, ⟨by simp [gt, e12], by simp [gt, e14], by simp [gt, e15]⟩, hT.step, (SN hwa.wf).trans hwn, ⟨SL hwa.wf hl14.1, hl14.2⟩, (fun h => by cases h), hS.p3.p3.p5.p5.p5.p5⟩, by simp [gt, iv, e16]; omega⟩
      · have hlt2 : j < (n : Int) := of_decide_eq_true hd
        have hB : B j.toNat = false := by rw [hd] at hturn; simpa using hturn
        obtain ⟨xb, xo, rfl, hrd⟩ := (hr.sub (hS.sb h (by simp))).at' (i := j.toNat) (by omega)
        rw [hB] at hrd
        simp only [e16, e0, e1, e2, e7, e8, e9, e12, e14, e15, d1, hd, h0, hlt2, hrd, ↓D0, ↓D1, ↓D2, ↓D3, ↓D4, ↓D5, ↓D6, ↓D7, ↓D8, ↓D9, U0, U1, U2, U3, U4, U5, U6, U7, U8, U9, U10, ↓reduceIte, Nat.reduceAdd, Nat.reduceMul, Nat.reduceSub, Nat.reduceEqDiff, Nat.reduceBEq, Nat.reduceLeDiff, Nat.reduceLT, Int.reduceAdd, Int.reduceMul, Int.reduceSub, Int.reduceLT, Int.reduceLE, Int.reduceToNat, Int.reduceEq, Int.reduceNe, Int.reduceBEq, Int.reduceBNe, ne_eq, eq_self]
        refine callT_of (c_gvstep hwa.wf ofa hS.p3.p3.p5.p5.p5.p5) ?_
        rintro v H' ⟨rfl, pa2, hS⟩
        simp only [e16, e0, e1, e2, e7, e8, e9, e12, e14, e15, wrap_w64, wi, ↓D0, ↓D1, ↓D2, ↓D3, ↓D4, ↓D5, ↓D6, ↓D7, ↓D8, ↓D9, U0, U1, U2, U3, U4, U5, U6, U7, U8, U9, U10, ↓reduceIte, Nat.reduceAdd, Nat.reduceMul, Nat.reduceSub, Nat.reduceEqDiff, Nat.reduceBEq, Nat.reduceLeDiff, Nat.reduceLT, Int.reduceAdd, Int.reduceMul, Int.reduceSub, Int.reduceLT, Int.reduceLE, Int.reduceToNat, Int.reduceEq, Int.reduceNe, Int.reduceBEq, Int.reduceBNe, ne_eq, eq_self]
        exact ⟨⟨j + 1, _, _, _, pa2, pb, by omega, by omega, by simp [gt], ⟨by simp [gt, e0], by simp [gt, e1], by simp [gt, e2], by simp [gt, e7], by simp [gt, e8], by simp [gt, e9]⟩, ⟨by simp [gt, e12], by simp [gt, e14], by simp [gt, e15]⟩, hT.step, (SN hwa.wf).trans hwn, ⟨SL hwa.wf hl14.1, hl14.2⟩, (fun h => by cases h), hS.p3.p3.p5.p5.p5.p5⟩, by simp [gt, iv, e16]; omega⟩
    · rw [Bool.and_eq_true] at hturn
      obtain ⟨hd, hB⟩ := hturn
      have hlt2 : j < (n : Int) := of_decide_eq_true hd
      obtain ⟨xb, xo, rfl, hrd⟩ := (hr.sub (hS.sb h (by simp))).at' (i := j.toNat) (by omega)
      rw [hB] at hrd
      simp only [e16, e0, e1, e2, e7, e8, e9, e12, e14, e15, d1, hd, h0, hlt2, hrd, ↓D0, ↓D1, ↓D2, ↓D3, ↓D4, ↓D5, ↓D6, ↓D7, ↓D8, ↓D9, U0, U1, U2, U3, U4, U5, U6, U7, U8, U9, U10, ↓reduceIte, Nat.reduceAdd, Nat.reduceMul, Nat.reduceSub, Nat.reduceEqDiff, Nat.reduceBEq, Nat.reduceLeDiff, Nat.reduceLT, Int.reduceAdd, Int.reduceMul, Int.reduceSub, Int.reduceLT, Int.reduceLE, Int.reduceToNat, Int.reduceEq, Int.reduceNe, Int.reduceBEq, Int.reduceBNe, ne_eq, eq_self]
      refine callT_of (c_gvstep hwb.wf ofb hS.p1.p1.p5.p5.p5.p5) ?_
      rintro v H' ⟨rfl, pb2, hS⟩
      simp only [e16, e0, e1, e2, e7, e8, e9, e12, e14, e15, wrap_w64, wi, ↓D0, ↓D1, ↓D2, ↓D3, ↓D4, ↓D5, ↓D6, ↓D7, ↓D8, ↓D9, U0, U1, U2, U3, U4, U5, U6, U7, U8, U9, U10, ↓reduceIte, Nat.reduceAdd, Nat.reduceMul, Nat.reduceSub, Nat.reduceEqDiff, Nat.reduceBEq, Nat.reduceLeDiff, Nat.reduceLT, Int.reduceAdd, Int.reduceMul, Int.reduceSub, Int.reduceLT, Int.reduceLE, Int.reduceToNat, Int.reduceEq, Int.reduceNe, Int.reduceBEq, Int.reduceBNe, ne_eq, eq_self]
      exact ⟨⟨j + 1, _, _, _, pa, pb2, by omega, by omega, by simp [gt], ⟨by simp [gt, e0], by simp [gt, e1], by simp [gt, e2], by simp [gt, e7], by simp [gt, e8], by simp [gt, e9]⟩, ⟨by simp [gt, e12], by simp [gt, e14], by simp [gt, e15]⟩, hT.step2, (SN hwb.wf).trans hwn, ⟨hl14.1, SL hwb.wf hl14.2⟩, (fun h => by cases h), hS.p3.p3.p3.p3.p5.p5⟩, by simp [gt, iv, e16]; omega⟩
  have d1 : decide (j < 20) = false := decide_eq_false hlt
  simp only [e16, e0, e1, e2, e7, e8, e9, e12, e14, e15, d1, ↓D0, ↓D1, ↓D2, ↓D3, ↓D4, ↓D5, ↓D6, ↓D7, ↓D8, ↓D9, U0, U1, U2, U3, U4, U5, U6, U7, U8, U9, U10, ↓reduceIte, Nat.reduceAdd, Nat.reduceMul, Nat.reduceSub, Nat.reduceEqDiff, Nat.reduceBEq, Nat.reduceLeDiff, Nat.reduceLT, Int.reduceAdd, Int.reduceMul, Int.reduceSub, Int.reduceLT, Int.reduceLE, Int.reduceToNat, Int.reduceEq, Int.reduceNe, Int.reduceBEq, Int.reduceBNe, ne_eq, eq_self]
  refine loop_intro (gtB g0 g1 k i b' m n cap a x b ka kb s (sg x (.cells #[.int .i64 1, .int .i64 2, .int .i64 m] 25 (0, 0)) :: h :: l) true) (fun F' _ => (20 - iv (gt F' 17)).toNat)
    ⟨0, ta, tb, w, pa, pb, by omega, by omega, rfl, ⟨by simp [gt, e0], by simp [gt, e1], by simp [gt, e2], by simp [gt, e7], by simp [gt, e8], by simp [gt, e9]⟩, ⟨by simp [gt, e12], by simp [gt, e14], by simp [gt, e15]⟩, hT, hwn, hl14, fun _ => by omega, hS⟩ ?_
  clear e16 ofa ofb hwa hwb hl14
  rintro F' H' ⟨j, ta, tb, w, pa, pb, h0, h1, e17, ⟨e0, e1, e2, e7, e8, e9⟩, ⟨e12, e14, e15⟩, hT, hwn, hl14, hl, hS⟩
  have e17 : gt F' 17 = .int .i64 j := e17
  obtain ⟨l1, l2⟩ := hl rfl
  have hwa := hT.ia
  have hwb := hT.ib
  by_cases hlt : j < 20
  · have d1 : decide (j < 20) = true := decide_eq_true hlt
    have wi : w64 (j + 1) = j + 1 := w64_eq (by omega) (by omega)
    simp only [e17, e0, e1, e2, e7, e8, e9, e12, e14, e15, d1, ↓D0, ↓D1, ↓D2, ↓D3, ↓D4, ↓D5, ↓D6, ↓D7, ↓D8, ↓D9, U0, U1, U2, U3, U4, U5, U6, U7, U8, U9, U10, ↓reduceIte, Nat.reduceAdd, Nat.reduceMul, Nat.reduceSub, Nat.reduceEqDiff, Nat.reduceBEq, Nat.reduceLeDiff, Nat.reduceLT, Int.reduceAdd, Int.reduceMul, Int.reduceSub, Int.reduceLT, Int.reduceLE, Int.reduceToNat, Int.reduceEq, Int.reduceNe, Int.reduceBEq, Int.reduceBNe, ne_eq, eq_self]
    refine callT_of (c_gvstep hwa.wf (fun _ => by rw [hwa.s]; exact hT.of) hS.p3.p3.p5.p5.p5.p5) ?_
    rintro v H' ⟨rfl, pa2, hS⟩
    have hT2 := hT.step
    simp only [e17, e0, e1, e2, e7, e8, e9, e12, e14, e15, ↓D0, ↓D1, ↓D2, ↓D3, ↓D4, ↓D5, ↓D6, ↓D7, ↓D8, ↓D9, U0, U1, U2, U3, U4, U5, U6, U7, U8, U9, U10, ↓reduceIte, Nat.reduceAdd, Nat.reduceMul, Nat.reduceSub, Nat.reduceEqDiff, Nat.reduceBEq, Nat.reduceLeDiff, Nat.reduceLT, Int.reduceAdd, Int.reduceMul, Int.reduceSub, Int.reduceLT, Int.reduceLE, Int.reduceToNat, Int.reduceEq, Int.reduceNe, Int.reduceBEq, Int.reduceBNe, ne_eq, eq_self]
    refine callT_of (c_gvstep hT2.ib.wf (fun _ => by rw [hT2.ib.s]; exact hT2.of) hS.p3.p3.p5.p5.p5.p5.p1.p1.p5.p5.p5.p5) ?_
    rintro v H' ⟨rfl, pb2, hS⟩
    simp only [e17, e0, e1, e2, e7, e8, e9, e12, e14, e15, wrap_w64, wi, ↓D0, ↓D1, ↓D2, ↓D3, ↓D4, ↓D5, ↓D6, ↓D7, ↓D8, ↓D9, U0, U1, U2, U3, U4, U5, U6, U7, U8, U9, U10, ↓reduceIte, Nat.reduceAdd, Nat.reduceMul, Nat.reduceSub, Nat.reduceEqDiff, Nat.reduceBEq, Nat.reduceLeDiff, Nat.reduceLT, Int.reduceAdd, Int.reduceMul, Int.reduceSub, Int.reduceLT, Int.reduceLE, Int.reduceToNat, Int.reduceEq, Int.reduceNe, Int.reduceBEq, Int.reduceBNe, ne_eq, eq_self]
    refine ⟨⟨j + 1, _, _, _, pa2, pb2, by omega, by omega, by simp [gt], ⟨by simp [gt, e0], by simp [gt, e1], by simp [gt, e2], by simp [gt, e7], by simp [gt, e8], by simp [gt, e9]⟩, ⟨by simp [gt, e12], by simp [gt, e14], by simp [gt, e15]⟩, hT2.step2, (SN hT2.ib.wf).trans ((SN hwa.wf).trans hwn), ⟨SL hwa.wf hl14.1, SL hT2.ib.wf hl14.2⟩, fun _ => ⟨?_, ?_⟩, hS.p3.p3.p3.p3.p5.p5⟩, by simp [gt, iv, e17]; omega⟩
    · have := gv_left (w := w) hwa.wf l1; omega
    · have := gv_left (w := (ta.step w).2) hwb.wf l2; omega
  have d1 : decide (j < 20) = false := decide_eq_false hlt
  have dA : ta.dn = true := Gv.left_dn hwa.wf (by have := Gv.left_nn hwa.wf; omega)
  have dB : tb.dn = true := Gv.left_dn hwb.wf (by have := Gv.left_nn hwb.wf; omega)
  have tf : (true == false) = false := rfl
  have ft : (false == true) = false := rfl
  have w3 : w64 (3 + i) = 3 + i := w64_eq (by have := D.sl; omega) (by have := D.sl; omega)
  have hwn' : (w.n : Int) = 19 + 2 * m := by omega
  have hin : 3 + i < (w.n : Int) := by have := D.sl; omega
  have hone := hT.one dA dB
  simp only [e17, e0, e1, e2, e7, e8, e9, e12, e14, e15, d1, ↓D0, ↓D1, ↓D2, ↓D3, ↓D4, ↓D5, ↓D6, ↓D7, ↓D8, ↓D9, U0, U1, U2, U3, U4, U5, U6, U7, U8, U9, U10, ↓reduceIte, Nat.reduceAdd, Nat.reduceMul, Nat.reduceSub, Nat.reduceEqDiff, Nat.reduceBEq, Nat.reduceLeDiff, Nat.reduceLT, Int.reduceAdd, Int.reduceMul, Int.reduceSub, Int.reduceLT, Int.reduceLE, Int.reduceToNat, Int.reduceEq, Int.reduceNe, Int.reduceBEq, Int.reduceBNe, ne_eq, eq_self]
  refine callT_of (c_gvdone hS) ?_
  rintro v H' ⟨rfl, hS⟩
  simp only [e17, e0, e1, e2, e7, e8, e9, e12, e14, e15, dA, ↓D0, ↓D1, ↓D2, ↓D3, ↓D4, ↓D5, ↓D6, ↓D7, ↓D8, ↓D9, U0, U1, U2, U3, U4, U5, U6, U7, U8, U9, U10, ↓reduceIte, Nat.reduceAdd, Nat.reduceMul, Nat.reduceSub, Nat.reduceEqDiff, Nat.reduceBEq, Nat.reduceLeDiff, Nat.reduceLT, Int.reduceAdd, Int.reduceMul, Int.reduceSub, Int.reduceLT, Int.reduceLE, Int.reduceToNat, Int.reduceEq, Int.reduceNe, Int.reduceBEq, Int.reduceBNe, ne_eq, eq_self]
  refine callT_of (c_gvdone hS.p2) ?_
  rintro v H' ⟨rfl, hS⟩
  simp only [e17, e0, e1, e2, e7, e8, e9, e12, e14, e15, dB, ↓D0, ↓D1, ↓D2, ↓D3, ↓D4, ↓D5, ↓D6, ↓D7, ↓D8, ↓D9, U0, U1, U2, U3, U4, U5, U6, U7, U8, U9, U10, ↓reduceIte, Nat.reduceAdd, Nat.reduceMul, Nat.reduceSub, Nat.reduceEqDiff, Nat.reduceBEq, Nat.reduceLeDiff, Nat.reduceLT, Int.reduceAdd, Int.reduceMul, Int.reduceSub, Int.reduceLT, Int.reduceLE, Int.reduceToNat, Int.reduceEq, Int.reduceNe, Int.reduceBEq, Int.reduceBNe, ne_eq, eq_self]
  refine callT_of (c_gvgave hS.p1) ?_
  rintro v H' ⟨rfl, hS⟩
  simp only [e17, e0, e1, e2, e7, e8, e9, e12, e14, e15, ↓D0, ↓D1, ↓D2, ↓D3, ↓D4, ↓D5, ↓D6, ↓D7, ↓D8, ↓D9, U0, U1, U2, U3, U4, U5, U6, U7, U8, U9, U10, ↓reduceIte, Nat.reduceAdd, Nat.reduceMul, Nat.reduceSub, Nat.reduceEqDiff, Nat.reduceBEq, Nat.reduceLeDiff, Nat.reduceLT, Int.reduceAdd, Int.reduceMul, Int.reduceSub, Int.reduceLT, Int.reduceLE, Int.reduceToNat, Int.reduceEq, Int.reduceNe, Int.reduceBEq, Int.reduceBNe, ne_eq, eq_self]
  refine callT_of (c_gvgave hS.p1) ?_
  rintro v H' ⟨rfl, hS⟩
  have M0 : m = 1 → mag 1 2 m 0 0 = 19 := fun h => by have := Gv.mag_place (c := 0) D h (by decide); omega
  have M1 : m = 1 → mag 1 2 m 1 0 = 20 := fun h => by have := Gv.mag_place (c := 1) D h (by decide); omega
  rcases hone with ⟨ga, gb, hh⟩ | ⟨gb, ga, hh⟩
  · simp only [e17, e0, e1, e2, e7, e8, e9, e12, e14, e15, ga, gb, tf, ft, ↓D0, ↓D1, ↓D2, ↓D3, ↓D4, ↓D5, ↓D6, ↓D7, ↓D8, ↓D9, U0, U1, U2, U3, U4, U5, U6, U7, U8, U9, U10, ↓reduceIte, Nat.reduceAdd, Nat.reduceMul, Nat.reduceSub, Nat.reduceEqDiff, Nat.reduceBEq, Nat.reduceLeDiff, Nat.reduceLT, Int.reduceAdd, Int.reduceMul, Int.reduceSub, Int.reduceLT, Int.reduceLE, Int.reduceToNat, Int.reduceEq, Int.reduceNe, Int.reduceBEq, Int.reduceBNe, ne_eq, eq_self]
    refine callT_of (c_gvgave hS) ?_
    rintro v H' ⟨rfl, hS⟩
    simp only [e17, e0, e1, e2, e7, e8, e9, e12, e14, e15, ga, gb, wrap_w64, w3, ↓D0, ↓D1, ↓D2, ↓D3, ↓D4, ↓D5, ↓D6, ↓D7, ↓D8, ↓D9, U0, U1, U2, U3, U4, U5, U6, U7, U8, U9, U10, ↓reduceIte, Nat.reduceAdd, Nat.reduceMul, Nat.reduceSub, Nat.reduceEqDiff, Nat.reduceBEq, Nat.reduceLeDiff, Nat.reduceLT, Int.reduceAdd, Int.reduceMul, Int.reduceSub, Int.reduceLT, Int.reduceLE, Int.reduceToNat, Int.reduceEq, Int.reduceNe, Int.reduceBEq, Int.reduceBNe, ne_eq, eq_self]
    refine callT_of (c_look (3 + i) (by omega) hin hS.p4.p5.p1) ?_
    rintro v H' ⟨rfl, hS⟩
    have hx1 := hS.lk 6 rfl
    have r0 := fun o => rd_of hx1 o
    have r1 := fun o n => rdn_of hx1 o n
    rcases hh with ⟨hB, hm1, hx3, hxe⟩ | ⟨hno, hx3⟩
    · have gB : ((0 : Int) == b') = true := beq_iff_eq.2 hB
      have gm : (m == 1) = true := beq_iff_eq.2 hm1
      have hM := M0 hm1
      simp only [e17, e0, e1, e2, e7, e8, e9, e12, e14, e15, wrap_w64, eg0, shr4_u8, we0, et3, hb', wb', gB, gm, hx1, r0, r1, u_mag, hM, ↓D0, ↓D1, ↓D2, ↓D3, ↓D4, ↓D5, ↓D6, ↓D7, ↓D8, ↓D9, U0, U1, U2, U3, U4, U5, U6, U7, U8, U9, U10, ↓reduceIte, Nat.reduceAdd, Nat.reduceMul, Nat.reduceSub, Nat.reduceEqDiff, Nat.reduceBEq, Nat.reduceLeDiff, Nat.reduceLT, Int.reduceAdd, Int.reduceMul, Int.reduceSub, Int.reduceLT, Int.reduceLE, Int.reduceToNat, Int.reduceEq, Int.reduceNe, Int.reduceBEq, Int.reduceBNe, ne_eq, eq_self]
      refine callT_of (c_look 19 (by decide) (by omega) hS) ?_
      rintro v H' ⟨rfl, hS⟩
      have hx3' : w.get (3 + i) = putSl 2 0 := hx3
      simp only [e17, e0, e1, e2, e7, e8, e9, e12, e14, e15, u_putsl, u_puten, hx3', hxe, ↓D0, ↓D1, ↓D2, ↓D3, ↓D4, ↓D5, ↓D6, ↓D7, ↓D8, ↓D9, U0, U1, U2, U3, U4, U5, U6, U7, U8, U9, U10, ↓reduceIte, Nat.reduceAdd, Nat.reduceMul, Nat.reduceSub, Nat.reduceEqDiff, Nat.reduceBEq, Nat.reduceLeDiff, Nat.reduceLT, Int.reduceAdd, Int.reduceMul, Int.reduceSub, Int.reduceLT, Int.reduceLE, Int.reduceToNat, Int.reduceEq, Int.reduceNe, Int.reduceBEq, Int.reduceBNe, ne_eq, eq_self]
      first | exact hS.tail.tail.tail.tail.tail.tail.tail | exact ⟨rfl, hS.tail.tail.tail.tail.tail.tail.tail⟩
    · by_cases hB : 0 = b'
      · have gB : ((0 : Int) == b') = true := beq_iff_eq.2 hB
        have gm : (m == 1) = false := beq_eq_false_iff_ne.2 fun h => hno ⟨hB, h⟩
        have hx3' : w.get (3 + i) = putSl 1 k := hx3
        simp only [e17, e0, e1, e2, e7, e8, e9, e12, e14, e15, wrap_w64, eg0, shr4_u8, we0, et3, hb', wb', gB, gm, hx1, r0, u_putsl, hx3', ↓D0, ↓D1, ↓D2, ↓D3, ↓D4, ↓D5, ↓D6, ↓D7, ↓D8, ↓D9, U0, U1, U2, U3, U4, U5, U6, U7, U8, U9, U10, ↓reduceIte, Nat.reduceAdd, Nat.reduceMul, Nat.reduceSub, Nat.reduceEqDiff, Nat.reduceBEq, Nat.reduceLeDiff, Nat.reduceLT, Int.reduceAdd, Int.reduceMul, Int.reduceSub, Int.reduceLT, Int.reduceLE, Int.reduceToNat, Int.reduceEq, Int.reduceNe, Int.reduceBEq, Int.reduceBNe, ne_eq, eq_self]
        first | exact hS.tail.tail.tail.tail.tail.tail.tail | exact ⟨rfl, hS.tail.tail.tail.tail.tail.tail.tail⟩
      · have gB : ((0 : Int) == b') = false := beq_eq_false_iff_ne.2 hB
        have hx3' : w.get (3 + i) = putSl 1 k := hx3
        simp only [e17, e0, e1, e2, e7, e8, e9, e12, e14, e15, wrap_w64, eg0, shr4_u8, we0, et3, hb', wb', gB, hx1, r0, u_putsl, hx3', ↓D0, ↓D1, ↓D2, ↓D3, ↓D4, ↓D5, ↓D6, ↓D7, ↓D8, ↓D9, U0, U1, U2, U3, U4, U5, U6, U7, U8, U9, U10, ↓reduceIte, Nat.reduceAdd, Nat.reduceMul, Nat.reduceSub, Nat.reduceEqDiff, Nat.reduceBEq, Nat.reduceLeDiff, Nat.reduceLT, Int.reduceAdd, Int.reduceMul, Int.reduceSub, Int.reduceLT, Int.reduceLE, Int.reduceToNat, Int.reduceEq, Int.reduceNe, Int.reduceBEq, Int.reduceBNe, ne_eq, eq_self]
        first | exact hS.tail.tail.tail.tail.tail.tail.tail | exact ⟨rfl, hS.tail.tail.tail.tail.tail.tail.tail⟩
  · simp only [e17, e0, e1, e2, e7, e8, e9, e12, e14, e15, ga, gb, tf, ft, ↓D0, ↓D1, ↓D2, ↓D3, ↓D4, ↓D5, ↓D6, ↓D7, ↓D8, ↓D9, U0, U1, U2, U3, U4, U5, U6, U7, U8, U9, U10, ↓reduceIte, Nat.reduceAdd, Nat.reduceMul, Nat.reduceSub, Nat.reduceEqDiff, Nat.reduceBEq, Nat.reduceLeDiff, Nat.reduceLT, Int.reduceAdd, Int.reduceMul, Int.reduceSub, Int.reduceLT, Int.reduceLE, Int.reduceToNat, Int.reduceEq, Int.reduceNe, Int.reduceBEq, Int.reduceBNe, ne_eq, eq_self]
    refine callT_of (c_gvgave hS) ?_
    rintro v H' ⟨rfl, hS⟩
    simp only [e17, e0, e1, e2, e7, e8, e9, e12, e14, e15, ga, gb, wrap_w64, w3, ↓D0, ↓D1, ↓D2, ↓D3, ↓D4, ↓D5, ↓D6, ↓D7, ↓D8, ↓D9, U0, U1, U2, U3, U4, U5, U6, U7, U8, U9, U10, ↓reduceIte, Nat.reduceAdd, Nat.reduceMul, Nat.reduceSub, Nat.reduceEqDiff, Nat.reduceBEq, Nat.reduceLeDiff, Nat.reduceLT, Int.reduceAdd, Int.reduceMul, Int.reduceSub, Int.reduceLT, Int.reduceLE, Int.reduceToNat, Int.reduceEq, Int.reduceNe, Int.reduceBEq, Int.reduceBNe, ne_eq, eq_self]
    refine callT_of (c_look (3 + i) (by omega) hin hS.p4.p5.p1) ?_
    rintro v H' ⟨rfl, hS⟩
    have hx1 := hS.lk 6 rfl
    have r0 := fun o => rd_of hx1 o
    have r1 := fun o n => rdn_of hx1 o n
    rcases hh with ⟨hB, hm1, hx3, hxe⟩ | ⟨hno, hx3⟩
    · have gB : ((1 : Int) == b') = true := beq_iff_eq.2 hB
      have gm : (m == 1) = true := beq_iff_eq.2 hm1
      have hM := M1 hm1
      simp only [e17, e0, e1, e2, e7, e8, e9, e12, e14, e15, wrap_w64, eg0, shr4_u8, we0, et3, hb', wb', gB, gm, hx1, r0, r1, u_mag, hM, ↓D0, ↓D1, ↓D2, ↓D3, ↓D4, ↓D5, ↓D6, ↓D7, ↓D8, ↓D9, U0, U1, U2, U3, U4, U5, U6, U7, U8, U9, U10, ↓reduceIte, Nat.reduceAdd, Nat.reduceMul, Nat.reduceSub, Nat.reduceEqDiff, Nat.reduceBEq, Nat.reduceLeDiff, Nat.reduceLT, Int.reduceAdd, Int.reduceMul, Int.reduceSub, Int.reduceLT, Int.reduceLE, Int.reduceToNat, Int.reduceEq, Int.reduceNe, Int.reduceBEq, Int.reduceBNe, ne_eq, eq_self]
      refine callT_of (c_look 20 (by decide) (by omega) hS) ?_
      rintro v H' ⟨rfl, hS⟩
      have hx3' : w.get (3 + i) = putSl 2 1 := hx3
      simp only [e17, e0, e1, e2, e7, e8, e9, e12, e14, e15, u_putsl, u_puten, hx3', hxe, ↓D0, ↓D1, ↓D2, ↓D3, ↓D4, ↓D5, ↓D6, ↓D7, ↓D8, ↓D9, U0, U1, U2, U3, U4, U5, U6, U7, U8, U9, U10, ↓reduceIte, Nat.reduceAdd, Nat.reduceMul, Nat.reduceSub, Nat.reduceEqDiff, Nat.reduceBEq, Nat.reduceLeDiff, Nat.reduceLT, Int.reduceAdd, Int.reduceMul, Int.reduceSub, Int.reduceLT, Int.reduceLE, Int.reduceToNat, Int.reduceEq, Int.reduceNe, Int.reduceBEq, Int.reduceBNe, ne_eq, eq_self]
      first | exact hS.tail.tail.tail.tail.tail.tail.tail | exact ⟨rfl, hS.tail.tail.tail.tail.tail.tail.tail⟩
    · by_cases hB : 1 = b'
      · have gB : ((1 : Int) == b') = true := beq_iff_eq.2 hB
        have gm : (m == 1) = false := beq_eq_false_iff_ne.2 fun h => hno ⟨hB, h⟩
        have hx3' : w.get (3 + i) = putSl 1 k := hx3
        simp only [e17, e0, e1, e2, e7, e8, e9, e12, e14, e15, wrap_w64, eg0, shr4_u8, we0, et3, hb', wb', gB, gm, hx1, r0, u_putsl, hx3', ↓D0, ↓D1, ↓D2, ↓D3, ↓D4, ↓D5, ↓D6, ↓D7, ↓D8, ↓D9, U0, U1, U2, U3, U4, U5, U6, U7, U8, U9, U10, ↓reduceIte, Nat.reduceAdd, Nat.reduceMul, Nat.reduceSub, Nat.reduceEqDiff, Nat.reduceBEq, Nat.reduceLeDiff, Nat.reduceLT, Int.reduceAdd, Int.reduceMul, Int.reduceSub, Int.reduceLT, Int.reduceLE, Int.reduceToNat, Int.reduceEq, Int.reduceNe, Int.reduceBEq, Int.reduceBNe, ne_eq, eq_self]
        first | exact hS.tail.tail.tail.tail.tail.tail.tail | exact ⟨rfl, hS.tail.tail.tail.tail.tail.tail.tail⟩
      · have gB : ((1 : Int) == b') = false := beq_eq_false_iff_ne.2 hB
        have hx3' : w.get (3 + i) = putSl 1 k := hx3
        simp only [e17, e0, e1, e2, e7, e8, e9, e12, e14, e15, wrap_w64, eg0, shr4_u8, we0, et3, hb', wb', gB, hx1, r0, u_putsl, hx3', ↓D0, ↓D1, ↓D2, ↓D3, ↓D4, ↓D5, ↓D6, ↓D7, ↓D8, ↓D9, U0, U1, U2, U3, U4, U5, U6, U7, U8, U9, U10, ↓reduceIte, Nat.reduceAdd, Nat.reduceMul, Nat.reduceSub, Nat.reduceEqDiff, Nat.reduceBEq, Nat.reduceLeDiff, Nat.reduceLT, Int.reduceAdd, Int.reduceMul, Int.reduceSub, Int.reduceLT, Int.reduceLE, Int.reduceToNat, Int.reduceEq, Int.reduceNe, Int.reduceBEq, Int.reduceBNe, ne_eq, eq_self]
        first | exact hS.tail.tail.tail.tail.tail.tail.tail | exact ⟨rfl, hS.tail.tail.tail.tail.tail.tail.tail⟩
end
theorem l_givetwo {W : World} {a : Option Addr} {n cap : Nat} {B : Nat → Bool} (g0 : Int) (hg : 0 ≤ g0 ∧ g0 ≤ 255) (g1 : Int) (hk : 0 ≤ g1 ∧ g1 ≤ 255) (hn : n ≤ 9223372036854775807) (hr : RowV (memOf W) a n (fun i => .bool (B i))) :
    CallP Try.prog W 5 #[.int .u8 g0, .int .u8 g1, .slice a n cap] (memOf W) fun v H' => v = .bool true ∧ Sub (memOf W) H' :=
  (c_givetwo hg.1 hg.2 hk.1 hk.2 hr (Sep.one _)).mono fun v H' ⟨h1, h2⟩ => ⟨h1, h2.head⟩
end Go.Proofs.Ytbehnodllajnjaa
