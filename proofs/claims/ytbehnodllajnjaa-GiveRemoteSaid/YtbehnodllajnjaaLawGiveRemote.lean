/-
  GiveRemote, walked: who gives back a slot of a page that client 1 bound. Conditions: none.
-/
import Derived.Test.YtbehnodllajnjaaLawGiveTwo
import Derived.Test.YtbehnodllajnjaaMaRemote2
set_option linter.unusedVariables false
set_option linter.unusedSimpArgs false
set_option maxRecDepth 8000
namespace Go.Proofs.Ytbehnodllajnjaa
open Go Go.Ev Go.Pl Go.Ma

/-- The entries from t on are written, behind o words. -/
def mgF (f : Nat → Int) (o M : Nat) (B : Nat → Bool) (t : Nat) : Nat → Int := fun q => if o + t ≤ q ∧ q < o + M ∧ B (q - o) = true then 1 else f q
theorem mgF_U {f : Nat → Int} (hf : ∀ q, U (f q)) (o M : Nat) (B : Nat → Bool) (t q : Nat) : U (mgF f o M B t q) := by
  unfold mgF; split
  · exact ⟨by decide, by decide⟩
  · exact hf q
theorem mgF_top (f : Nat → Int) (o M : Nat) (B : Nat → Bool) : f = mgF f o M B M := by
  funext q; unfold mgF; rw [if_neg (by omega)]
theorem mgF_yes (f : Nat → Int) (o M : Nat) (B : Nat → Bool) (t : Nat) (ht : t < M) (h : B t = true) : (fun q => if q = o + t then 1 else mgF f o M B (t + 1) q) = mgF f o M B t := by
  funext q; unfold mgF
  by_cases hq : q = o + t
  · rw [if_pos hq, if_pos ⟨by omega, by omega, by rw [hq, Nat.add_sub_cancel_left]; exact h⟩]
  · rw [if_neg hq]
    by_cases h2 : o + t ≤ q ∧ q < o + M ∧ B (q - o) = true
    · rw [if_pos h2, if_pos ⟨by omega, h2.2⟩]
    · rw [if_neg h2, if_neg (fun h3 => h2 ⟨by omega, h3.2⟩)]
theorem mgF_no (f : Nat → Int) (o M : Nat) (B : Nat → Bool) (t : Nat) (h : B t = false) : mgF f o M B (t + 1) = mgF f o M B t := by
  funext q; unfold mgF
  by_cases h2 : o + t ≤ q ∧ q < o + M ∧ B (q - o) = true
  · rw [if_pos h2, if_pos ⟨by
      have : q ≠ o + t := fun e => by have := h2.2.2; rw [e, Nat.add_sub_cancel_left, h] at this; cases this
      omega, h2.2⟩]
  · rw [if_neg h2, if_neg (fun h3 => h2 ⟨by omega, h3.2⟩)]
/-- The first one from t on that is empty, or none. -/
def Fs (B : Nat → Bool) (M t : Nat) (fr : Int) : Prop := (fr = -1 ∧ ∀ j, t ≤ j → j < M → B j = true) ∨ (∃ f : Nat, fr = (f : Int) ∧ t ≤ f ∧ f < M ∧ B f = false ∧ ∀ j, t ≤ j → j < f → B j = true)
theorem Fs.yes {B : Nat → Bool} {M t : Nat} {fr : Int} (h : Fs B M (t + 1) fr) (hb : B t = true) : Fs B M t fr := by
  rcases h with ⟨h1, h2⟩ | ⟨f, h1, h2, h3, h4, h5⟩
  · exact .inl ⟨h1, fun j a c => by by_cases e : j = t; rw [e]; exact hb; exact h2 j (by omega) c⟩
  · exact .inr ⟨f, h1, by omega, h3, h4, fun j a c => by by_cases e : j = t; rw [e]; exact hb; exact h5 j (by omega) c⟩
theorem Fs.no {B : Nat → Bool} {M t : Nat} (ht : t < M) (hb : B t = false) : Fs B M t (t : Int) := .inr ⟨t, rfl, Nat.le_refl _, ht, hb, fun j a c => by omega⟩
theorem Fs.bd {B : Nat → Bool} {M t : Nat} {fr : Int} (h : Fs B M t fr) : -1 ≤ fr ∧ fr < M := by
  rcases h with ⟨h1, -⟩ | ⟨f, h1, -, h3, -⟩ <;> omega

section
variable {W : World} {H h : Hp} {l : List Hp} {n cap : Nat} {a : Option Addr} {B : Nat → Bool}

def grG (g0 : Int) (wh : Bool) (k : Int) (M n cap : Nat) (a : Option Addr) (x : Nat) (F' : Fr) : Prop :=
  gt F' 0 = .int .u8 g0 ∧ gt F' 1 = .bool wh ∧ gt F' 2 = .slice a n cap ∧ gt F' 7 = .int .i64 k ∧ gt F' 8 = .int .i64 (M : Int) ∧ gt F' 9 = .pointer (some ⟨x, 0, none⟩)
def grA (g0 : Int) (wh : Bool) (k : Int) (N M n cap : Nat) (a : Option Addr) (x y : Nat) (L : List Hp) (F' : Fr) (H' : Hp) : Prop :=
  ∃ j : Nat, (j : Int) ≤ slots k ∧ gt F' 11 = .int .i64 (j : Int) ∧ gt F' 10 = .slice (some ⟨y, 0, none⟩) N N ∧ grG g0 wh k M n cap a x F' ∧ Sep (sg y (.cells (urow N (gvF k 1 j)) 29 (0, 0)) :: L) H'
def grB (g0 : Int) (wh : Bool) (k : Int) (f : Nat → Int) (o : Nat) (ci : Int) (B : Nat → Bool) (N M n cap : Nat) (a : Option Addr) (x y : Nat) (L : List Hp) (F' : Fr) (H' : Hp) : Prop :=
  ∃ (t : Nat) (fr : Int), t ≤ M ∧ Fs B M t fr ∧ gt F' 14 = .int .i64 ((t : Int) - 1) ∧ gt F' 13 = .int .i64 fr ∧ gt F' 12 = .int .i64 ci ∧ gt F' 10 = .slice (some ⟨y, 0, none⟩) N N ∧ grG g0 wh k M n cap a x F' ∧
    Sep (sg y (.cells (urow N (mgF f o M B t)) 29 (0, 0)) :: L) H'
def grC (g0 : Int) (wh : Bool) (k fr : Int) (ci : Int) (w0 : Wd) (N M n cap : Nat) (a : Option Addr) (x b kt s : Nat) (L : List Hp) (F' : Fr) (H' : Hp) : Prop :=
  ∃ (j : Nat) (pa : Nat), j ≤ M + 10 ∧ gt F' 17 = .int .i64 (j : Int) ∧ gt F' 13 = .int .i64 fr ∧ gt F' 12 = .int .i64 ci ∧ gt F' 15 = .pointer (some ⟨b, 0, none⟩) ∧ gt F' 16 = .pointer (some ⟨kt, 0, none⟩) ∧ grG g0 wh k M n cap a x F' ∧
    Sep (gvB kt pa (its Gv.step j (Gv.new ⟨1, 2, M⟩ ci 0) w0).1 :: puO pa (its Gv.step j (Gv.new ⟨1, 2, M⟩ ci 0) w0).1.put :: wB b s (its Gv.step j (Gv.new ⟨1, 2, M⟩ ci 0) w0).2 :: wR s (its Gv.step j (Gv.new ⟨1, 2, M⟩ ci 0) w0).2 :: L) H'
theorem c_giveremote {g0 : Int} (wh : Bool) (hg0 : 0 ≤ g0) (hg1 : g0 ≤ 255) (hn : n ≤ 9223372036854775807) (hr : RowV h a n (fun i => .bool (B i))) (hS : Sep (h :: l) H) :
    CallP Try.prog W 6 #[.int .u8 g0, .bool wh, .slice a n cap] H fun v H' => v = .bool true ∧ Sep (h :: l) H' := by
  refine CallP.of mixed Try.func6 tr6 (by show 3 ≤ _; decide) fun W _ => ?_
  simp only [↓D0, ↓D1, ↓D2, ↓D3, ↓D4, ↓D5, ↓D6, ↓D7, ↓D8, ↓D9, U0, U1, U2, U3, U4, U5, U6, U7, U8, U9, U10, ↓reduceIte, Nat.reduceAdd, Nat.reduceMul, Nat.reduceSub, Nat.reduceEqDiff, Nat.reduceBEq, Nat.reduceLeDiff, Nat.reduceLT, Int.reduceAdd, Int.reduceMul, Int.reduceSub, Int.reduceLT, Int.reduceLE, Int.reduceToNat, Int.reduceEq, Int.reduceNe, Int.reduceBEq, Int.reduceBNe, ne_eq, eq_self]
  refine callT_of (c_awake16 hS) ?_
  rintro v H' ⟨rfl, hS⟩
  have eg0 : w64 g0 = g0 := w64_eq (by omega) (by omega)
  have et0 : g0.tmod 4 = g0 % 4 := Int.tmod_eq_emod_of_nonneg hg0
  obtain ⟨k, hk⟩ : ∃ k, g0 % 4 = k := ⟨_, rfl⟩
  have kb' : 0 ≤ k ∧ k ≤ 3 := by omega
  have sb := slots_bd k
  have sp : 0 < slots k := (Gv.slot_of (o := 0) (k := k) kb' ⟨by decide, by decide⟩).2 |> fun h => by have := Int.zero_ediv (size k); omega
  have wk : w64 k = k := w64_eq (by omega) (by omega)
  obtain ⟨M, hM⟩ : ∃ M : Nat, M = min n 8 := ⟨_, rfl⟩
  have hM8 : M ≤ 8 ∧ M ≤ n := by omega
  have emn : (if (8 : Int) < (n : Int) then (8 : Int) else (n : Int)) = (M : Int) := by split <;> omega
  simp only [wrap_w64, eg0, et0, hk, wk, emn, ↓D0, ↓D1, ↓D2, ↓D3, ↓D4, ↓D5, ↓D6, ↓D7, ↓D8, ↓D9, U0, U1, U2, U3, U4, U5, U6, U7, U8, U9, U10, ↓reduceIte, Nat.reduceAdd, Nat.reduceMul, Nat.reduceSub, Nat.reduceEqDiff, Nat.reduceBEq, Nat.reduceLeDiff, Nat.reduceLT, Int.reduceAdd, Int.reduceMul, Int.reduceSub, Int.reduceLT, Int.reduceLE, Int.reduceToNat, Int.reduceEq, Int.reduceNe, Int.reduceBEq, Int.reduceBNe, ne_eq, eq_self]
  refine newB_intro fun x hx f3 f4 => ?_
  have hS := hS.new f3 (.cells #[.int .i64 0, .int .i64 0, .int .i64 0] 25 (0, 0))
  have hS := hS.set (.cells #[.int .i64 1, .int .i64 2, .int .i64 (M : Int)] 25 (0, 0))
  rw [Ev.upd_upd] at hS
  have hx1 := hS.look
  have r0 := fun o => rd_of hx1 o
  have r1 := fun o n => rdn_of hx1 o n
  have hmay : may 1 2 (M : Int) = true := (may_iff _ _ _).2 (by omega)
  obtain ⟨N, hN⟩ : ∃ N : Nat, words 1 2 (M : Int) = (N : Int) := ⟨(words 1 2 (M : Int)).toNat, by have := words_le hmay; omega⟩
  have hN' : N = 19 + 2 * M := by
    have : (N : Int) = 19 + 2 * (M : Int) := by rw [← hN]; unfold words; rw [if_pos hmay]; omega
    omega
  have hN2 : N ≤ 2000 := by omega
  have n0 : (0 : Int) ≤ (N : Int) := by omega
  have n8 : 8 * (N : Int) ≤ 281474976710656 := by omega
  have n9 : (N : Int) ≤ 9223372036854775807 := by omega
  have nle : (N : Int) ≤ (N : Int) := Int.le_refl _
  simp only [Ev.upd_upd, hx1, r1, u_words, hN, n0, n8, n9, nle, Int.toNat_natCast, ↓D0, ↓D1, ↓D2, ↓D3, ↓D4, ↓D5, ↓D6, ↓D7, ↓D8, ↓D9, U0, U1, U2, U3, U4, U5, U6, U7, U8, U9, U10, ↓reduceIte, Nat.reduceAdd, Nat.reduceMul, Nat.reduceSub, Nat.reduceEqDiff, Nat.reduceBEq, Nat.reduceLeDiff, Nat.reduceLT, Int.reduceAdd, Int.reduceMul, Int.reduceSub, Int.reduceLT, Int.reduceLE, Int.reduceToNat, Int.reduceEq, Int.reduceNe, Int.reduceBEq, Int.reduceBNe, ne_eq, eq_self]
  refine newB_intro fun y hy f5 f6 => ?_
  have hS := hS.new f5 (.cells (urow N (gvF k 1 0)) 29 (0, 0))
  have n2 : (2 : Int) < (N : Int) := by omega
  have nyx := hS.neq 0 1 (by decide) rfl rfl
  have nxy := hS.qen 0 1 (by decide) rfl rfl
  have hsup : putPg 2 k 1 = super k 1 := rfl
  simp only [urow_zero, urow_size, urow_set, Ev.upd_upd, n2, nyx, nxy, wrap_w64, u_putpg, hsup, gvF_zero, ↓D0, ↓D1, ↓D2, ↓D3, ↓D4, ↓D5, ↓D6, ↓D7, ↓D8, ↓D9, U0, U1, U2, U3, U4, U5, U6, U7, U8, U9, U10, ↓reduceIte, Nat.reduceAdd, Nat.reduceMul, Nat.reduceSub, Nat.reduceEqDiff, Nat.reduceBEq, Nat.reduceLeDiff, Nat.reduceLT, Int.reduceAdd, Int.reduceMul, Int.reduceSub, Int.reduceLT, Int.reduceLE, Int.reduceToNat, Int.reduceEq, Int.reduceNe, Int.reduceBEq, Int.reduceBNe, ne_eq, eq_self]
  refine ⟨by omega, ?_⟩
  refine loop_intro (grA g0 wh k N M n cap a x y (sg x (.cells #[.int .i64 1, .int .i64 2, .int .i64 (M : Int)] 25 (0, 0)) :: h :: l)) (fun F' _ => (16 - iv (gt F' 11)).toNat)
    ⟨0, by omega, rfl, rfl, ⟨rfl, rfl, rfl, rfl, rfl, rfl⟩, hS⟩ ?_
  rintro F' H' ⟨j, hj, e11, e10, ⟨e0, e1, e2, e7, e8, e9⟩, hS⟩
  have hx1 := hS.lk 1 rfl
  have r0 := fun o => rd_of hx1 o
  have r1 := fun o n => rdn_of hx1 o n
  by_cases hlt : (j : Int) < slots k
  · have d1 : decide ((j : Int) < slots k) = true := decide_eq_true hlt
    have w3 : w64 (3 + (j : Int)) = 3 + (j : Int) := w64_eq (by omega) (by omega)
    have wj : w64 ((j : Int) + 1) = ((j + 1 : Nat) : Int) := by rw [w64_eq (by omega) (by omega)]; omega
    have q0 : (0 : Int) ≤ 3 + (j : Int) := by omega
    have q1 : 3 + (j : Int) < (N : Int) := by omega
    have q2 : (3 + (j : Int)).toNat = 3 + j := by omega
    have hset := hS.set (.cells (urow N (gvF k 1 (j + 1))) 29 (0, 0))
    have hy1 := hS.look
    have htk : putSl 3 k = taken k := rfl
    simp only [e0, e1, e2, e7, e8, e9, e10, e11, d1, u_slots, hy1, wrap_w64, w3, wj, q0, q1, q2, u_putsl, htk, urow_size, urow_set, gvF_step, Int.toNat_natCast, ↓D0, ↓D1, ↓D2, ↓D3, ↓D4, ↓D5, ↓D6, ↓D7, ↓D8, ↓D9, U0, U1, U2, U3, U4, U5, U6, U7, U8, U9, U10, ↓reduceIte, Nat.reduceAdd, Nat.reduceMul, Nat.reduceSub, Nat.reduceEqDiff, Nat.reduceBEq, Nat.reduceLeDiff, Nat.reduceLT, Int.reduceAdd, Int.reduceMul, Int.reduceSub, Int.reduceLT, Int.reduceLE, Int.reduceToNat, Int.reduceEq, Int.reduceNe, Int.reduceBEq, Int.reduceBNe, ne_eq, eq_self]
    refine ⟨by omega, ⟨j + 1, by omega, by simp [gt], by simp [gt, e10], ⟨by simp [gt, e0], by simp [gt, e1], by simp [gt, e2], by simp [gt, e7], by simp [gt, e8], by simp [gt, e9]⟩, hset⟩, by simp [gt, iv, e11]; omega⟩
  have d1 : decide ((j : Int) < slots k) = false := decide_eq_false hlt
  have hjs : (j : Int) = slots k := by omega
  have wM : w64 ((M : Int) - 1) = (M : Int) - 1 := w64_eq (by omega) (by omega)
  cases wh
  · simp only [e0, e1, e2, e7, e8, e9, e10, e11, d1, u_slots, wrap_w64, wM, ↓D0, ↓D1, ↓D2, ↓D3, ↓D4, ↓D5, ↓D6, ↓D7, ↓D8, ↓D9, U0, U1, U2, U3, U4, U5, U6, U7, U8, U9, U10, ↓reduceIte, Nat.reduceAdd, Nat.reduceMul, Nat.reduceSub, Nat.reduceEqDiff, Nat.reduceBEq, Nat.reduceLeDiff, Nat.reduceLT, Int.reduceAdd, Int.reduceMul, Int.reduceSub, Int.reduceLT, Int.reduceLE, Int.reduceToNat, Int.reduceEq, Int.reduceNe, Int.reduceBEq, Int.reduceBNe, ne_eq, eq_self]
    obtain ⟨o, ho⟩ : ∃ o : Nat, o = 19 + 0 * M := ⟨_, rfl⟩
    refine loop_intro (grB g0 false k (gvF k 1 j) o 0 B N M n cap a x y (sg x (.cells #[.int .i64 1, .int .i64 2, .int .i64 (M : Int)] 25 (0, 0)) :: h :: l)) (fun F' _ => (iv (gt F' 14) + 1).toNat)
      ⟨M, -1, Nat.le_refl _, .inl ⟨rfl, fun j a c => by omega⟩, by simp [gt], by simp [gt], by simp [gt], by simp [gt, e10], ⟨by simp [gt, e0], by simp [gt, e1], by simp [gt, e2], by simp [gt, e7], by simp [gt, e8], by simp [gt, e9]⟩, by rw [← mgF_top]; exact hS⟩ ?_
    clear r0 r1 hx1 e11 e10 hS
    rintro F' H' ⟨t, fr, ht, hF, e14, e13, e12, e10, ⟨e0, e1, e2, e7, e8, e9⟩, hS⟩
    have hx1 := hS.lk 1 rfl
    have r0 := fun o => rd_of hx1 o
    have r1 := fun o n => rdn_of hx1 o n
    rcases Nat.eq_zero_or_pos t with ht0 | ht0
    rotate_left
    · obtain ⟨t, rfl⟩ : ∃ t', t = t' + 1 := ⟨t - 1, by omega⟩
      have et : (((t + 1 : Nat) : Int)) - 1 = (t : Int) := by omega
      rw [et] at e14
      have d2 : decide (0 ≤ (t : Int)) = true := decide_eq_true (by omega)
      have d3 : (0 : Int) ≤ (t : Int) := by omega
      have d4 : (t : Int) < (n : Int) := by omega
      have wt : w64 ((t : Int) - 1) = (t : Int) - 1 := w64_eq (by omega) (by omega)
      obtain ⟨fb, fo, rfl, hrd⟩ := (hr.sub (hS.sb h (by simp))).at' (i := t) (by omega)
      cases hB : B t
      · rw [hB] at hrd
        simp only [e0, e1, e2, e7, e8, e9, e10, e12, e13, e14, d2, d3, d4, hrd, wrap_w64, wt, Int.toNat_natCast, ↓D0, ↓D1, ↓D2, ↓D3, ↓D4, ↓D5, ↓D6, ↓D7, ↓D8, ↓D9, U0, U1, U2, U3, U4, U5, U6, U7, U8, U9, U10, ↓reduceIte, Nat.reduceAdd, Nat.reduceMul, Nat.reduceSub, Nat.reduceEqDiff, Nat.reduceBEq, Nat.reduceLeDiff, Nat.reduceLT, Int.reduceAdd, Int.reduceMul, Int.reduceSub, Int.reduceLT, Int.reduceLE, Int.reduceToNat, Int.reduceEq, Int.reduceNe, Int.reduceBEq, Int.reduceBNe, ne_eq, eq_self]
        exact ⟨⟨t, (t : Int), by omega, Fs.no (by omega) hB, by simp [gt], by simp [gt], by simp [gt, e12], by simp [gt, e10], ⟨by simp [gt, e0], by simp [gt, e1], by simp [gt, e2], by simp [gt, e7], by simp [gt, e8], by simp [gt, e9]⟩, by rw [← mgF_no _ _ _ _ _ hB]; exact hS⟩, by simp [gt, iv, e14] <;> omega⟩
      · rw [hB] at hrd
        have hma : mag 1 2 (M : Int) 0 (t : Int) = (o : Int) + (t : Int) := by rw [mag_yes hmay (by decide) (by decide) (by omega) (by omega)]; omega
        have q0 : (0 : Int) ≤ (o : Int) + (t : Int) := by omega
        have q1 : (o : Int) + (t : Int) < (N : Int) := by omega
        have q2 : ((o : Int) + (t : Int)).toNat = o + t := by omega
        have hset := hS.set (.cells (urow N (mgF (gvF k 1 j) o M B t)) 29 (0, 0))
        have hy1 := hS.look
        simp only [e0, e1, e2, e7, e8, e9, e10, e12, e13, e14, d2, d3, d4, hrd, hx1, hy1, r0, r1, u_mag, hma, q0, q1, q2, urow_size, urow_set, mgF_yes (gvF k 1 j) o M B t (by omega) hB, wrap_w64, wt, Int.toNat_natCast, ↓D0, ↓D1, ↓D2, ↓D3, ↓D4, ↓D5, ↓D6, ↓D7, ↓D8, ↓D9, U0, U1, U2, U3, U4, U5, U6, U7, U8, U9, U10, ↓reduceIte, Nat.reduceAdd, Nat.reduceMul, Nat.reduceSub, Nat.reduceEqDiff, Nat.reduceBEq, Nat.reduceLeDiff, Nat.reduceLT, Int.reduceAdd, Int.reduceMul, Int.reduceSub, Int.reduceLT, Int.reduceLE, Int.reduceToNat, Int.reduceEq, Int.reduceNe, Int.reduceBEq, Int.reduceBNe, ne_eq, eq_self]
        exact ⟨by omega, ⟨t, fr, by omega, hF.yes hB, by simp [gt], by simp [gt, e13], by simp [gt, e12], by simp [gt, e10], ⟨by simp [gt, e0], by simp [gt, e1], by simp [gt, e2], by simp [gt, e7], by simp [gt, e8], by simp [gt, e9]⟩, hset⟩, by simp [gt, iv, e14] <;> omega⟩
    · subst ht0
      have d2 : decide ((0 : Int) ≤ ((0 : Nat) : Int) - 1) = false := by decide
      simp only [e0, e1, e2, e7, e8, e9, e10, e12, e13, e14, d2, ↓D0, ↓D1, ↓D2, ↓D3, ↓D4, ↓D5, ↓D6, ↓D7, ↓D8, ↓D9, U0, U1, U2, U3, U4, U5, U6, U7, U8, U9, U10, ↓reduceIte, Nat.reduceAdd, Nat.reduceMul, Nat.reduceSub, Nat.reduceEqDiff, Nat.reduceBEq, Nat.reduceLeDiff, Nat.reduceLT, Int.reduceAdd, Int.reduceMul, Int.reduceSub, Int.reduceLT, Int.reduceLE, Int.reduceToNat, Int.reduceEq, Int.reduceNe, Int.reduceBEq, Int.reduceBNe, ne_eq, eq_self]
      refine callT_of (c_fill (n := N) hN2 (RowU.own y N _ _ _) hS) ?_
      rintro v H' ⟨b, s, rfl, hS⟩
      have hx1 := hS.lk 3 rfl
      have r1 := fun o n => rdn_of hx1 o n
      simp only [e0, e1, e2, e7, e8, e9, e12, e13, hx1, r1, ↓D0, ↓D1, ↓D2, ↓D3, ↓D4, ↓D5, ↓D6, ↓D7, ↓D8, ↓D9, U0, U1, U2, U3, U4, U5, U6, U7, U8, U9, U10, ↓reduceIte, Nat.reduceAdd, Nat.reduceMul, Nat.reduceSub, Nat.reduceEqDiff, Nat.reduceBEq, Nat.reduceLeDiff, Nat.reduceLT, Int.reduceAdd, Int.reduceMul, Int.reduceSub, Int.reduceLT, Int.reduceLE, Int.reduceToNat, Int.reduceEq, Int.reduceNe, Int.reduceBEq, Int.reduceBNe, ne_eq, eq_self]
      refine callT_of (c_gvnew (sh := ⟨1, 2, M⟩) hS) ?_
      rintro v H' ⟨kt, rfl, hS⟩
      obtain ⟨w0, hw0⟩ : ∃ w0, w0 = rowW N (mgF (gvF k 1 j) o M B 0) := ⟨_, rfl⟩
      rw [← hw0] at hS
      have hof0 : w0.of ⟨1, 2, M⟩ := by rw [hw0]; exact rowW_of hN.symm fun i _ => mgF_U (gvF_U k 1 j) _ _ _ _ i
      have hG : ∀ q : Nat, q < N → w0.get (q : Int) = mgF (gvF k 1 j) o M B 0 q := fun q q1 => by
        rw [hw0]
        show (if (q : Int).toNat < N then mgF (gvF k 1 j) o M B 0 (q : Int).toNat else 0) = _
        rw [Int.toNat_natCast, if_pos q1]
      have g2 : w0.get 2 = super k 1 := by
        rw [show (2 : Int) = ((2 : Nat) : Int) from rfl, hG 2 (by omega)]; unfold mgF gvF; rw [if_neg (by omega), if_neg (by omega)]; rfl
      have g3 : w0.get 3 = taken k := by
        rw [show (3 : Int) = ((3 : Nat) : Int) from rfl, hG 3 (by omega)]; unfold mgF gvF; rw [if_neg (by omega), if_pos (by omega)]
      have hR : Gv.Rem M 0 k w0 := ⟨by omega, by omega, by decide, by decide, kb'.1, kb'.2, hof0, by rw [hw0]; rfl, g2, g3⟩
      have hZ : ∀ j' : Nat, j' < M → (Gv.Zf M 0 w0 j' ↔ B j' = false) := fun j' hj' => by
        unfold Gv.Zf
        rw [mag_yes hmay (by decide) (by decide) (by omega) (by omega), show (2 + 1 + 1 * 16 + 0 * (M : Int) + (j' : Int)) = ((o + j' : Nat) : Int) by omega, hG _ (by omega)]
        unfold mgF gvF
        rw [show o + j' - o = j' by omega]
        cases hB : B j'
        · rw [if_neg (fun h => by cases h.2.2), if_neg (by omega), if_neg (by omega)]; simp
        · rw [if_pos ⟨by omega, by omega, rfl⟩]; simp
      simp only [e0, e1, e2, e7, e8, e9, e12, e13, ↓D0, ↓D1, ↓D2, ↓D3, ↓D4, ↓D5, ↓D6, ↓D7, ↓D8, ↓D9, U0, U1, U2, U3, U4, U5, U6, U7, U8, U9, U10, ↓reduceIte, Nat.reduceAdd, Nat.reduceMul, Nat.reduceSub, Nat.reduceEqDiff, Nat.reduceBEq, Nat.reduceLeDiff, Nat.reduceLT, Int.reduceAdd, Int.reduceMul, Int.reduceSub, Int.reduceLT, Int.reduceLE, Int.reduceToNat, Int.reduceEq, Int.reduceNe, Int.reduceBEq, Int.reduceBNe, ne_eq, eq_self]
      refine loop_intro (grC g0 false k fr 0 w0 N M n cap a x b kt s (sg x (.cells #[.int .i64 1, .int .i64 2, .int .i64 (M : Int)] 25 (0, 0)) :: h :: l)) (fun F' _ => (M + 10 - iv (gt F' 17)).toNat)
        ⟨0, 0, by omega, rfl, by simp [gt, e13], by simp [gt, e12], by simp [gt], by simp [gt], ⟨by simp [gt, e0], by simp [gt, e1], by simp [gt, e2], by simp [gt, e7], by simp [gt, e8], by simp [gt, e9]⟩, hS.p3.tail.nothing.p1⟩ ?_
      rintro F' H' ⟨j2, pa, hj2, e17, e13, e12, e15, e16, ⟨e0, e1, e2, e7, e8, e9⟩, hS⟩
      obtain ⟨hv, hs1, hs2⟩ := Gv.Rv.its hR j2 (by omega)
      have w10 : w64 ((M : Int) + 10) = (M : Int) + 10 := w64_eq (by omega) (by omega)
      by_cases hlt : (j2 : Int) < (M : Int) + 10
      · have d1 : decide ((j2 : Int) < (M : Int) + 10) = true := decide_eq_true hlt
        have wj : w64 ((j2 : Int) + 1) = ((j2 + 1 : Nat) : Int) := by rw [w64_eq (by omega) (by omega)]; omega
        simp only [e0, e1, e2, e7, e8, e9, e12, e13, e15, e16, e17, wrap_w64, w10, d1, ↓D0, ↓D1, ↓D2, ↓D3, ↓D4, ↓D5, ↓D6, ↓D7, ↓D8, ↓D9, U0, U1, U2, U3, U4, U5, U6, U7, U8, U9, U10, ↓reduceIte, Nat.reduceAdd, Nat.reduceMul, Nat.reduceSub, Nat.reduceEqDiff, Nat.reduceBEq, Nat.reduceLeDiff, Nat.reduceLT, Int.reduceAdd, Int.reduceMul, Int.reduceSub, Int.reduceLT, Int.reduceLE, Int.reduceToNat, Int.reduceEq, Int.reduceNe, Int.reduceBEq, Int.reduceBNe, ne_eq, eq_self]
        refine callT_of (c_gvits (Gv.new_wf _ _ _) hof0 j2 hS) ?_
        rintro v H' ⟨rfl, pa2, hS⟩
        simp only [e0, e1, e2, e7, e8, e9, e12, e13, e15, e16, e17, wrap_w64, wj, ↓D0, ↓D1, ↓D2, ↓D3, ↓D4, ↓D5, ↓D6, ↓D7, ↓D8, ↓D9, U0, U1, U2, U3, U4, U5, U6, U7, U8, U9, U10, ↓reduceIte, Nat.reduceAdd, Nat.reduceMul, Nat.reduceSub, Nat.reduceEqDiff, Nat.reduceBEq, Nat.reduceLeDiff, Nat.reduceLT, Int.reduceAdd, Int.reduceMul, Int.reduceSub, Int.reduceLT, Int.reduceLE, Int.reduceToNat, Int.reduceEq, Int.reduceNe, Int.reduceBEq, Int.reduceBNe, ne_eq, eq_self]
        exact ⟨⟨j2 + 1, pa2, by omega, by simp [gt], by simp [gt, e13], by simp [gt, e12], by simp [gt, e15], by simp [gt, e16], ⟨by simp [gt, e0], by simp [gt, e1], by simp [gt, e2], by simp [gt, e7], by simp [gt, e8], by simp [gt, e9]⟩, hS⟩, by simp [gt, iv, e17]; omega⟩
      have d1 : decide ((j2 : Int) < (M : Int) + 10) = false := decide_eq_false hlt
      have hj10 : j2 = M + 10 := by omega
      have hdn := Gv.Rv.ends hR (n := j2) (by omega) (by omega)
      obtain ⟨hgv, hfin⟩ := hv.fin hdn
      have hwn := hv.of.n
      have hwn : ((its Gv.step j2 (Gv.new ⟨1, 2, M⟩ 0 0) w0).2.n : Int) = (N : Int) := hwn.trans hN
      have hop : putSl 1 k = opn k := rfl
      have hst3 : (its Gv.step j2 (Gv.new ⟨1, 2, M⟩ 0 0) w0).2.st = 3 ∧ (its Gv.step j2 (Gv.new ⟨1, 2, M⟩ 0 0) w0).2.get 3 = opn k := by
        rcases hfin with ⟨-, q1, q2⟩ | ⟨q, -⟩ | ⟨q, -⟩
        · exact ⟨q1, q2⟩
        · cases q
        · cases q
      obtain ⟨hst3, hx3⟩ := hst3
      simp only [e0, e1, e2, e7, e8, e9, e12, e13, e15, e16, e17, wrap_w64, w10, d1, u_putsl, ↓D0, ↓D1, ↓D2, ↓D3, ↓D4, ↓D5, ↓D6, ↓D7, ↓D8, ↓D9, U0, U1, U2, U3, U4, U5, U6, U7, U8, U9, U10, ↓reduceIte, Nat.reduceAdd, Nat.reduceMul, Nat.reduceSub, Nat.reduceEqDiff, Nat.reduceBEq, Nat.reduceLeDiff, Nat.reduceLT, Int.reduceAdd, Int.reduceMul, Int.reduceSub, Int.reduceLT, Int.reduceLE, Int.reduceToNat, Int.reduceEq, Int.reduceNe, Int.reduceBEq, Int.reduceBNe, ne_eq, eq_self]
      refine callT_of (c_gvdone hS) ?_
      rintro v H' ⟨rfl, hS⟩
      simp only [e0, e1, e2, e7, e8, e9, e12, e13, e15, e16, hdn, ↓D0, ↓D1, ↓D2, ↓D3, ↓D4, ↓D5, ↓D6, ↓D7, ↓D8, ↓D9, U0, U1, U2, U3, U4, U5, U6, U7, U8, U9, U10, ↓reduceIte, Nat.reduceAdd, Nat.reduceMul, Nat.reduceSub, Nat.reduceEqDiff, Nat.reduceBEq, Nat.reduceLeDiff, Nat.reduceLT, Int.reduceAdd, Int.reduceMul, Int.reduceSub, Int.reduceLT, Int.reduceLE, Int.reduceToNat, Int.reduceEq, Int.reduceNe, Int.reduceBEq, Int.reduceBNe, ne_eq, eq_self]
      refine callT_of (c_gvgave hS) ?_
      rintro v H' ⟨rfl, hS⟩
      simp only [e0, e1, e2, e7, e8, e9, e12, e13, e15, e16, hgv, ↓D0, ↓D1, ↓D2, ↓D3, ↓D4, ↓D5, ↓D6, ↓D7, ↓D8, ↓D9, U0, U1, U2, U3, U4, U5, U6, U7, U8, U9, U10, ↓reduceIte, Nat.reduceAdd, Nat.reduceMul, Nat.reduceSub, Nat.reduceEqDiff, Nat.reduceBEq, Nat.reduceLeDiff, Nat.reduceLT, Int.reduceAdd, Int.reduceMul, Int.reduceSub, Int.reduceLT, Int.reduceLE, Int.reduceToNat, Int.reduceEq, Int.reduceNe, Int.reduceBEq, Int.reduceBNe, ne_eq, eq_self]
      refine callT_of (c_steps hS.tail.tail) ?_
      rintro v H' ⟨rfl, hS⟩
      simp only [e0, e1, e2, e7, e8, e9, e12, e13, e15, e16, hst3, ↓D0, ↓D1, ↓D2, ↓D3, ↓D4, ↓D5, ↓D6, ↓D7, ↓D8, ↓D9, U0, U1, U2, U3, U4, U5, U6, U7, U8, U9, U10, ↓reduceIte, Nat.reduceAdd, Nat.reduceMul, Nat.reduceSub, Nat.reduceEqDiff, Nat.reduceBEq, Nat.reduceLeDiff, Nat.reduceLT, Int.reduceAdd, Int.reduceMul, Int.reduceSub, Int.reduceLT, Int.reduceLE, Int.reduceToNat, Int.reduceEq, Int.reduceNe, Int.reduceBEq, Int.reduceBNe, ne_eq, eq_self]
      refine callT_of (c_look 3 (by decide) (by omega) hS) ?_
      rintro v H' ⟨rfl, hS⟩
      simp only [e0, e1, e2, e7, e8, e9, e12, e13, e15, e16, hx3, hop, ↓D0, ↓D1, ↓D2, ↓D3, ↓D4, ↓D5, ↓D6, ↓D7, ↓D8, ↓D9, U0, U1, U2, U3, U4, U5, U6, U7, U8, U9, U10, ↓reduceIte, Nat.reduceAdd, Nat.reduceMul, Nat.reduceSub, Nat.reduceEqDiff, Nat.reduceBEq, Nat.reduceLeDiff, Nat.reduceLT, Int.reduceAdd, Int.reduceMul, Int.reduceSub, Int.reduceLT, Int.reduceLE, Int.reduceToNat, Int.reduceEq, Int.reduceNe, Int.reduceBEq, Int.reduceBNe, ne_eq, eq_self]
      first | exact hS.tail.tail.tail | exact ⟨rfl, hS.tail.tail.tail⟩
  · simp only [e0, e1, e2, e7, e8, e9, e10, e11, d1, u_slots, wrap_w64, wM, ↓D0, ↓D1, ↓D2, ↓D3, ↓D4, ↓D5, ↓D6, ↓D7, ↓D8, ↓D9, U0, U1, U2, U3, U4, U5, U6, U7, U8, U9, U10, ↓reduceIte, Nat.reduceAdd, Nat.reduceMul, Nat.reduceSub, Nat.reduceEqDiff, Nat.reduceBEq, Nat.reduceLeDiff, Nat.reduceLT, Int.reduceAdd, Int.reduceMul, Int.reduceSub, Int.reduceLT, Int.reduceLE, Int.reduceToNat, Int.reduceEq, Int.reduceNe, Int.reduceBEq, Int.reduceBNe, ne_eq, eq_self]
    obtain ⟨o, ho⟩ : ∃ o : Nat, o = 19 + 1 * M := ⟨_, rfl⟩
    refine loop_intro (grB g0 true k (gvF k 1 j) o 1 B N M n cap a x y (sg x (.cells #[.int .i64 1, .int .i64 2, .int .i64 (M : Int)] 25 (0, 0)) :: h :: l)) (fun F' _ => (iv (gt F' 14) + 1).toNat)
      ⟨M, -1, Nat.le_refl _, .inl ⟨rfl, fun j a c => by omega⟩, by simp [gt], by simp [gt], by simp [gt], by simp [gt, e10], ⟨by simp [gt, e0], by simp [gt, e1], by simp [gt, e2], by simp [gt, e7], by simp [gt, e8], by simp [gt, e9]⟩, by rw [← mgF_top]; exact hS⟩ ?_
    clear r0 r1 hx1 e11 e10 hS
    rintro F' H' ⟨t, fr, ht, hF, e14, e13, e12, e10, ⟨e0, e1, e2, e7, e8, e9⟩, hS⟩
    have hx1 := hS.lk 1 rfl
    have r0 := fun o => rd_of hx1 o
    have r1 := fun o n => rdn_of hx1 o n
    rcases Nat.eq_zero_or_pos t with ht0 | ht0
    rotate_left
    · obtain ⟨t, rfl⟩ : ∃ t', t = t' + 1 := ⟨t - 1, by omega⟩
      have et : (((t + 1 : Nat) : Int)) - 1 = (t : Int) := by omega
      rw [et] at e14
      have d2 : decide (0 ≤ (t : Int)) = true := decide_eq_true (by omega)
      have d3 : (0 : Int) ≤ (t : Int) := by omega
      have d4 : (t : Int) < (n : Int) := by omega
      have wt : w64 ((t : Int) - 1) = (t : Int) - 1 := w64_eq (by omega) (by omega)
      obtain ⟨fb, fo, rfl, hrd⟩ := (hr.sub (hS.sb h (by simp))).at' (i := t) (by omega)
      cases hB : B t
      · rw [hB] at hrd
        simp only [e0, e1, e2, e7, e8, e9, e10, e12, e13, e14, d2, d3, d4, hrd, wrap_w64, wt, Int.toNat_natCast, ↓D0, ↓D1, ↓D2, ↓D3, ↓D4, ↓D5, ↓D6, ↓D7, ↓D8, ↓D9, U0, U1, U2, U3, U4, U5, U6, U7, U8, U9, U10, ↓reduceIte, Nat.reduceAdd, Nat.reduceMul, Nat.reduceSub, Nat.reduceEqDiff, Nat.reduceBEq, Nat.reduceLeDiff, Nat.reduceLT, Int.reduceAdd, Int.reduceMul, Int.reduceSub, Int.reduceLT, Int.reduceLE, Int.reduceToNat, Int.reduceEq, Int.reduceNe, Int.reduceBEq, Int.reduceBNe, ne_eq, eq_self]
        exact ⟨⟨t, (t : Int), by omega, Fs.no (by omega) hB, by simp [gt], by simp [gt], by simp [gt, e12], by simp [gt, e10], ⟨by simp [gt, e0], by simp [gt, e1], by simp [gt, e2], by simp [gt, e7], by simp [gt, e8], by simp [gt, e9]⟩, by rw [← mgF_no _ _ _ _ _ hB]; exact hS⟩, by simp [gt, iv, e14] <;> omega⟩
      · rw [hB] at hrd
        have hma : mag 1 2 (M : Int) 1 (t : Int) = (o : Int) + (t : Int) := by rw [mag_yes hmay (by decide) (by decide) (by omega) (by omega)]; omega
        have q0 : (0 : Int) ≤ (o : Int) + (t : Int) := by omega
        have q1 : (o : Int) + (t : Int) < (N : Int) := by omega
        have q2 : ((o : Int) + (t : Int)).toNat = o + t := by omega
        have hset := hS.set (.cells (urow N (mgF (gvF k 1 j) o M B t)) 29 (0, 0))
        have hy1 := hS.look
        simp only [e0, e1, e2, e7, e8, e9, e10, e12, e13, e14, d2, d3, d4, hrd, hx1, hy1, r0, r1, u_mag, hma, q0, q1, q2, urow_size, urow_set, mgF_yes (gvF k 1 j) o M B t (by omega) hB, wrap_w64, wt, Int.toNat_natCast, ↓D0, ↓D1, ↓D2, ↓D3, ↓D4, ↓D5, ↓D6, ↓D7, ↓D8, ↓D9, U0, U1, U2, U3, U4, U5, U6, U7, U8, U9, U10, ↓reduceIte, Nat.reduceAdd, Nat.reduceMul, Nat.reduceSub, Nat.reduceEqDiff, Nat.reduceBEq, Nat.reduceLeDiff, Nat.reduceLT, Int.reduceAdd, Int.reduceMul, Int.reduceSub, Int.reduceLT, Int.reduceLE, Int.reduceToNat, Int.reduceEq, Int.reduceNe, Int.reduceBEq, Int.reduceBNe, ne_eq, eq_self]
        exact ⟨by omega, ⟨t, fr, by omega, hF.yes hB, by simp [gt], by simp [gt, e13], by simp [gt, e12], by simp [gt, e10], ⟨by simp [gt, e0], by simp [gt, e1], by simp [gt, e2], by simp [gt, e7], by simp [gt, e8], by simp [gt, e9]⟩, hset⟩, by simp [gt, iv, e14] <;> omega⟩
    · subst ht0
      have d2 : decide ((0 : Int) ≤ ((0 : Nat) : Int) - 1) = false := by decide
      simp only [e0, e1, e2, e7, e8, e9, e10, e12, e13, e14, d2, ↓D0, ↓D1, ↓D2, ↓D3, ↓D4, ↓D5, ↓D6, ↓D7, ↓D8, ↓D9, U0, U1, U2, U3, U4, U5, U6, U7, U8, U9, U10, ↓reduceIte, Nat.reduceAdd, Nat.reduceMul, Nat.reduceSub, Nat.reduceEqDiff, Nat.reduceBEq, Nat.reduceLeDiff, Nat.reduceLT, Int.reduceAdd, Int.reduceMul, Int.reduceSub, Int.reduceLT, Int.reduceLE, Int.reduceToNat, Int.reduceEq, Int.reduceNe, Int.reduceBEq, Int.reduceBNe, ne_eq, eq_self]
      refine callT_of (c_fill (n := N) hN2 (RowU.own y N _ _ _) hS) ?_
      rintro v H' ⟨b, s, rfl, hS⟩
      have hx1 := hS.lk 3 rfl
      have r1 := fun o n => rdn_of hx1 o n
      simp only [e0, e1, e2, e7, e8, e9, e12, e13, hx1, r1, ↓D0, ↓D1, ↓D2, ↓D3, ↓D4, ↓D5, ↓D6, ↓D7, ↓D8, ↓D9, U0, U1, U2, U3, U4, U5, U6, U7, U8, U9, U10, ↓reduceIte, Nat.reduceAdd, Nat.reduceMul, Nat.reduceSub, Nat.reduceEqDiff, Nat.reduceBEq, Nat.reduceLeDiff, Nat.reduceLT, Int.reduceAdd, Int.reduceMul, Int.reduceSub, Int.reduceLT, Int.reduceLE, Int.reduceToNat, Int.reduceEq, Int.reduceNe, Int.reduceBEq, Int.reduceBNe, ne_eq, eq_self]
      refine callT_of (c_gvnew (sh := ⟨1, 2, M⟩) hS) ?_
      rintro v H' ⟨kt, rfl, hS⟩
      obtain ⟨w0, hw0⟩ : ∃ w0, w0 = rowW N (mgF (gvF k 1 j) o M B 0) := ⟨_, rfl⟩
      rw [← hw0] at hS
      have hof0 : w0.of ⟨1, 2, M⟩ := by rw [hw0]; exact rowW_of hN.symm fun i _ => mgF_U (gvF_U k 1 j) _ _ _ _ i
      have hG : ∀ q : Nat, q < N → w0.get (q : Int) = mgF (gvF k 1 j) o M B 0 q := fun q q1 => by
        rw [hw0]
        show (if (q : Int).toNat < N then mgF (gvF k 1 j) o M B 0 (q : Int).toNat else 0) = _
        rw [Int.toNat_natCast, if_pos q1]
      have g2 : w0.get 2 = super k 1 := by
        rw [show (2 : Int) = ((2 : Nat) : Int) from rfl, hG 2 (by omega)]; unfold mgF gvF; rw [if_neg (by omega), if_neg (by omega)]; rfl
      have g3 : w0.get 3 = taken k := by
        rw [show (3 : Int) = ((3 : Nat) : Int) from rfl, hG 3 (by omega)]; unfold mgF gvF; rw [if_neg (by omega), if_pos (by omega)]
      have hR : Gv.Rem M 1 k w0 := ⟨by omega, by omega, by decide, by decide, kb'.1, kb'.2, hof0, by rw [hw0]; rfl, g2, g3⟩
      have hZ : ∀ j' : Nat, j' < M → (Gv.Zf M 1 w0 j' ↔ B j' = false) := fun j' hj' => by
        unfold Gv.Zf
        rw [mag_yes hmay (by decide) (by decide) (by omega) (by omega), show (2 + 1 + 1 * 16 + 1 * (M : Int) + (j' : Int)) = ((o + j' : Nat) : Int) by omega, hG _ (by omega)]
        unfold mgF gvF
        rw [show o + j' - o = j' by omega]
        cases hB : B j'
        · rw [if_neg (fun h => by cases h.2.2), if_neg (by omega), if_neg (by omega)]; simp
        · rw [if_pos ⟨by omega, by omega, rfl⟩]; simp
      simp only [e0, e1, e2, e7, e8, e9, e12, e13, ↓D0, ↓D1, ↓D2, ↓D3, ↓D4, ↓D5, ↓D6, ↓D7, ↓D8, ↓D9, U0, U1, U2, U3, U4, U5, U6, U7, U8, U9, U10, ↓reduceIte, Nat.reduceAdd, Nat.reduceMul, Nat.reduceSub, Nat.reduceEqDiff, Nat.reduceBEq, Nat.reduceLeDiff, Nat.reduceLT, Int.reduceAdd, Int.reduceMul, Int.reduceSub, Int.reduceLT, Int.reduceLE, Int.reduceToNat, Int.reduceEq, Int.reduceNe, Int.reduceBEq, Int.reduceBNe, ne_eq, eq_self]
      refine loop_intro (grC g0 true k fr 1 w0 N M n cap a x b kt s (sg x (.cells #[.int .i64 1, .int .i64 2, .int .i64 (M : Int)] 25 (0, 0)) :: h :: l)) (fun F' _ => (M + 10 - iv (gt F' 17)).toNat)
        ⟨0, 0, by omega, rfl, by simp [gt, e13], by simp [gt, e12], by simp [gt], by simp [gt], ⟨by simp [gt, e0], by simp [gt, e1], by simp [gt, e2], by simp [gt, e7], by simp [gt, e8], by simp [gt, e9]⟩, hS.p3.tail.nothing.p1⟩ ?_
      rintro F' H' ⟨j2, pa, hj2, e17, e13, e12, e15, e16, ⟨e0, e1, e2, e7, e8, e9⟩, hS⟩
      obtain ⟨hv, hs1, hs2⟩ := Gv.Rv.its hR j2 (by omega)
      have w10 : w64 ((M : Int) + 10) = (M : Int) + 10 := w64_eq (by omega) (by omega)
      by_cases hlt : (j2 : Int) < (M : Int) + 10
      · have d1 : decide ((j2 : Int) < (M : Int) + 10) = true := decide_eq_true hlt
        have wj : w64 ((j2 : Int) + 1) = ((j2 + 1 : Nat) : Int) := by rw [w64_eq (by omega) (by omega)]; omega
        simp only [e0, e1, e2, e7, e8, e9, e12, e13, e15, e16, e17, wrap_w64, w10, d1, ↓D0, ↓D1, ↓D2, ↓D3, ↓D4, ↓D5, ↓D6, ↓D7, ↓D8, ↓D9, U0, U1, U2, U3, U4, U5, U6, U7, U8, U9, U10, ↓reduceIte, Nat.reduceAdd, Nat.reduceMul, Nat.reduceSub, Nat.reduceEqDiff, Nat.reduceBEq, Nat.reduceLeDiff, Nat.reduceLT, Int.reduceAdd, Int.reduceMul, Int.reduceSub, Int.reduceLT, Int.reduceLE, Int.reduceToNat, Int.reduceEq, Int.reduceNe, Int.reduceBEq, Int.reduceBNe, ne_eq, eq_self]
        refine callT_of (c_gvits (Gv.new_wf _ _ _) hof0 j2 hS) ?_
        rintro v H' ⟨rfl, pa2, hS⟩
        simp only [e0, e1, e2, e7, e8, e9, e12, e13, e15, e16, e17, wrap_w64, wj, ↓D0, ↓D1, ↓D2, ↓D3, ↓D4, ↓D5, ↓D6, ↓D7, ↓D8, ↓D9, U0, U1, U2, U3, U4, U5, U6, U7, U8, U9, U10, ↓reduceIte, Nat.reduceAdd, Nat.reduceMul, Nat.reduceSub, Nat.reduceEqDiff, Nat.reduceBEq, Nat.reduceLeDiff, Nat.reduceLT, Int.reduceAdd, Int.reduceMul, Int.reduceSub, Int.reduceLT, Int.reduceLE, Int.reduceToNat, Int.reduceEq, Int.reduceNe, Int.reduceBEq, Int.reduceBNe, ne_eq, eq_self]
        exact ⟨⟨j2 + 1, pa2, by omega, by simp [gt], by simp [gt, e13], by simp [gt, e12], by simp [gt, e15], by simp [gt, e16], ⟨by simp [gt, e0], by simp [gt, e1], by simp [gt, e2], by simp [gt, e7], by simp [gt, e8], by simp [gt, e9]⟩, hS⟩, by simp [gt, iv, e17]; omega⟩
      have d1 : decide ((j2 : Int) < (M : Int) + 10) = false := decide_eq_false hlt
      have hj10 : j2 = M + 10 := by omega
      have hdn := Gv.Rv.ends hR (n := j2) (by omega) (by omega)
      obtain ⟨hgv, hfin⟩ := hv.fin hdn
      have hwn := hv.of.n
      have hwn : ((its Gv.step j2 (Gv.new ⟨1, 2, M⟩ 1 0) w0).2.n : Int) = (N : Int) := hwn.trans hN
      have hop : putSl 1 k = opn k := rfl
      rcases hfin with ⟨q, -⟩ | ⟨-, qf, hst3, hx3⟩ | ⟨-, hx3, f, f0, f1, fz, ff, hst3, hxe⟩
      · cases q
      · have hfr : fr = -1 := by
          rcases hF with ⟨q, -⟩ | ⟨f, q1, -, q2, q3, -⟩
          · exact q
          · exact (qf f (by omega) (by omega) ((hZ f q2).2 q3)).elim
        subst hfr
        have dneg : decide ((-1 : Int) < 0) = true := by decide
        have w3 : w64 (3 + (M : Int)) = 3 + (M : Int) := w64_eq (by omega) (by omega)
        simp only [e0, e1, e2, e7, e8, e9, e12, e13, e15, e16, e17, wrap_w64, w10, d1, u_putsl, dneg, ↓D0, ↓D1, ↓D2, ↓D3, ↓D4, ↓D5, ↓D6, ↓D7, ↓D8, ↓D9, U0, U1, U2, U3, U4, U5, U6, U7, U8, U9, U10, ↓reduceIte, Nat.reduceAdd, Nat.reduceMul, Nat.reduceSub, Nat.reduceEqDiff, Nat.reduceBEq, Nat.reduceLeDiff, Nat.reduceLT, Int.reduceAdd, Int.reduceMul, Int.reduceSub, Int.reduceLT, Int.reduceLE, Int.reduceToNat, Int.reduceEq, Int.reduceNe, Int.reduceBEq, Int.reduceBNe, ne_eq, eq_self]
        refine callT_of (c_gvdone hS) ?_
        rintro v H' ⟨rfl, hS⟩
        simp only [e0, e1, e2, e7, e8, e9, e12, e13, e15, e16, hdn, ↓D0, ↓D1, ↓D2, ↓D3, ↓D4, ↓D5, ↓D6, ↓D7, ↓D8, ↓D9, U0, U1, U2, U3, U4, U5, U6, U7, U8, U9, U10, ↓reduceIte, Nat.reduceAdd, Nat.reduceMul, Nat.reduceSub, Nat.reduceEqDiff, Nat.reduceBEq, Nat.reduceLeDiff, Nat.reduceLT, Int.reduceAdd, Int.reduceMul, Int.reduceSub, Int.reduceLT, Int.reduceLE, Int.reduceToNat, Int.reduceEq, Int.reduceNe, Int.reduceBEq, Int.reduceBNe, ne_eq, eq_self]
        refine callT_of (c_gvgave hS) ?_
        rintro v H' ⟨rfl, hS⟩
        simp only [e0, e1, e2, e7, e8, e9, e12, e13, e15, e16, hgv, ↓D0, ↓D1, ↓D2, ↓D3, ↓D4, ↓D5, ↓D6, ↓D7, ↓D8, ↓D9, U0, U1, U2, U3, U4, U5, U6, U7, U8, U9, U10, ↓reduceIte, Nat.reduceAdd, Nat.reduceMul, Nat.reduceSub, Nat.reduceEqDiff, Nat.reduceBEq, Nat.reduceLeDiff, Nat.reduceLT, Int.reduceAdd, Int.reduceMul, Int.reduceSub, Int.reduceLT, Int.reduceLE, Int.reduceToNat, Int.reduceEq, Int.reduceNe, Int.reduceBEq, Int.reduceBNe, ne_eq, eq_self]
        refine callT_of (c_steps hS.tail.tail) ?_
        rintro v H' ⟨rfl, hS⟩
        simp only [e0, e1, e2, e7, e8, e9, e12, e13, e15, e16, hst3, wrap_w64, w3, ↓D0, ↓D1, ↓D2, ↓D3, ↓D4, ↓D5, ↓D6, ↓D7, ↓D8, ↓D9, U0, U1, U2, U3, U4, U5, U6, U7, U8, U9, U10, ↓reduceIte, Nat.reduceAdd, Nat.reduceMul, Nat.reduceSub, Nat.reduceEqDiff, Nat.reduceBEq, Nat.reduceLeDiff, Nat.reduceLT, Int.reduceAdd, Int.reduceMul, Int.reduceSub, Int.reduceLT, Int.reduceLE, Int.reduceToNat, Int.reduceEq, Int.reduceNe, Int.reduceBEq, Int.reduceBNe, ne_eq, eq_self]
        refine callT_of (c_look 3 (by decide) (by omega) hS) ?_
        rintro v H' ⟨rfl, hS⟩
        simp only [e0, e1, e2, e7, e8, e9, e12, e13, e15, e16, hx3, hop, ↓D0, ↓D1, ↓D2, ↓D3, ↓D4, ↓D5, ↓D6, ↓D7, ↓D8, ↓D9, U0, U1, U2, U3, U4, U5, U6, U7, U8, U9, U10, ↓reduceIte, Nat.reduceAdd, Nat.reduceMul, Nat.reduceSub, Nat.reduceEqDiff, Nat.reduceBEq, Nat.reduceLeDiff, Nat.reduceLT, Int.reduceAdd, Int.reduceMul, Int.reduceSub, Int.reduceLT, Int.reduceLE, Int.reduceToNat, Int.reduceEq, Int.reduceNe, Int.reduceBEq, Int.reduceBNe, ne_eq, eq_self]
        first | exact hS.tail.tail.tail | exact ⟨rfl, hS.tail.tail.tail⟩
      · have hfr : fr = f := by
          rcases hF with ⟨q, q1⟩ | ⟨f', q1, -, q2, q3, q4⟩
          · have h1 := q1 f.toNat (by omega) (by omega)
            have h2 := (hZ f.toNat (by omega)).1 (by rw [show ((f.toNat : Nat) : Int) = f by omega]; exact fz)
            rw [h1] at h2; cases h2
          · rcases Int.lt_trichotomy f (f' : Int) with hc | hc | hc
            · have h1 := q4 f.toNat (by omega) (by omega)
              have h2 := (hZ f.toNat (by omega)).1 (by rw [show ((f.toNat : Nat) : Int) = f by omega]; exact fz)
              rw [h1] at h2; cases h2
            · omega
            · exact (ff f' (by omega) hc ((hZ f' q2).2 q3)).elim
        rw [hfr] at e13
        have dneg : decide (f < 0) = false := decide_eq_false (by omega)
        have w4 : w64 (4 + f) = 4 + f := w64_eq (by omega) (by omega)
        have hwy : putSl 2 1 = way 1 := rfl
        have hma : mag 1 2 (M : Int) 1 f = 19 + (M : Int) + f := by rw [mag_yes hmay (by decide) (by decide) (by omega) (by omega)]; omega
        rw [hma] at hxe
        simp only [e0, e1, e2, e7, e8, e9, e12, e13, e15, e16, e17, wrap_w64, w10, d1, u_putsl, dneg, ↓D0, ↓D1, ↓D2, ↓D3, ↓D4, ↓D5, ↓D6, ↓D7, ↓D8, ↓D9, U0, U1, U2, U3, U4, U5, U6, U7, U8, U9, U10, ↓reduceIte, Nat.reduceAdd, Nat.reduceMul, Nat.reduceSub, Nat.reduceEqDiff, Nat.reduceBEq, Nat.reduceLeDiff, Nat.reduceLT, Int.reduceAdd, Int.reduceMul, Int.reduceSub, Int.reduceLT, Int.reduceLE, Int.reduceToNat, Int.reduceEq, Int.reduceNe, Int.reduceBEq, Int.reduceBNe, ne_eq, eq_self]
        refine callT_of (c_gvdone hS) ?_
        rintro v H' ⟨rfl, hS⟩
        simp only [e0, e1, e2, e7, e8, e9, e12, e13, e15, e16, hdn, ↓D0, ↓D1, ↓D2, ↓D3, ↓D4, ↓D5, ↓D6, ↓D7, ↓D8, ↓D9, U0, U1, U2, U3, U4, U5, U6, U7, U8, U9, U10, ↓reduceIte, Nat.reduceAdd, Nat.reduceMul, Nat.reduceSub, Nat.reduceEqDiff, Nat.reduceBEq, Nat.reduceLeDiff, Nat.reduceLT, Int.reduceAdd, Int.reduceMul, Int.reduceSub, Int.reduceLT, Int.reduceLE, Int.reduceToNat, Int.reduceEq, Int.reduceNe, Int.reduceBEq, Int.reduceBNe, ne_eq, eq_self]
        refine callT_of (c_gvgave hS) ?_
        rintro v H' ⟨rfl, hS⟩
        simp only [e0, e1, e2, e7, e8, e9, e12, e13, e15, e16, hgv, ↓D0, ↓D1, ↓D2, ↓D3, ↓D4, ↓D5, ↓D6, ↓D7, ↓D8, ↓D9, U0, U1, U2, U3, U4, U5, U6, U7, U8, U9, U10, ↓reduceIte, Nat.reduceAdd, Nat.reduceMul, Nat.reduceSub, Nat.reduceEqDiff, Nat.reduceBEq, Nat.reduceLeDiff, Nat.reduceLT, Int.reduceAdd, Int.reduceMul, Int.reduceSub, Int.reduceLT, Int.reduceLE, Int.reduceToNat, Int.reduceEq, Int.reduceNe, Int.reduceBEq, Int.reduceBNe, ne_eq, eq_self]
        refine callT_of (c_steps hS.tail.tail) ?_
        rintro v H' ⟨rfl, hS⟩
        simp only [e0, e1, e2, e7, e8, e9, e12, e13, e15, e16, hst3, wrap_w64, w4, ↓D0, ↓D1, ↓D2, ↓D3, ↓D4, ↓D5, ↓D6, ↓D7, ↓D8, ↓D9, U0, U1, U2, U3, U4, U5, U6, U7, U8, U9, U10, ↓reduceIte, Nat.reduceAdd, Nat.reduceMul, Nat.reduceSub, Nat.reduceEqDiff, Nat.reduceBEq, Nat.reduceLeDiff, Nat.reduceLT, Int.reduceAdd, Int.reduceMul, Int.reduceSub, Int.reduceLT, Int.reduceLE, Int.reduceToNat, Int.reduceEq, Int.reduceNe, Int.reduceBEq, Int.reduceBNe, ne_eq, eq_self]
        refine callT_of (c_look 3 (by decide) (by omega) hS) ?_
        rintro v H' ⟨rfl, hS⟩
        have hx1 := hS.lk 2 rfl
        have r1 := fun o n => rdn_of hx1 o n
        simp only [e0, e1, e2, e7, e8, e9, e12, e13, e15, e16, hx3, hwy, u_putsl, hx1, r1, u_mag, hma, ↓D0, ↓D1, ↓D2, ↓D3, ↓D4, ↓D5, ↓D6, ↓D7, ↓D8, ↓D9, U0, U1, U2, U3, U4, U5, U6, U7, U8, U9, U10, ↓reduceIte, Nat.reduceAdd, Nat.reduceMul, Nat.reduceSub, Nat.reduceEqDiff, Nat.reduceBEq, Nat.reduceLeDiff, Nat.reduceLT, Int.reduceAdd, Int.reduceMul, Int.reduceSub, Int.reduceLT, Int.reduceLE, Int.reduceToNat, Int.reduceEq, Int.reduceNe, Int.reduceBEq, Int.reduceBNe, ne_eq, eq_self]
        refine callT_of (c_look (19 + (M : Int) + f) (by omega) (by omega) hS) ?_
        rintro v H' ⟨rfl, hS⟩
        simp only [e0, e1, e2, e7, e8, e9, e12, e13, e15, e16, hxe, u_puten, ↓D0, ↓D1, ↓D2, ↓D3, ↓D4, ↓D5, ↓D6, ↓D7, ↓D8, ↓D9, U0, U1, U2, U3, U4, U5, U6, U7, U8, U9, U10, ↓reduceIte, Nat.reduceAdd, Nat.reduceMul, Nat.reduceSub, Nat.reduceEqDiff, Nat.reduceBEq, Nat.reduceLeDiff, Nat.reduceLT, Int.reduceAdd, Int.reduceMul, Int.reduceSub, Int.reduceLT, Int.reduceLE, Int.reduceToNat, Int.reduceEq, Int.reduceNe, Int.reduceBEq, Int.reduceBNe, ne_eq, eq_self]
        first | exact hS.tail.tail.tail | exact ⟨rfl, hS.tail.tail.tail⟩
end
theorem l_giveremote {W : World} {a : Option Addr} {n cap : Nat} {B : Nat → Bool} (g0 : Int) (hg : 0 ≤ g0 ∧ g0 ≤ 255) (wh : Bool) (hn : n ≤ 9223372036854775807) (hr : RowV (memOf W) a n (fun i => .bool (B i))) :
    CallP Try.prog W 6 #[.int .u8 g0, .bool wh, .slice a n cap] (memOf W) fun v H' => v = .bool true ∧ Sub (memOf W) H' :=
  (c_giveremote wh hg.1 hg.2 hn hr (Sep.one _)).mono fun v H' ⟨h1, h2⟩ => ⟨h1, h2.head⟩
end Go.Proofs.Ytbehnodllajnjaa
