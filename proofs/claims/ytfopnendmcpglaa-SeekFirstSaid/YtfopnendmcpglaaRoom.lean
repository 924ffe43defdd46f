/-
  The document's answer whether there is room. Conditions: none.
-/
import Derived.Test.YtfopnendmcpglaaCodeAllotmentref20
import Derived.Test.YtfopnendmcpglaaSound1
import Derived.Test.YtfopnendmcpglaaSound2
import Derived.Test.YtfopnendmcpglaaRefPlan
import Derived.Test.YtfopnendmcpglaaMaFree
set_option linter.unusedVariables false
set_option linter.unusedSectionVars false
set_option linter.unusedSimpArgs false
set_option maxRecDepth 8000
namespace Go.Proofs.Ytfopnendmcpglaa
open Go Go.Ev Go.Pl Go.Ma

/-- So far: so many pages in a row that nobody has; no row that is long enough. -/
structure RowI (sh : Sh) (ws : Nat → Int) (M : Int) (p row : Nat) : Prop where
  m : (row : Int) < M
  le : row ≤ p
  fr : ∀ q : Int, (p : Int) - row ≤ q → q < p → Rw.Free sh ws q
  st : row = p ∨ ¬ Rw.Free sh ws ((p : Int) - row - 1)
  no : ∀ g : Int, 0 ≤ g → g + M ≤ p → ∃ q, g ≤ q ∧ q < g + M ∧ ¬ Rw.Free sh ws q
theorem RowI.zero {sh : Sh} {ws : Nat → Int} {M : Int} (hM : 1 ≤ M) : RowI sh ws M 0 0 := ⟨by omega, Nat.le_refl _, fun q q0 q1 => by omega, .inl rfl, fun g g0 g1 => by omega⟩
theorem RowI.yes {sh : Sh} {ws : Nat → Int} {M : Int} {p row : Nat} (h : RowI sh ws M p row) (hf : Rw.Free sh ws p) (hl : ((row + 1 : Nat) : Int) < M) : RowI sh ws M (p + 1) (row + 1) := by
  have hm := h.m
  have hle := h.le
  refine ⟨hl, by omega, fun q q0 q1 => ?_, ?_, fun g g0 g1 => ?_⟩
  · by_cases e : q = p
    · rw [e]; exact hf
    · exact h.fr q (by omega) (by omega)
  · rcases h.st with e | e
    · exact .inl (by omega)
    · right; rw [show ((p + 1 : Nat) : Int) - ((row + 1 : Nat) : Int) - 1 = (p : Int) - row - 1 by omega]; exact e
  · by_cases e : g + M ≤ p
    · exact h.no g g0 e
    · rcases h.st with e2 | e2
      · omega
      · exact ⟨_, by omega, by omega, e2⟩
theorem RowI.no' {sh : Sh} {ws : Nat → Int} {M : Int} {p row : Nat} (h : RowI sh ws M p row) (hf : ¬ Rw.Free sh ws p) (hM : 1 ≤ M) : RowI sh ws M (p + 1) 0 := by
  refine ⟨by omega, by omega, fun q q0 q1 => by omega, .inr ?_, fun g g0 g1 => ?_⟩
  · rw [show ((p + 1 : Nat) : Int) - ((0 : Nat) : Int) - 1 = (p : Int) by omega]; exact hf
  · by_cases e : g + M ≤ p
    · exact h.no g g0 e
    · exact ⟨_, by omega, by omega, hf⟩
theorem RowI.win {sh : Sh} {ws : Nat → Int} {M : Int} {p row : Nat} (h : RowI sh ws M p row) (hf : Rw.Free sh ws p) (hl : ¬ ((row + 1 : Nat) : Int) < M) (hp : (p : Int) < sh.p) : ∃ g, 0 ≤ g ∧ g + M ≤ sh.p ∧ ∀ q, g ≤ q → q < g + M → Rw.Free sh ws q := by
  have hm := h.m
  have hle := h.le
  refine ⟨(p : Int) - row, by omega, by omega, fun q q0 q1 => ?_⟩
  by_cases e : q = p
  · rw [e]; exact hf
  · exact h.fr q q0 (by omega)
theorem RowI.end' {sh : Sh} {ws : Nat → Int} {M : Int} {p row : Nat} (h : RowI sh ws M p row) (hp : sh.p ≤ p) : ¬ ∃ g, 0 ≤ g ∧ g + M ≤ sh.p ∧ ∀ q, g ≤ q → q < g + M → Rw.Free sh ws q := fun ⟨g, g0, g1, g2⟩ => by
  obtain ⟨q, q0, q1, q2⟩ := h.no g g0 (by omega)
  exact q2 (g2 q q0 q1)
section
variable {W : World} {H h : Hp} {l : List Hp} {n cap : Nat} {a : Option Addr} {ws : Nat → Int} {sh : Sh}
def rmG (n cap : Nat) (a : Option Addr) (x : Nat) (M : Int) (F' : Fr) : Prop := gt F' 1 = .slice a n cap ∧ gt F' 3 = .pointer (some ⟨x, 0, none⟩) ∧ gt F' 7 = .int .i64 M
def rmA (sh : Sh) (ws : Nat → Int) (n cap : Nat) (a : Option Addr) (x : Nat) (M : Int) (L : List Hp) (F' : Fr) (H' : Hp) : Prop :=
  ∃ (p row : Nat), (p : Int) ≤ sh.p ∧ gt F' 12 = .int .i64 (p : Int) ∧ gt F' 11 = .int .i64 (row : Int) ∧ rmG n cap a x M F' ∧ RowI sh ws M p row ∧ Sep L H'
def rmB (p row : Nat) (A : Int) (sh : Sh) (ws : Nat → Int) (y n cap : Nat) (a : Option Addr) (x : Nat) (M : Int) (L : List Hp) (F' : Fr) (H' : Hp) : Prop :=
  ∃ (i : Nat) (fb : Bool), (i : Int) ≤ slots A ∧ gt F' 16 = .int .i64 (i : Int) ∧ gt F' 15 = .bool fb ∧ gt F' 13 = .pointer (some ⟨y, 0, none⟩) ∧ gt F' 12 = .int .i64 (p : Int) ∧ gt F' 11 = .int .i64 (row : Int) ∧ rmG n cap a x M F' ∧ (fb = true ↔ ∀ j : Int, 0 ≤ j → j < i → slK (slAt sh ws p j) = 1) ∧ Sep L H'
set_option maxHeartbeats 4000000 in
theorem c_room (N M : Int) (hN : (large N = true ∧ small N = false ∧ pages N = M) ∨ (large N = false ∧ small N = true ∧ M = 1)) (hM : 1 ≤ M ∧ M ≤ 8) (hm : may sh.p sh.c sh.m = true) (hn : (n : Int) = words sh.p sh.c sh.m) (hr : RowU h a n ws) (hU : ∀ i, i < n → U (ws i)) (hok : ∀ q : Nat, (q : Int) < sh.p → okPg sh q (pgAt sh ws q) = true) (hS : Sep (h :: l) H) :
    CallP Try.prog W 23 #[.agg #[.int .i64 sh.p, .int .i64 sh.c, .int .i64 sh.m], .slice a n cap, .int .i64 N] H fun v H' => ∃ b, v = .bool b ∧ (b = true ↔ ∃ g, 0 ≤ g ∧ g + M ≤ sh.p ∧ ∀ q, g ≤ q → q < g + M → Rw.Free sh ws q) ∧ Sep (h :: l) H' := by
  refine CallP.of mixed Try.func23 tr23 (by show 3 ≤ _; decide) fun W _ => ?_
  simp only [↓D0, ↓D1, ↓D2, ↓D3, ↓D4, ↓D5, ↓D6, ↓D7, ↓D8, ↓D9, ↓D10, U0, U1, U2, U3, U4, U5, U6, U7, U8, U9, U10, ↓reduceIte, Nat.reduceAdd, Nat.reduceMul, Nat.reduceSub, Nat.reduceEqDiff, Nat.reduceBEq, Nat.reduceLeDiff, Nat.reduceLT, Int.reduceAdd, Int.reduceMul, Int.reduceSub, Int.reduceLT, Int.reduceLE, Int.reduceToNat, Int.reduceEq, Int.reduceNe, Int.reduceBEq, Int.reduceBNe, ne_eq, eq_self]
  refine newB_intro fun x hx f1 f2 => ?_
  have hS := (hS.new f1 (.cells #[.int .i64 sh.p, .int .i64 sh.c, .int .i64 sh.m] 23 (0, 0)))
  have hw := words_ge hm hn
  have hb := (may_iff _ _ _).1 hm
  have hx1 := hS.look
  have r1 := fun o n => rdn_of hx1 o n
  rcases hN with ⟨q1, q2, q3⟩ | ⟨q1, q2, q3⟩
  all_goals
    simp only [hx1, r1, u_class, u_run, q1, q2, ↓D0, ↓D1, ↓D2, ↓D3, ↓D4, ↓D5, ↓D6, ↓D7, ↓D8, ↓D9, ↓D10, U0, U1, U2, U3, U4, U5, U6, U7, U8, U9, U10, ↓reduceIte, Nat.reduceAdd, Nat.reduceMul, Nat.reduceSub, Nat.reduceEqDiff, Nat.reduceBEq, Nat.reduceLeDiff, Nat.reduceLT, Int.reduceAdd, Int.reduceMul, Int.reduceSub, Int.reduceLT, Int.reduceLE, Int.reduceToNat, Int.reduceEq, Int.reduceNe, Int.reduceBEq, Int.reduceBNe, ne_eq, eq_self]
    refine callT_of (c_senough hm hn hS.p1) ?_
    rintro v H' ⟨rfl, hS⟩
    have hx1 := hS.lk 1 rfl
    have r1 := fun o n => rdn_of hx1 o n
    simp only [↓D0, ↓D1, ↓D2, ↓D3, ↓D4, ↓D5, ↓D6, ↓D7, ↓D8, ↓D9, ↓D10, U0, U1, U2, U3, U4, U5, U6, U7, U8, U9, U10, ↓reduceIte, Nat.reduceAdd, Nat.reduceMul, Nat.reduceSub, Nat.reduceEqDiff, Nat.reduceBEq, Nat.reduceLeDiff, Nat.reduceLT, Int.reduceAdd, Int.reduceMul, Int.reduceSub, Int.reduceLT, Int.reduceLE, Int.reduceToNat, Int.reduceEq, Int.reduceNe, Int.reduceBEq, Int.reduceBNe, ne_eq, eq_self]
    refine loop_intro (rmA sh ws n cap a x M (h :: sg x (.cells #[.int .i64 sh.p, .int .i64 sh.c, .int .i64 sh.m] 23 (0, 0)) :: l)) (fun F' _ => (sh.p - iv (gt F' 12)).toNat)
      ⟨0, 0, by omega, by simp [gt], by simp [gt], ⟨by simp [gt], by simp [gt], by simp [gt, q3]⟩, RowI.zero hM.1, hS⟩ ?_
    clear hS hx1 r1
    rintro F' H' ⟨p, row, hp, e12, e11, ⟨e1, e3, e7⟩, hI, hS⟩
    have hx1 := hS.lk 1 rfl
    have r1 := fun o n => rdn_of hx1 o n
    have r0 := fun o => rd_of hx1 o
    by_cases hlt : (p : Int) < sh.p
    rotate_left
    · have d1 : decide ((p : Int) < sh.p) = false := decide_eq_false hlt
      simp only [e12, e11, e1, e3, e7, hx1, r0, r1, d1, ↓D0, ↓D1, ↓D2, ↓D3, ↓D4, ↓D5, ↓D6, ↓D7, ↓D8, ↓D9, ↓D10, U0, U1, U2, U3, U4, U5, U6, U7, U8, U9, U10, ↓reduceIte, Nat.reduceAdd, Nat.reduceMul, Nat.reduceSub, Nat.reduceEqDiff, Nat.reduceBEq, Nat.reduceLeDiff, Nat.reduceLT, Int.reduceAdd, Int.reduceMul, Int.reduceSub, Int.reduceLT, Int.reduceLE, Int.reduceToNat, Int.reduceEq, Int.reduceNe, Int.reduceBEq, Int.reduceBNe, ne_eq, eq_self]
      exact ⟨false, rfl, ⟨fun h => by (cases h), fun h => absurd h (hI.end' (by omega))⟩, hS.p1.tail⟩
    have d1 : decide ((p : Int) < sh.p) = true := decide_eq_true hlt
    have wi : w64 ((p : Int) + 1) = ((p + 1 : Nat) : Int) := by rw [w64_eq (by omega) (by omega)]; omega
    have hIm := hI.m
    have wr : w64 ((row : Int) + 1) = ((row + 1 : Nat) : Int) := by rw [w64_eq (by omega) (by omega)]; omega
    simp only [e12, e11, e1, e3, e7, hx1, r0, r1, d1, ↓D0, ↓D1, ↓D2, ↓D3, ↓D4, ↓D5, ↓D6, ↓D7, ↓D8, ↓D9, ↓D10, U0, U1, U2, U3, U4, U5, U6, U7, U8, U9, U10, ↓reduceIte, Nat.reduceAdd, Nat.reduceMul, Nat.reduceSub, Nat.reduceEqDiff, Nat.reduceBEq, Nat.reduceLeDiff, Nat.reduceLT, Int.reduceAdd, Int.reduceMul, Int.reduceSub, Int.reduceLT, Int.reduceLE, Int.reduceToNat, Int.reduceEq, Int.reduceNe, Int.reduceBEq, Int.reduceBNe, ne_eq, eq_self]
    refine callT_of (c_spage p hm hn hr hU hS) ?_
    rintro v H' ⟨rfl, hS⟩
    have hx1 := hS.lk 1 rfl
    have hpat : spX sh ws p = pgAt sh ws p := rfl
    simp only [e12, e11, e1, e3, e7, hpat, hok p hlt, ↓D0, ↓D1, ↓D2, ↓D3, ↓D4, ↓D5, ↓D6, ↓D7, ↓D8, ↓D9, ↓D10, U0, U1, U2, U3, U4, U5, U6, U7, U8, U9, U10, ↓reduceIte, Nat.reduceAdd, Nat.reduceMul, Nat.reduceSub, Nat.reduceEqDiff, Nat.reduceBEq, Nat.reduceLeDiff, Nat.reduceLT, Int.reduceAdd, Int.reduceMul, Int.reduceSub, Int.reduceLT, Int.reduceLE, Int.reduceToNat, Int.reduceEq, Int.reduceNe, Int.reduceBEq, Int.reduceBNe, ne_eq, eq_self]
    refine newB_intro fun y hy f3 f4 => ?_
    have nxy : (x = y) = False := f3 x (by rw [hx1]; rfl)
    have nyx : (y = x) = False := f4 x (by rw [hx1]; rfl)
    obtain ⟨K, hK⟩ : ∃ K, pgK sh p (pgAt sh ws p) = K := ⟨_, rfl⟩
    obtain ⟨A, hA⟩ : ∃ A, pgA sh p (pgAt sh ws p) = A := ⟨_, rfl⟩
    rw [hK, hA]
    have hS := hS.new f3 (.cells #[.int .i64 K, .int .i64 A, .int .i64 (pgB sh p (pgAt sh ws p))] 59 (0, 0))
    simp only [e12, e11, e1, e3, e7, nxy, nyx, hK, hA, Ev.upd_upd, ↓D0, ↓D1, ↓D2, ↓D3, ↓D4, ↓D5, ↓D6, ↓D7, ↓D8, ↓D9, ↓D10, U0, U1, U2, U3, U4, U5, U6, U7, U8, U9, U10, ↓reduceIte, Nat.reduceAdd, Nat.reduceMul, Nat.reduceSub, Nat.reduceEqDiff, Nat.reduceBEq, Nat.reduceLeDiff, Nat.reduceLT, Int.reduceAdd, Int.reduceMul, Int.reduceSub, Int.reduceLT, Int.reduceLE, Int.reduceToNat, Int.reduceEq, Int.reduceNe, Int.reduceBEq, Int.reduceBNe, ne_eq, eq_self]
    rw [Ev.upd_upd]
    by_cases k2 : K = 2
    rotate_left
    · have g2 : (K == 2) = false := beq_eq_false_iff_ne.2 k2
      cases g0 : (K == 0)
      · have hnf : ¬ Rw.Free sh ws p := Rw.not_free hK (by simpa using g0) k2
        have hJ := hI.no' hnf hM.1
        have dm : decide (M ≤ (0 : Int)) = false := decide_eq_false (by omega)
        simp only [e12, e11, e1, e3, e7, nxy, nyx, g2, g0, wrap_w64, wi, wr, dm, ↓D0, ↓D1, ↓D2, ↓D3, ↓D4, ↓D5, ↓D6, ↓D7, ↓D8, ↓D9, ↓D10, U0, U1, U2, U3, U4, U5, U6, U7, U8, U9, U10, ↓reduceIte, Nat.reduceAdd, Nat.reduceMul, Nat.reduceSub, Nat.reduceEqDiff, Nat.reduceBEq, Nat.reduceLeDiff, Nat.reduceLT, Int.reduceAdd, Int.reduceMul, Int.reduceSub, Int.reduceLT, Int.reduceLE, Int.reduceToNat, Int.reduceEq, Int.reduceNe, Int.reduceBEq, Int.reduceBNe, ne_eq, eq_self]
        exact ⟨⟨p + 1, 0, by omega, by simp [gt], by simp [gt], ⟨by simp [gt, e1], by simp [gt, e3], by simp [gt, e7]⟩, hJ, hS.tail⟩, by simp [gt, iv, e12]; omega⟩
      · have hf : Rw.Free sh ws p := .inl (hK.trans (by simpa using g0))
        by_cases hl : ((row + 1 : Nat) : Int) < M
        · have dm : decide (M ≤ ((row + 1 : Nat) : Int)) = false := decide_eq_false (by omega)
          have hJ := hI.yes hf hl
          simp only [e12, e11, e1, e3, e7, nxy, nyx, g2, g0, wrap_w64, wi, wr, dm, ↓D0, ↓D1, ↓D2, ↓D3, ↓D4, ↓D5, ↓D6, ↓D7, ↓D8, ↓D9, ↓D10, U0, U1, U2, U3, U4, U5, U6, U7, U8, U9, U10, ↓reduceIte, Nat.reduceAdd, Nat.reduceMul, Nat.reduceSub, Nat.reduceEqDiff, Nat.reduceBEq, Nat.reduceLeDiff, Nat.reduceLT, Int.reduceAdd, Int.reduceMul, Int.reduceSub, Int.reduceLT, Int.reduceLE, Int.reduceToNat, Int.reduceEq, Int.reduceNe, Int.reduceBEq, Int.reduceBNe, ne_eq, eq_self]
          exact ⟨⟨p + 1, row + 1, by omega, by simp [gt], by simp [gt], ⟨by simp [gt, e1], by simp [gt, e3], by simp [gt, e7]⟩, hJ, hS.tail⟩, by simp [gt, iv, e12]; omega⟩
        · have dm : decide (M ≤ ((row + 1 : Nat) : Int)) = true := decide_eq_true (by omega)
          simp only [e12, e11, e1, e3, e7, nxy, nyx, g2, g0, wrap_w64, wi, wr, dm, ↓D0, ↓D1, ↓D2, ↓D3, ↓D4, ↓D5, ↓D6, ↓D7, ↓D8, ↓D9, ↓D10, U0, U1, U2, U3, U4, U5, U6, U7, U8, U9, U10, ↓reduceIte, Nat.reduceAdd, Nat.reduceMul, Nat.reduceSub, Nat.reduceEqDiff, Nat.reduceBEq, Nat.reduceLeDiff, Nat.reduceLT, Int.reduceAdd, Int.reduceMul, Int.reduceSub, Int.reduceLT, Int.reduceLE, Int.reduceToNat, Int.reduceEq, Int.reduceNe, Int.reduceBEq, Int.reduceBNe, ne_eq, eq_self]
          exact ⟨true, rfl, ⟨fun _ => hI.win hf hl hlt, fun _ => rfl⟩, hS.tail.p1.tail⟩
    have g2 : (K == 2) = true := beq_iff_eq.2 k2
    have g0 : (K == 0) = false := beq_eq_false_iff_ne.2 (by omega)
    have hAs := Gv.ok_super (hok p hlt) (hK.trans k2)
    rw [hA] at hAs
    have hs4 := slots_four hAs.1 hAs.2.1
    have hfree : Rw.Free sh ws p ↔ ∀ j : Int, 0 ≤ j → j < slots A → slK (slAt sh ws p j) = 1 := by
      unfold Rw.Free
      rw [hK, hA]
      exact ⟨fun g => by (rcases g with g | g; omega; exact g.2), fun g => .inr ⟨k2, g⟩⟩
    simp only [e12, e11, e1, e3, e7, nxy, nyx, g2, g0, ↓D0, ↓D1, ↓D2, ↓D3, ↓D4, ↓D5, ↓D6, ↓D7, ↓D8, ↓D9, ↓D10, U0, U1, U2, U3, U4, U5, U6, U7, U8, U9, U10, ↓reduceIte, Nat.reduceAdd, Nat.reduceMul, Nat.reduceSub, Nat.reduceEqDiff, Nat.reduceBEq, Nat.reduceLeDiff, Nat.reduceLT, Int.reduceAdd, Int.reduceMul, Int.reduceSub, Int.reduceLT, Int.reduceLE, Int.reduceToNat, Int.reduceEq, Int.reduceNe, Int.reduceBEq, Int.reduceBNe, ne_eq, eq_self]
    refine loop_intro (rmB p row A sh ws y n cap a x M (sg y (.cells #[.int .i64 K, .int .i64 A, .int .i64 (pgB sh p (pgAt sh ws p))] 59 (0, 0)) :: h :: sg x (.cells #[.int .i64 sh.p, .int .i64 sh.c, .int .i64 sh.m] 23 (0, 0)) :: l)) (fun F' _ => (slots A - iv (gt F' 16)).toNat)
      ⟨0, true, by omega, by simp [gt], by simp [gt], by simp [gt], by simp [gt, e12], by simp [gt, e11], ⟨by simp [gt, e1], by simp [gt, e3], by simp [gt, e7]⟩, ⟨fun _ j j0 j1 => by omega, fun _ => rfl⟩, hS⟩ ?_
    clear hS hx1 r1 r0 e11 e1 e3 e7
    have e12o := e12
    clear e12
    rintro F'' H' ⟨i, fb, hi, e16, e15, e13, e12, e11, ⟨e1, e3, e7⟩, hfb, hS⟩
    have hx1 := hS.lk 2 rfl
    have r1 := fun o n => rdn_of hx1 o n
    have hy1 := hS.look
    have r0 := fun o => rd_of hy1 o
    by_cases hil : (i : Int) < slots A
    rotate_left
    · have d2 : decide ((i : Int) < slots A) = false := decide_eq_false hil
      have hii : (i : Int) = slots A := by omega
      rw [hii, ← hfree] at hfb
      cases fb
      · have hnf : ¬ Rw.Free sh ws p := fun h => by have := hfb.2 h; cases this
        have hJ := hI.no' hnf hM.1
        have dm : decide (M ≤ (0 : Int)) = false := decide_eq_false (by omega)
        simp only [e16, e15, e13, e12, e11, e1, e3, e7, hy1, r0, u_slots, d2, wrap_w64, wi, wr, dm, ↓D0, ↓D1, ↓D2, ↓D3, ↓D4, ↓D5, ↓D6, ↓D7, ↓D8, ↓D9, ↓D10, U0, U1, U2, U3, U4, U5, U6, U7, U8, U9, U10, ↓reduceIte, Nat.reduceAdd, Nat.reduceMul, Nat.reduceSub, Nat.reduceEqDiff, Nat.reduceBEq, Nat.reduceLeDiff, Nat.reduceLT, Int.reduceAdd, Int.reduceMul, Int.reduceSub, Int.reduceLT, Int.reduceLE, Int.reduceToNat, Int.reduceEq, Int.reduceNe, Int.reduceBEq, Int.reduceBNe, ne_eq, eq_self]
        exact ⟨⟨p + 1, 0, by omega, by simp [gt], by simp [gt], ⟨by simp [gt, e1], by simp [gt, e3], by simp [gt, e7]⟩, hJ, hS.tail⟩, by simp [gt, iv, e12o]; omega⟩
      · have hf : Rw.Free sh ws p := hfb.1 rfl
        by_cases hl : ((row + 1 : Nat) : Int) < M
        · have dm : decide (M ≤ ((row + 1 : Nat) : Int)) = false := decide_eq_false (by omega)
          have hJ := hI.yes hf hl
          simp only [e16, e15, e13, e12, e11, e1, e3, e7, hy1, r0, u_slots, d2, wrap_w64, wi, wr, dm, ↓D0, ↓D1, ↓D2, ↓D3, ↓D4, ↓D5, ↓D6, ↓D7, ↓D8, ↓D9, ↓D10, U0, U1, U2, U3, U4, U5, U6, U7, U8, U9, U10, ↓reduceIte, Nat.reduceAdd, Nat.reduceMul, Nat.reduceSub, Nat.reduceEqDiff, Nat.reduceBEq, Nat.reduceLeDiff, Nat.reduceLT, Int.reduceAdd, Int.reduceMul, Int.reduceSub, Int.reduceLT, Int.reduceLE, Int.reduceToNat, Int.reduceEq, Int.reduceNe, Int.reduceBEq, Int.reduceBNe, ne_eq, eq_self]
          exact ⟨⟨p + 1, row + 1, by omega, by simp [gt], by simp [gt], ⟨by simp [gt, e1], by simp [gt, e3], by simp [gt, e7]⟩, hJ, hS.tail⟩, by simp [gt, iv, e12o]; omega⟩
        · have dm : decide (M ≤ ((row + 1 : Nat) : Int)) = true := decide_eq_true (by omega)
          simp only [e16, e15, e13, e12, e11, e1, e3, e7, hy1, r0, u_slots, d2, wrap_w64, wi, wr, dm, ↓D0, ↓D1, ↓D2, ↓D3, ↓D4, ↓D5, ↓D6, ↓D7, ↓D8, ↓D9, ↓D10, U0, U1, U2, U3, U4, U5, U6, U7, U8, U9, U10, ↓reduceIte, Nat.reduceAdd, Nat.reduceMul, Nat.reduceSub, Nat.reduceEqDiff, Nat.reduceBEq, Nat.reduceLeDiff, Nat.reduceLT, Int.reduceAdd, Int.reduceMul, Int.reduceSub, Int.reduceLT, Int.reduceLE, Int.reduceToNat, Int.reduceEq, Int.reduceNe, Int.reduceBEq, Int.reduceBNe, ne_eq, eq_self]
          exact ⟨true, rfl, ⟨fun _ => hI.win hf hl hlt, fun _ => rfl⟩, hS.tail.p1.tail⟩
    have d2 : decide ((i : Int) < slots A) = true := decide_eq_true hil
    have wj : w64 ((i : Int) + 1) = ((i + 1 : Nat) : Int) := by rw [w64_eq (by omega) (by omega)]; omega
    cases fb
    · simp only [e16, e15, e13, e12, e11, e1, e3, e7, hx1, r1, hy1, r0, u_slots, d2, wrap_w64, wj, ↓D0, ↓D1, ↓D2, ↓D3, ↓D4, ↓D5, ↓D6, ↓D7, ↓D8, ↓D9, ↓D10, U0, U1, U2, U3, U4, U5, U6, U7, U8, U9, U10, ↓reduceIte, Nat.reduceAdd, Nat.reduceMul, Nat.reduceSub, Nat.reduceEqDiff, Nat.reduceBEq, Nat.reduceLeDiff, Nat.reduceLT, Int.reduceAdd, Int.reduceMul, Int.reduceSub, Int.reduceLT, Int.reduceLE, Int.reduceToNat, Int.reduceEq, Int.reduceNe, Int.reduceBEq, Int.reduceBNe, ne_eq, eq_self]
      exact ⟨⟨i + 1, false, by omega, by simp [gt], by simp [gt], by simp [gt, e13], by simp [gt, e12], by simp [gt, e11], ⟨by simp [gt, e1], by simp [gt, e3], by simp [gt, e7]⟩, ⟨fun g => by (cases g), fun g => hfb.2 fun j j0 j1 => g j j0 (by omega)⟩, hS⟩, by simp [gt, iv, e16]; omega⟩
    · simp only [e16, e15, e13, e12, e11, e1, e3, e7, hx1, r1, hy1, r0, u_slots, d2, ↓D0, ↓D1, ↓D2, ↓D3, ↓D4, ↓D5, ↓D6, ↓D7, ↓D8, ↓D9, ↓D10, U0, U1, U2, U3, U4, U5, U6, U7, U8, U9, U10, ↓reduceIte, Nat.reduceAdd, Nat.reduceMul, Nat.reduceSub, Nat.reduceEqDiff, Nat.reduceBEq, Nat.reduceLeDiff, Nat.reduceLT, Int.reduceAdd, Int.reduceMul, Int.reduceSub, Int.reduceLT, Int.reduceLE, Int.reduceToNat, Int.reduceEq, Int.reduceNe, Int.reduceBEq, Int.reduceBNe, ne_eq, eq_self]
      refine callT_of (c_sslot p i hm hn hr hU ⟨by omega, hlt⟩ ⟨by omega, by omega⟩ hS.p1) ?_
      rintro v H' ⟨rfl, hS⟩
      have hsl : slK (ws (sh.c + sh.p + (p : Int) * 16 + (i : Int)).toNat) = slK (slAt sh ws p i) := rfl
      cases t1 : (slK (slAt sh ws p i) == 1)
      all_goals
        simp only [e16, e15, e13, e12, e11, e1, e3, e7, hsl, t1, wrap_w64, wj, ↓D0, ↓D1, ↓D2, ↓D3, ↓D4, ↓D5, ↓D6, ↓D7, ↓D8, ↓D9, ↓D10, U0, U1, U2, U3, U4, U5, U6, U7, U8, U9, U10, ↓reduceIte, Nat.reduceAdd, Nat.reduceMul, Nat.reduceSub, Nat.reduceEqDiff, Nat.reduceBEq, Nat.reduceLeDiff, Nat.reduceLT, Int.reduceAdd, Int.reduceMul, Int.reduceSub, Int.reduceLT, Int.reduceLE, Int.reduceToNat, Int.reduceEq, Int.reduceNe, Int.reduceBEq, Int.reduceBNe, ne_eq, eq_self]
      · exact ⟨⟨i + 1, false, by omega, by simp [gt], by simp [gt], by simp [gt, e13], by simp [gt, e12], by simp [gt, e11], ⟨by simp [gt, e1], by simp [gt, e3], by simp [gt, e7]⟩, ⟨fun g => by (cases g), fun g => absurd (g i (by omega) (by omega)) (by simpa using t1)⟩, hS.p1⟩, by simp [gt, iv, e16]; omega⟩
      · refine ⟨⟨i + 1, true, by omega, by simp [gt], by simp [gt], by simp [gt, e13], by simp [gt, e12], by simp [gt, e11], ⟨by simp [gt, e1], by simp [gt, e3], by simp [gt, e7]⟩, ⟨fun _ j j0 j1 => ?_, fun _ => rfl⟩, hS.p1⟩, by simp [gt, iv, e16]; omega⟩
        by_cases ej : j = i
        · rw [ej]; simpa using t1
        · exact hfb.1 rfl j j0 (by omega)
end
end Go.Proofs.Ytfopnendmcpglaa
