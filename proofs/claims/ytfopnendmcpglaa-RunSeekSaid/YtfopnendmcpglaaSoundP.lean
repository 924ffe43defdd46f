/-
  Whether a page is sound: the answer. Conditions: none.
-/
import Derived.Test.YtfopnendmcpglaaCodeAllotmentref20
import Derived.Test.YtfopnendmcpglaaSound1
import Derived.Test.YtfopnendmcpglaaMaBase
set_option linter.unusedVariables false
set_option linter.unusedSimpArgs false
set_option maxRecDepth 8000
namespace Go.Proofs.Ytfopnendmcpglaa
open Go Go.Ev Go.Pl Go.Ma

section
variable {W : World} {H h : Hp} {l : List Hp} {n cap : Nat} {a : Option Addr} {ws : Nat → Int} {sh : Sh}
def spJ (Q : Nat → Prop) (r : Nat) (p : Int) (n cap : Nat) (a : Option Addr) (x y : Nat) (L : List Hp) (F' : Fr) (H' : Hp) : Prop :=
  ∃ i : Nat, i ≤ 16 ∧ gt F' r = .int .i64 (i : Int) ∧ spG p n cap a x y F' ∧ Sep L H' ∧ Q i
def spM (Q : Int → Prop) (A p : Int) (n cap : Nat) (a : Option Addr) (x y : Nat) (L : List Hp) (F' : Fr) (H' : Hp) : Prop :=
  ∃ i : Int, 1 ≤ i ∧ (i = 1 ∨ i ≤ A) ∧ gt F' 16 = .int .i64 i ∧ spG p n cap a x y F' ∧ Sep L H' ∧ Q i
set_option maxHeartbeats 4000000 in
theorem c_soundpageV (p : Int) (K A B : Int) (hA0 : 0 ≤ A) (hA : A ≤ 255) (hm : may sh.p sh.c sh.m = true) (hn : (n : Int) = words sh.p sh.c sh.m) (hr : RowU h a n ws) (hU : ∀ i, i < n → U (ws i)) (hp : 0 ≤ p ∧ p < sh.p) (hS : Sep (h :: l) H) :
    CallP Try.prog W 63 #[.agg #[.int .i64 sh.p, .int .i64 sh.c, .int .i64 sh.m], .slice a n cap, .int .i64 p, .agg #[.int .i64 K, .int .i64 A, .int .i64 B]] H fun v H' => ∃ b, v = .bool b ∧ (b = true ↔ SpB sh ws p K A) ∧ Sep (h :: l) H' := by
  refine CallP.of mixed Try.func63 tr63 (by show 4 ≤ _; decide) fun W _ => ?_
  simp only [↓D0, ↓D1, ↓D2, ↓D3, ↓D4, ↓D5, ↓D6, ↓D7, ↓D8, ↓D9, ↓D10, U0, U1, U2, U3, U4, U5, U6, U7, U8, U9, U10, ↓reduceIte, Nat.reduceAdd, Nat.reduceMul, Nat.reduceSub, Nat.reduceEqDiff, Nat.reduceBEq, Nat.reduceLeDiff, Nat.reduceLT, Int.reduceAdd, Int.reduceMul, Int.reduceSub, Int.reduceLT, Int.reduceLE, Int.reduceToNat, Int.reduceEq, Int.reduceNe, Int.reduceBEq, Int.reduceBNe, ne_eq, eq_self]
  refine newB_intro fun x hx f1 f2 => ?_
  simp only [↓D0, ↓D1, ↓D2, ↓D3, ↓D4, ↓D5, ↓D6, ↓D7, ↓D8, ↓D9, ↓D10, U0, U1, U2, U3, U4, U5, U6, U7, U8, U9, U10, ↓reduceIte, Nat.reduceAdd, Nat.reduceMul, Nat.reduceSub, Nat.reduceEqDiff, Nat.reduceBEq, Nat.reduceLeDiff, Nat.reduceLT, Int.reduceAdd, Int.reduceMul, Int.reduceSub, Int.reduceLT, Int.reduceLE, Int.reduceToNat, Int.reduceEq, Int.reduceNe, Int.reduceBEq, Int.reduceBNe, ne_eq, eq_self]
  refine newB_intro fun y hy f3 f4 => ?_
  have hS := (hS.new f1 (.cells #[.int .i64 sh.p, .int .i64 sh.c, .int .i64 sh.m] 23 (0, 0))).new f3 (.cells #[.int .i64 K, .int .i64 A, .int .i64 B] 59 (0, 0))
  have hx1 := hS.lk 1 rfl
  have hy1 := hS.look
  have r1 := fun o n => rdn_of hx1 o n
  have r0 := fun o => rd_of hx1 o
  have r2 := fun o => rd_of hy1 o
  have nyx := hS.neq 0 1 (by decide) rfl rfl
  have nxy := hS.qen 0 1 (by decide) rfl rfl
  have hw := words_ge hm hn
  have hb := (may_iff _ _ _).1 hm
  cases k2 : (K == 2)
  · cases k1 : (K == 1)
    · simp only [hx1, hy1, r1, r0, r2, nyx, nxy, k2, k1, ↓D0, ↓D1, ↓D2, ↓D3, ↓D4, ↓D5, ↓D6, ↓D7, ↓D8, ↓D9, ↓D10, U0, U1, U2, U3, U4, U5, U6, U7, U8, U9, U10, ↓reduceIte, Nat.reduceAdd, Nat.reduceMul, Nat.reduceSub, Nat.reduceEqDiff, Nat.reduceBEq, Nat.reduceLeDiff, Nat.reduceLT, Int.reduceAdd, Int.reduceMul, Int.reduceSub, Int.reduceLT, Int.reduceLE, Int.reduceToNat, Int.reduceEq, Int.reduceNe, Int.reduceBEq, Int.reduceBNe, ne_eq, eq_self]
      refine loop_intro (spJ (fun i => ∀ j : Nat, j < i → slAt sh ws p j = 0) 13 p n cap a x y (sg y (.cells #[.int .i64 K, .int .i64 A, .int .i64 B] 59 (0, 0)) :: sg x (.cells #[.int .i64 sh.p, .int .i64 sh.c, .int .i64 sh.m] 23 (0, 0)) :: h :: l)) (fun F' _ => (16 - iv (gt F' 13)).toNat)
        ⟨0, by omega, rfl, ⟨rfl, rfl, rfl, rfl⟩, hS, fun j hj => by omega⟩ ?_
      clear hS hx1 hy1 r1 r0 r2 nyx nxy
      rintro F' H' ⟨i, hi, e13, ⟨e1, e2, e4, e7⟩, hS, hQ⟩
      have hx1 := hS.lk 1 rfl
      have hy1 := hS.look
      have r1 := fun o n => rdn_of hx1 o n
      have r0 := fun o => rd_of hx1 o
      have r2 := fun o => rd_of hy1 o
      by_cases hlt : i < 16
      · have d1 : decide ((i : Int) < 16) = true := decide_eq_true (by omega)
        have wi : w64 ((i : Int) + 1) = (i : Int) + 1 := w64_eq (by omega) (by omega)
        have hsl : slot sh.p sh.c sh.m p (i : Int) = sh.c + sh.p + p * 16 + (i : Int) := slot_yes hm hp.1 hp.2 (by omega) (by omega)
        have p0 : (0 : Int) ≤ sh.c + sh.p + p * 16 + (i : Int) := by omega
        have p1 : sh.c + sh.p + p * 16 + (i : Int) < (n : Int) := by omega
        obtain ⟨xb, xo, rfl, hrd⟩ := (hr.sub (hS.sb h (by simp))).at' (i := (sh.c + sh.p + p * 16 + (i : Int)).toNat) (by omega)
        cases hz : (ws (sh.c + sh.p + p * 16 + (i : Int)).toNat != 0)
        · simp only [e13, e1, e2, e4, e7, hx1, hy1, r1, d1, u_slot, hsl, p0, p1, hrd, hz, wrap_w64, wi, ↓D0, ↓D1, ↓D2, ↓D3, ↓D4, ↓D5, ↓D6, ↓D7, ↓D8, ↓D9, ↓D10, U0, U1, U2, U3, U4, U5, U6, U7, U8, U9, U10, ↓reduceIte, Nat.reduceAdd, Nat.reduceMul, Nat.reduceSub, Nat.reduceEqDiff, Nat.reduceBEq, Nat.reduceLeDiff, Nat.reduceLT, Int.reduceAdd, Int.reduceMul, Int.reduceSub, Int.reduceLT, Int.reduceLE, Int.reduceToNat, Int.reduceEq, Int.reduceNe, Int.reduceBEq, Int.reduceBNe, ne_eq, eq_self]
          refine ⟨⟨i + 1, by omega, by simp [gt, wi], ⟨by simp [gt, e1], by simp [gt, e2], by simp [gt, e4], by simp [gt, e7]⟩, hS, fun j hj => ?_⟩, by simp [gt, iv, e13, wi]; omega⟩
          by_cases e : j = i
          · subst e; unfold slAt; simpa using hz
          · exact hQ j (by omega)
        · simp only [e13, e1, e2, e4, e7, hx1, hy1, r1, d1, u_slot, hsl, p0, p1, hrd, hz, ↓D0, ↓D1, ↓D2, ↓D3, ↓D4, ↓D5, ↓D6, ↓D7, ↓D8, ↓D9, ↓D10, U0, U1, U2, U3, U4, U5, U6, U7, U8, U9, U10, ↓reduceIte, Nat.reduceAdd, Nat.reduceMul, Nat.reduceSub, Nat.reduceEqDiff, Nat.reduceBEq, Nat.reduceLeDiff, Nat.reduceLT, Int.reduceAdd, Int.reduceMul, Int.reduceSub, Int.reduceLT, Int.reduceLE, Int.reduceToNat, Int.reduceEq, Int.reduceNe, Int.reduceBEq, Int.reduceBNe, ne_eq, eq_self]
          exact ⟨_, rfl, ⟨fun hh => (by cases hh), fun hP => absurd (hP.emp k2 k1 i hlt) (by unfold slAt; simpa using hz)⟩, hS.tail.tail⟩
      have d1 : decide ((i : Int) < 16) = false := decide_eq_false (by omega)
      cases k4 : (K == 4)
      · cases k3 : (K == 3)
        · simp only [e13, e1, e2, e4, e7, hx1, hy1, r0, r1, r2, d1, k4, k3, ↓D0, ↓D1, ↓D2, ↓D3, ↓D4, ↓D5, ↓D6, ↓D7, ↓D8, ↓D9, ↓D10, U0, U1, U2, U3, U4, U5, U6, U7, U8, U9, U10, ↓reduceIte, Nat.reduceAdd, Nat.reduceMul, Nat.reduceSub, Nat.reduceEqDiff, Nat.reduceBEq, Nat.reduceLeDiff, Nat.reduceLT, Int.reduceAdd, Int.reduceMul, Int.reduceSub, Int.reduceLT, Int.reduceLE, Int.reduceToNat, Int.reduceEq, Int.reduceNe, Int.reduceBEq, Int.reduceBNe, ne_eq, eq_self]
          exact ⟨_, rfl, ⟨fun _ => SpB.oth k2 (fun j hj => hQ j (by omega)) k4 k3, fun _ => rfl⟩, hS.tail.tail⟩
        · simp only [e13, e1, e2, e4, e7, hx1, hy1, r0, r1, r2, d1, k4, k3, ↓D0, ↓D1, ↓D2, ↓D3, ↓D4, ↓D5, ↓D6, ↓D7, ↓D8, ↓D9, ↓D10, U0, U1, U2, U3, U4, U5, U6, U7, U8, U9, U10, ↓reduceIte, Nat.reduceAdd, Nat.reduceMul, Nat.reduceSub, Nat.reduceEqDiff, Nat.reduceBEq, Nat.reduceLeDiff, Nat.reduceLT, Int.reduceAdd, Int.reduceMul, Int.reduceSub, Int.reduceLT, Int.reduceLE, Int.reduceToNat, Int.reduceEq, Int.reduceNe, Int.reduceBEq, Int.reduceBNe, ne_eq, eq_self]
          refine loop_intro (spM (fun j => ∀ i : Int, 1 ≤ i → i < j → pgK sh (p + i) (pgAt sh ws (p + i)) = 4 ∧ pgA sh (p + i) (pgAt sh ws (p + i)) = p) A p n cap a x y (sg y (.cells #[.int .i64 K, .int .i64 A, .int .i64 B] 59 (0, 0)) :: sg x (.cells #[.int .i64 sh.p, .int .i64 sh.c, .int .i64 sh.m] 23 (0, 0)) :: h :: l)) (fun F' _ => (A - iv (gt F' 16)).toNat)
            ⟨1, by omega, .inl rfl, rfl, ⟨by simp [gt, e1], by simp [gt, e2], by simp [gt, e4], by simp [gt, e7]⟩, hS, fun i h1 h2 => by omega⟩ ?_
          clear hS hx1 hy1 r1 r0 r2 e1 e2 e4 e7 e13
          rintro F' H' ⟨j, j1, j2, e16, ⟨e1, e2, e4, e7⟩, hS, hQ2⟩
          have hx1 := hS.lk 1 rfl
          have hy1 := hS.look
          have r1 := fun o n => rdn_of hx1 o n
          have r0 := fun o => rd_of hx1 o
          have r2 := fun o => rd_of hy1 o
          by_cases hj : j < A
          · have d2 : decide (j < A) = true := decide_eq_true hj
            have wj : w64 (j + 1) = j + 1 := w64_eq (by omega) (by omega)
            have wpj : w64 (p + j) = p + j := w64_eq (by omega) (by omega)
            simp only [e16, e1, e2, e4, e7, hx1, hy1, r1, r2, d2, wrap_w64, wpj, ↓D0, ↓D1, ↓D2, ↓D3, ↓D4, ↓D5, ↓D6, ↓D7, ↓D8, ↓D9, ↓D10, U0, U1, U2, U3, U4, U5, U6, U7, U8, U9, U10, ↓reduceIte, Nat.reduceAdd, Nat.reduceMul, Nat.reduceSub, Nat.reduceEqDiff, Nat.reduceBEq, Nat.reduceLeDiff, Nat.reduceLT, Int.reduceAdd, Int.reduceMul, Int.reduceSub, Int.reduceLT, Int.reduceLE, Int.reduceToNat, Int.reduceEq, Int.reduceNe, Int.reduceBEq, Int.reduceBNe, ne_eq, eq_self]
            refine callT_of (c_spage (p + j) hm hn hr hU hS.p2) ?_
            rintro v H' ⟨rfl, hS⟩
            simp only [e16, e1, e2, e4, e7, ↓D0, ↓D1, ↓D2, ↓D3, ↓D4, ↓D5, ↓D6, ↓D7, ↓D8, ↓D9, ↓D10, U0, U1, U2, U3, U4, U5, U6, U7, U8, U9, U10, ↓reduceIte, Nat.reduceAdd, Nat.reduceMul, Nat.reduceSub, Nat.reduceEqDiff, Nat.reduceBEq, Nat.reduceLeDiff, Nat.reduceLT, Int.reduceAdd, Int.reduceMul, Int.reduceSub, Int.reduceLT, Int.reduceLE, Int.reduceToNat, Int.reduceEq, Int.reduceNe, Int.reduceBEq, Int.reduceBNe, ne_eq, eq_self]
            refine newB_intro fun z hz f5 f6 => ?_
            have hS := hS.new f5 (.cells #[.int .i64 0, .int .i64 0, .int .i64 0] 59 (0, 0))
            have hS := hS.set (.cells #[.int .i64 (pgK sh (p + j) (spX sh ws (p + j))), .int .i64 (pgA sh (p + j) (spX sh ws (p + j))), .int .i64 (pgB sh (p + j) (spX sh ws (p + j)))] 59 (0, 0))
            rw [Ev.upd_upd] at hS
            have hz1 := hS.look
            have r3 := fun o => rd_of hz1 o
            have hSt := hS.tail
            cases q1 : (pgK sh (p + j) (spX sh ws (p + j)) != 4)
            · cases q2 : (pgA sh (p + j) (spX sh ws (p + j)) != p)
              · simp only [e16, e1, e2, e4, e7, Ev.upd_upd, hz1, r3, q1, q2, wrap_w64, wj, ↓D0, ↓D1, ↓D2, ↓D3, ↓D4, ↓D5, ↓D6, ↓D7, ↓D8, ↓D9, ↓D10, U0, U1, U2, U3, U4, U5, U6, U7, U8, U9, U10, ↓reduceIte, Nat.reduceAdd, Nat.reduceMul, Nat.reduceSub, Nat.reduceEqDiff, Nat.reduceBEq, Nat.reduceLeDiff, Nat.reduceLT, Int.reduceAdd, Int.reduceMul, Int.reduceSub, Int.reduceLT, Int.reduceLE, Int.reduceToNat, Int.reduceEq, Int.reduceNe, Int.reduceBEq, Int.reduceBNe, ne_eq, eq_self]
                refine ⟨⟨j + 1, by omega, by omega, by simp [gt], ⟨by simp [gt, e1], by simp [gt, e2], by simp [gt, e4], by simp [gt, e7]⟩, hSt.p2.p2, fun i h1 h2 => ?_⟩, by simp [gt, iv, e16]; omega⟩
                by_cases e : i = j
                · subst e; exact ⟨(by have h9 := q1; simp at h9; exact h9), (by have h9 := q2; simp at h9; exact h9)⟩
                · exact hQ2 i h1 (by omega)
              · simp only [e16, e1, e2, e4, e7, Ev.upd_upd, hz1, r3, q1, q2, ↓D0, ↓D1, ↓D2, ↓D3, ↓D4, ↓D5, ↓D6, ↓D7, ↓D8, ↓D9, ↓D10, U0, U1, U2, U3, U4, U5, U6, U7, U8, U9, U10, ↓reduceIte, Nat.reduceAdd, Nat.reduceMul, Nat.reduceSub, Nat.reduceEqDiff, Nat.reduceBEq, Nat.reduceLeDiff, Nat.reduceLT, Int.reduceAdd, Int.reduceMul, Int.reduceSub, Int.reduceLT, Int.reduceLE, Int.reduceToNat, Int.reduceEq, Int.reduceNe, Int.reduceBEq, Int.reduceBNe, ne_eq, eq_self]
                exact ⟨_, rfl, ⟨fun hh => (by cases hh), fun hP => absurd (hP.lar k2 k1 k4 k3 j j1 hj).2 (by have h9 := q2; simp at h9; exact h9)⟩, hSt.p2.p2.tail.tail⟩
            · simp only [e16, e1, e2, e4, e7, Ev.upd_upd, hz1, r3, q1, ↓D0, ↓D1, ↓D2, ↓D3, ↓D4, ↓D5, ↓D6, ↓D7, ↓D8, ↓D9, ↓D10, U0, U1, U2, U3, U4, U5, U6, U7, U8, U9, U10, ↓reduceIte, Nat.reduceAdd, Nat.reduceMul, Nat.reduceSub, Nat.reduceEqDiff, Nat.reduceBEq, Nat.reduceLeDiff, Nat.reduceLT, Int.reduceAdd, Int.reduceMul, Int.reduceSub, Int.reduceLT, Int.reduceLE, Int.reduceToNat, Int.reduceEq, Int.reduceNe, Int.reduceBEq, Int.reduceBNe, ne_eq, eq_self]
              exact ⟨_, rfl, ⟨fun hh => (by cases hh), fun hP => absurd (hP.lar k2 k1 k4 k3 j j1 hj).1 (by have h9 := q1; simp at h9; exact h9)⟩, hSt.p2.p2.tail.tail⟩
          · have d2 : decide (j < A) = false := decide_eq_false hj
            simp only [e16, e1, e2, e4, e7, hx1, hy1, r1, r2, d2, ↓D0, ↓D1, ↓D2, ↓D3, ↓D4, ↓D5, ↓D6, ↓D7, ↓D8, ↓D9, ↓D10, U0, U1, U2, U3, U4, U5, U6, U7, U8, U9, U10, ↓reduceIte, Nat.reduceAdd, Nat.reduceMul, Nat.reduceSub, Nat.reduceEqDiff, Nat.reduceBEq, Nat.reduceLeDiff, Nat.reduceLT, Int.reduceAdd, Int.reduceMul, Int.reduceSub, Int.reduceLT, Int.reduceLE, Int.reduceToNat, Int.reduceEq, Int.reduceNe, Int.reduceBEq, Int.reduceBNe, ne_eq, eq_self]
            exact ⟨_, rfl, ⟨fun _ => SpB.large k2 (fun j hj => hQ j (by omega)) k4 (fun i h1 h2 => hQ2 i h1 (by omega)), fun _ => rfl⟩, hS.tail.tail⟩
      · simp only [e13, e1, e2, e4, e7, hx1, hy1, r0, r1, r2, d1, k4, ↓D0, ↓D1, ↓D2, ↓D3, ↓D4, ↓D5, ↓D6, ↓D7, ↓D8, ↓D9, ↓D10, U0, U1, U2, U3, U4, U5, U6, U7, U8, U9, U10, ↓reduceIte, Nat.reduceAdd, Nat.reduceMul, Nat.reduceSub, Nat.reduceEqDiff, Nat.reduceBEq, Nat.reduceLeDiff, Nat.reduceLT, Int.reduceAdd, Int.reduceMul, Int.reduceSub, Int.reduceLT, Int.reduceLE, Int.reduceToNat, Int.reduceEq, Int.reduceNe, Int.reduceBEq, Int.reduceBNe, ne_eq, eq_self]
        refine callT_of (c_spage A hm hn hr hU hS.p2) ?_
        rintro v H' ⟨rfl, hS⟩
        simp only [e13, e1, e2, e4, e7, ↓D0, ↓D1, ↓D2, ↓D3, ↓D4, ↓D5, ↓D6, ↓D7, ↓D8, ↓D9, ↓D10, U0, U1, U2, U3, U4, U5, U6, U7, U8, U9, U10, ↓reduceIte, Nat.reduceAdd, Nat.reduceMul, Nat.reduceSub, Nat.reduceEqDiff, Nat.reduceBEq, Nat.reduceLeDiff, Nat.reduceLT, Int.reduceAdd, Int.reduceMul, Int.reduceSub, Int.reduceLT, Int.reduceLE, Int.reduceToNat, Int.reduceEq, Int.reduceNe, Int.reduceBEq, Int.reduceBNe, ne_eq, eq_self]
        refine newB_intro fun z hz f5 f6 => ?_
        have hS := hS.new f5 (.cells #[.int .i64 0, .int .i64 0, .int .i64 0] 59 (0, 0))
        have hS := hS.set (.cells #[.int .i64 (pgK sh A (spX sh ws A)), .int .i64 (pgA sh A (spX sh ws A)), .int .i64 (pgB sh A (spX sh ws A))] 59 (0, 0))
        rw [Ev.upd_upd] at hS
        have hz1 := hS.look
        have hy1 := hS.lk 2 rfl
        have hx1 := hS.lk 3 rfl
        have r0 := fun o => rd_of hx1 o
        have r2 := fun o => rd_of hy1 o
        have r3 := fun o => rd_of hz1 o
        have hSt := hS.tail
        have hyA : 0 ≤ pgA sh A (spX sh ws A) ∧ pgA sh A (spX sh ws A) ≤ 255 := by
          unfold pgA; split
          · exact pt_bd _ _
          · exact ⟨by decide, by decide⟩
        have wA : w64 (A + pgA sh A (spX sh ws A)) = A + pgA sh A (spX sh ws A) := w64_eq (by omega) (by omega)
        have he16 : ∀ j : Nat, j < 16 → slAt sh ws p j = 0 := fun j hj => hQ j (by omega)
        have hbv : ∀ {z : Bool}, z = ((pgK sh A (spX sh ws A) == 1) || ((pgK sh A (spX sh ws A) == 3) && decide (p < A + pgA sh A (spX sh ws A)))) → (z = true ↔ SpB sh ws p K A) := fun {z} hz =>
          ⟨fun hh => SpB.four k2 he16 k4 (by rw [← hh, hz]; rfl), fun hP => by rw [hz]; exact hP.bod k2 k1 k4⟩
        cases q1 : (pgK sh A (spX sh ws A) == 1)
        · cases q2 : (pgK sh A (spX sh ws A) == 3)
          · simp only [e13, e1, e2, e4, e7, Ev.upd_upd, hx1, hy1, hz1, r0, r2, r3, q1, q2, ↓D0, ↓D1, ↓D2, ↓D3, ↓D4, ↓D5, ↓D6, ↓D7, ↓D8, ↓D9, ↓D10, U0, U1, U2, U3, U4, U5, U6, U7, U8, U9, U10, ↓reduceIte, Nat.reduceAdd, Nat.reduceMul, Nat.reduceSub, Nat.reduceEqDiff, Nat.reduceBEq, Nat.reduceLeDiff, Nat.reduceLT, Int.reduceAdd, Int.reduceMul, Int.reduceSub, Int.reduceLT, Int.reduceLE, Int.reduceToNat, Int.reduceEq, Int.reduceNe, Int.reduceBEq, Int.reduceBNe, ne_eq, eq_self]
            exact ⟨_, rfl, hbv (by rw [q1, q2]; rfl), hSt.p2.p2.tail.tail⟩
          · simp only [e13, e1, e2, e4, e7, Ev.upd_upd, hx1, hy1, hz1, r0, r2, r3, q1, q2, wrap_w64, wA, ↓D0, ↓D1, ↓D2, ↓D3, ↓D4, ↓D5, ↓D6, ↓D7, ↓D8, ↓D9, ↓D10, U0, U1, U2, U3, U4, U5, U6, U7, U8, U9, U10, ↓reduceIte, Nat.reduceAdd, Nat.reduceMul, Nat.reduceSub, Nat.reduceEqDiff, Nat.reduceBEq, Nat.reduceLeDiff, Nat.reduceLT, Int.reduceAdd, Int.reduceMul, Int.reduceSub, Int.reduceLT, Int.reduceLE, Int.reduceToNat, Int.reduceEq, Int.reduceNe, Int.reduceBEq, Int.reduceBNe, ne_eq, eq_self]
            exact ⟨_, rfl, hbv (by rw [q1, q2]; rfl), hSt.p2.p2.tail.tail⟩
        · simp only [e13, e1, e2, e4, e7, Ev.upd_upd, hx1, hy1, hz1, r0, r2, r3, q1, ↓D0, ↓D1, ↓D2, ↓D3, ↓D4, ↓D5, ↓D6, ↓D7, ↓D8, ↓D9, ↓D10, U0, U1, U2, U3, U4, U5, U6, U7, U8, U9, U10, ↓reduceIte, Nat.reduceAdd, Nat.reduceMul, Nat.reduceSub, Nat.reduceEqDiff, Nat.reduceBEq, Nat.reduceLeDiff, Nat.reduceLT, Int.reduceAdd, Int.reduceMul, Int.reduceSub, Int.reduceLT, Int.reduceLE, Int.reduceToNat, Int.reduceEq, Int.reduceNe, Int.reduceBEq, Int.reduceBNe, ne_eq, eq_self]
          exact ⟨_, rfl, hbv (by rw [q1]; rfl), hSt.p2.p2.tail.tail⟩
    · simp only [hx1, hy1, r1, r0, r2, nyx, nxy, k2, k1, ↓D0, ↓D1, ↓D2, ↓D3, ↓D4, ↓D5, ↓D6, ↓D7, ↓D8, ↓D9, ↓D10, U0, U1, U2, U3, U4, U5, U6, U7, U8, U9, U10, ↓reduceIte, Nat.reduceAdd, Nat.reduceMul, Nat.reduceSub, Nat.reduceEqDiff, Nat.reduceBEq, Nat.reduceLeDiff, Nat.reduceLT, Int.reduceAdd, Int.reduceMul, Int.reduceSub, Int.reduceLT, Int.reduceLE, Int.reduceToNat, Int.reduceEq, Int.reduceNe, Int.reduceBEq, Int.reduceBNe, ne_eq, eq_self]
      exact ⟨_, rfl, ⟨fun _ => SpB.one k2 k1, fun _ => rfl⟩, hS.tail.tail⟩
  · simp only [hx1, hy1, r1, r0, r2, nyx, nxy, k2, ↓D0, ↓D1, ↓D2, ↓D3, ↓D4, ↓D5, ↓D6, ↓D7, ↓D8, ↓D9, ↓D10, U0, U1, U2, U3, U4, U5, U6, U7, U8, U9, U10, ↓reduceIte, Nat.reduceAdd, Nat.reduceMul, Nat.reduceSub, Nat.reduceEqDiff, Nat.reduceBEq, Nat.reduceLeDiff, Nat.reduceLT, Int.reduceAdd, Int.reduceMul, Int.reduceSub, Int.reduceLT, Int.reduceLE, Int.reduceToNat, Int.reduceEq, Int.reduceNe, Int.reduceBEq, Int.reduceBNe, ne_eq, eq_self]
    refine loop_intro (spJ (fun i => ∀ j : Nat, j < i → slB sh.c A j (slAt sh ws p j) = true) 9 p n cap a x y (sg y (.cells #[.int .i64 K, .int .i64 A, .int .i64 B] 59 (0, 0)) :: sg x (.cells #[.int .i64 sh.p, .int .i64 sh.c, .int .i64 sh.m] 23 (0, 0)) :: h :: l)) (fun F' _ => (16 - iv (gt F' 9)).toNat)
      ⟨0, by omega, rfl, ⟨rfl, rfl, rfl, rfl⟩, hS, fun j hj => by omega⟩ ?_
    clear hS hx1 hy1 r1 r0 r2 nyx nxy
    rintro F' H' ⟨i, hi, e9, ⟨e1, e2, e4, e7⟩, hS, hQ⟩
    have hx1 := hS.lk 1 rfl
    have hy1 := hS.look
    have r1 := fun o n => rdn_of hx1 o n
    by_cases hlt : i < 16
    · have d1 : decide ((i : Int) < 16) = true := decide_eq_true (by omega)
      have wi : w64 ((i : Int) + 1) = (i : Int) + 1 := w64_eq (by omega) (by omega)
      simp only [e9, e1, e2, e4, e7, hx1, hy1, r1, d1, ↓D0, ↓D1, ↓D2, ↓D3, ↓D4, ↓D5, ↓D6, ↓D7, ↓D8, ↓D9, ↓D10, U0, U1, U2, U3, U4, U5, U6, U7, U8, U9, U10, ↓reduceIte, Nat.reduceAdd, Nat.reduceMul, Nat.reduceSub, Nat.reduceEqDiff, Nat.reduceBEq, Nat.reduceLeDiff, Nat.reduceLT, Int.reduceAdd, Int.reduceMul, Int.reduceSub, Int.reduceLT, Int.reduceLE, Int.reduceToNat, Int.reduceEq, Int.reduceNe, Int.reduceBEq, Int.reduceBNe, ne_eq, eq_self]
      refine callT_of (c_sslot p i hm hn hr hU hp ⟨by omega, by omega⟩ hS.p2) ?_
      rintro v H' ⟨rfl, hS⟩
      obtain ⟨w, hww⟩ : ∃ w, ws (sh.c + sh.p + p * 16 + (i : Int)).toNat = w := ⟨_, rfl⟩
      have hy0 := hS.lk 1 rfl
      have hx0 := hS.lk 2 rfl
      have r1 := fun o n => rdn_of hx0 o n
      have r0 := fun o => rd_of hx0 o
      have r2 := fun o => rd_of hy0 o
      have hsl : slot sh.p sh.c sh.m p (i : Int) = sh.c + sh.p + p * 16 + (i : Int) := slot_yes hm hp.1 hp.2 (by omega) (by omega)
      have p0 : (0 : Int) ≤ sh.c + sh.p + p * 16 + (i : Int) := by omega
      have p1 : sh.c + sh.p + p * 16 + (i : Int) < (n : Int) := by omega
      obtain ⟨xb, xo, rfl, hrd⟩ := (hr.sub (hS.sb h (by simp))).at' (i := (sh.c + sh.p + p * 16 + (i : Int)).toNat) (by omega)
      rw [hww] at hrd
      simp only [e9, e1, e2, e4, e7, hww, ↓D0, ↓D1, ↓D2, ↓D3, ↓D4, ↓D5, ↓D6, ↓D7, ↓D8, ↓D9, ↓D10, U0, U1, U2, U3, U4, U5, U6, U7, U8, U9, U10, ↓reduceIte, Nat.reduceAdd, Nat.reduceMul, Nat.reduceSub, Nat.reduceEqDiff, Nat.reduceBEq, Nat.reduceLeDiff, Nat.reduceLT, Int.reduceAdd, Int.reduceMul, Int.reduceSub, Int.reduceLT, Int.reduceLE, Int.reduceToNat, Int.reduceEq, Int.reduceNe, Int.reduceBEq, Int.reduceBNe, ne_eq, eq_self]
      refine newB_intro fun z hz f5 f6 => ?_
      have nxz : (x = z) = False := f5 x (by rw [hx0]; rfl)
      have nzx : (z = x) = False := f6 x (by rw [hx0]; rfl)
      have nyz : (y = z) = False := f5 y (by rw [hy0]; rfl)
      have nzy : (z = y) = False := f6 y (by rw [hy0]; rfl)
      have nbz : (xb = z) = False := f5 xb (by obtain ⟨c, T, f, hc, -⟩ := cells_of hrd; rw [hc]; rfl)
      have hS := hS.new f5 (.cells #[.int .i64 0, .int .i64 0] 64 (0, 0))
      have hS := hS.set (.cells #[.int .i64 (slK w), .int .i64 (slA w)] 64 (0, 0))
      rw [Ev.upd_upd] at hS
      have hSt := hS.tail
      have hsw : slAt sh ws p i = w := hww
      rcases sp_cases (slK w) (slA w) A sh.c with ⟨c1, c2, c3, c4⟩ | ⟨c1, c2, c3, c4⟩ | ⟨c1, c2, c3, c4⟩ | ⟨c1, c2, c3, c4⟩ | ⟨c1, c2, c3, c4⟩ | ⟨c1, c2, c3, c4⟩ | ⟨c1, c2, c3, c4⟩ <;>
        rcases sq_cases (i : Int) (slots A) w with ⟨d2, d3, d4⟩ | ⟨d2, d3, d4⟩ | ⟨d2, d3, d4⟩ <;>
        simp only [e9, e1, e2, e4, e7, hww, Ev.upd_upd, nxz, nzx, nyz, nzy, nbz, hx0, hy0, r0, r1, r2, u_slot, u_slots, hsl, p0, p1, hrd, c1, c2, c3, c4, d2, d3, d4, wrap_w64, wi, ↓D0, ↓D1, ↓D2, ↓D3, ↓D4, ↓D5, ↓D6, ↓D7, ↓D8, ↓D9, ↓D10, U0, U1, U2, U3, U4, U5, U6, U7, U8, U9, U10, ↓reduceIte, Nat.reduceAdd, Nat.reduceMul, Nat.reduceSub, Nat.reduceEqDiff, Nat.reduceBEq, Nat.reduceLeDiff, Nat.reduceLT, Int.reduceAdd, Int.reduceMul, Int.reduceSub, Int.reduceLT, Int.reduceLE, Int.reduceToNat, Int.reduceEq, Int.reduceNe, Int.reduceBEq, Int.reduceBNe, ne_eq, eq_self] <;>
        first
        | exact ⟨_, rfl, ⟨fun hh => (by cases hh), fun hP => (by have h5 := hP.sup k2 i hlt; rw [hsw] at h5; rw [show slB sh.c A i w = false from by simp only [slB, c1, c2, c3, c4, d2, d3, d4, Bool.true_or, Bool.or_true, Bool.and_true, Bool.true_and, Bool.false_or, Bool.or_false, Bool.false_and, Bool.and_false, cond_true, cond_false, Bool.not_true, Bool.not_false]] at h5; cases h5)⟩, hSt.p2.p2.tail.tail⟩
        | exact ⟨⟨i + 1, by omega, by simp [gt, wi], ⟨by simp [gt, e1], by simp [gt, e2], by simp [gt, e4], by simp [gt, e7]⟩, hSt.p2.p2, fun j hj => (by
            by_cases e : j = i
            · subst e; rw [hsw]; simp only [slB, c1, c2, c3, c4, d2, d3, d4, Bool.true_or, Bool.or_true, Bool.and_true, Bool.true_and, Bool.false_or, Bool.or_false, Bool.false_and, Bool.and_false, cond_true, cond_false, Bool.not_true, Bool.not_false]
            · exact hQ j (by omega))⟩, by simp [gt, iv, e9, wi]; omega⟩
    · have d1 : decide ((i : Int) < 16) = false := decide_eq_false (by omega)
      simp only [e9, e1, e2, e4, e7, hx1, hy1, r1, d1, ↓D0, ↓D1, ↓D2, ↓D3, ↓D4, ↓D5, ↓D6, ↓D7, ↓D8, ↓D9, ↓D10, U0, U1, U2, U3, U4, U5, U6, U7, U8, U9, U10, ↓reduceIte, Nat.reduceAdd, Nat.reduceMul, Nat.reduceSub, Nat.reduceEqDiff, Nat.reduceBEq, Nat.reduceLeDiff, Nat.reduceLT, Int.reduceAdd, Int.reduceMul, Int.reduceSub, Int.reduceLT, Int.reduceLE, Int.reduceToNat, Int.reduceEq, Int.reduceNe, Int.reduceBEq, Int.reduceBNe, ne_eq, eq_self]
      exact ⟨_, rfl, ⟨fun _ => SpB.two k2 (fun j hj => hQ j (by omega)), fun _ => rfl⟩, hS.tail.tail⟩
end
end Go.Proofs.Ytfopnendmcpglaa
