/-
  Who holds an address, as the document tells it. Conditions: none.
-/
import Derived.Test.YtfopnendmcpglaaCodeAllotmentref20
import Derived.Test.YtfopnendmcpglaaSound1
import Derived.Test.YtfopnendmcpglaaMaChain
import Derived.Test.YtfopnendmcpglaaCut
set_option linter.unusedVariables false
set_option linter.unusedSectionVars false
set_option linter.unusedSimpArgs false
set_option maxRecDepth 8000
namespace Go.Proofs.Ytfopnendmcpglaa
open Go Go.Ev Go.Pl Go.Ma
/-- A holder of something of a page. -/
def HoldsP (sh : Sh) (ws : Nat → Int) (q c : Int) : Prop := HeldBy sh ws c q ∨ BodyOf sh ws c q
theorem held_lt {sh : Sh} {q y : Int} (hk : pgK sh q y = 1) : pgA sh q y < sh.c := by
  have e1 := pgK_ne (s := sh) (q := q) (x := y) (by rw [hk]; decide)
  have hk' : y % 16 = 1 := by unfold pgK at hk; rw [if_pos e1] at hk; exact hk
  have hA : pgA sh q y = pt y 16 := by unfold pgA; rw [if_pos e1]
  have hf := e1
  unfold okPg at hf
  simp only [Bool.and_eq_true, decide_eq_true_eq] at hf
  obtain ⟨-, -, hf⟩ := hf
  rw [hk'] at hf
  unfold fits at hf
  simp at hf
  omega
section
variable {W : World} {H h : Hp} {l : List Hp} {n cap : Nat} {a : Option Addr} {ws : Nat → Int} {sh : Sh}
theorem c_phold (q : Int) (hm : may sh.p sh.c sh.m = true) (hn : (n : Int) = words sh.p sh.c sh.m) (hr : RowU h a n ws) (hU : ∀ i, i < n → U (ws i)) (hS : Sep (h :: l) H) :
    CallP Try.prog W 99 #[.agg #[.int .i64 sh.p, .int .i64 sh.c, .int .i64 sh.m], .slice a n cap, .int .i64 q] H fun v H' => ∃ c b, v = .tuple #[.int .i64 c, .bool b] ∧ (b = true → HoldsP sh ws q c ∧ 0 ≤ c ∧ c < sh.c) ∧ Sep (h :: l) H' := by
  refine CallP.of mixed Try.func99 tr99 (by show 3 ≤ _; decide) fun W _ => ?_
  simp only [↓D0, ↓D1, ↓D2, ↓D3, ↓D4, ↓D5, ↓D6, ↓D7, ↓D8, ↓D9, ↓D10, U0, U1, U2, U3, U4, U5, U6, U7, U8, U9, U10, ↓reduceIte, Nat.reduceAdd, Nat.reduceMul, Nat.reduceSub, Nat.reduceEqDiff, Nat.reduceBEq, Nat.reduceLeDiff, Nat.reduceLT, Int.reduceAdd, Int.reduceMul, Int.reduceSub, Int.reduceLT, Int.reduceLE, Int.reduceToNat, Int.reduceEq, Int.reduceNe, Int.reduceBEq, Int.reduceBNe, ne_eq, eq_self]
  refine newB_intro fun x hx f1 f2 => ?_
  have hS := (hS.new f1 (.cells #[.int .i64 sh.p, .int .i64 sh.c, .int .i64 sh.m] 23 (0, 0)))
  have hx1 := hS.look
  have r1 := fun o n => rdn_of hx1 o n
  simp only [hx1, r1, ↓D0, ↓D1, ↓D2, ↓D3, ↓D4, ↓D5, ↓D6, ↓D7, ↓D8, ↓D9, ↓D10, U0, U1, U2, U3, U4, U5, U6, U7, U8, U9, U10, ↓reduceIte, Nat.reduceAdd, Nat.reduceMul, Nat.reduceSub, Nat.reduceEqDiff, Nat.reduceBEq, Nat.reduceLeDiff, Nat.reduceLT, Int.reduceAdd, Int.reduceMul, Int.reduceSub, Int.reduceLT, Int.reduceLE, Int.reduceToNat, Int.reduceEq, Int.reduceNe, Int.reduceBEq, Int.reduceBNe, ne_eq, eq_self]
  refine callT_of (c_spage q hm hn hr hU hS.p1) ?_
  rintro v H' ⟨rfl, hS⟩
  have hx1 := hS.lk 1 rfl
  have hpat : spX sh ws q = pgAt sh ws q := rfl
  simp only [hpat, ↓D0, ↓D1, ↓D2, ↓D3, ↓D4, ↓D5, ↓D6, ↓D7, ↓D8, ↓D9, ↓D10, U0, U1, U2, U3, U4, U5, U6, U7, U8, U9, U10, ↓reduceIte, Nat.reduceAdd, Nat.reduceMul, Nat.reduceSub, Nat.reduceEqDiff, Nat.reduceBEq, Nat.reduceLeDiff, Nat.reduceLT, Int.reduceAdd, Int.reduceMul, Int.reduceSub, Int.reduceLT, Int.reduceLE, Int.reduceToNat, Int.reduceEq, Int.reduceNe, Int.reduceBEq, Int.reduceBNe, ne_eq, eq_self]
  refine newB_intro fun y hy f3 f4 => ?_
  have nxy : (x = y) = False := f3 x (by rw [hx1]; rfl)
  have nyx : (y = x) = False := f4 x (by rw [hx1]; rfl)
  have hS := hS.new f3 (.cells #[.int .i64 (pgK sh q (pgAt sh ws q)), .int .i64 (pgA sh q (pgAt sh ws q)), .int .i64 (pgB sh q (pgAt sh ws q))] 59 (0, 0))
  have r1 := fun o n => rdn_of hx1 o n
  simp only [nxy, nyx, hx1, r1, Ev.upd_upd, ↓D0, ↓D1, ↓D2, ↓D3, ↓D4, ↓D5, ↓D6, ↓D7, ↓D8, ↓D9, ↓D10, U0, U1, U2, U3, U4, U5, U6, U7, U8, U9, U10, ↓reduceIte, Nat.reduceAdd, Nat.reduceMul, Nat.reduceSub, Nat.reduceEqDiff, Nat.reduceBEq, Nat.reduceLeDiff, Nat.reduceLT, Int.reduceAdd, Int.reduceMul, Int.reduceSub, Int.reduceLT, Int.reduceLE, Int.reduceToNat, Int.reduceEq, Int.reduceNe, Int.reduceBEq, Int.reduceBNe, ne_eq, eq_self]
  rw [Ev.upd_upd]
  by_cases k4 : pgK sh q (pgAt sh ws q) = 4
  · have hok := pgK_ne (s := sh) (q := q) (x := pgAt sh ws q) (by rw [k4]; decide)
    have g4 : (pgK sh q (pgAt sh ws q) == 4) = true := beq_iff_eq.2 k4
    simp only [hok, g4, nxy, nyx, hx1, r1, Ev.upd_upd, ↓D0, ↓D1, ↓D2, ↓D3, ↓D4, ↓D5, ↓D6, ↓D7, ↓D8, ↓D9, ↓D10, U0, U1, U2, U3, U4, U5, U6, U7, U8, U9, U10, ↓reduceIte, Nat.reduceAdd, Nat.reduceMul, Nat.reduceSub, Nat.reduceEqDiff, Nat.reduceBEq, Nat.reduceLeDiff, Nat.reduceLT, Int.reduceAdd, Int.reduceMul, Int.reduceSub, Int.reduceLT, Int.reduceLE, Int.reduceToNat, Int.reduceEq, Int.reduceNe, Int.reduceBEq, Int.reduceBNe, ne_eq, eq_self]
    refine callT_of (c_spage (pgA sh q (pgAt sh ws q)) hm hn hr hU hS.p1) ?_
    rintro v H' ⟨rfl, hS⟩
    obtain ⟨A, hA⟩ : ∃ A, pgA sh q (pgAt sh ws q) = A := ⟨_, rfl⟩
    have hpatA : spX sh ws A = pgAt sh ws A := rfl
    have hy1 := hS.lk 1 rfl
    have hbo : ∀ c, HeldBy sh ws c A → HoldsP sh ws q c := fun c hc => .inr ⟨k4, by rw [hA]; exact hc⟩
    rw [hA] at hy1
    have hS := (hS.p1.set (.cells #[.int .i64 (pgK sh A (pgAt sh ws A)), .int .i64 (pgA sh A (pgAt sh ws A)), .int .i64 (pgB sh A (pgAt sh ws A))] 59 (0, 0)))
    have hy2 := hS.look
    have r2 := fun o => rd_of hy2 o
    rw [hA]
    cases hok2 : okPg sh A (pgAt sh ws A)
    · simp only [hpatA, hy1, hy2, r2, hok2, Ev.upd_upd, ↓D0, ↓D1, ↓D2, ↓D3, ↓D4, ↓D5, ↓D6, ↓D7, ↓D8, ↓D9, ↓D10, U0, U1, U2, U3, U4, U5, U6, U7, U8, U9, U10, ↓reduceIte, Nat.reduceAdd, Nat.reduceMul, Nat.reduceSub, Nat.reduceEqDiff, Nat.reduceBEq, Nat.reduceLeDiff, Nat.reduceLT, Int.reduceAdd, Int.reduceMul, Int.reduceSub, Int.reduceLT, Int.reduceLE, Int.reduceToNat, Int.reduceEq, Int.reduceNe, Int.reduceBEq, Int.reduceBNe, ne_eq, eq_self]
      exact ⟨_, _, rfl, fun h => (by cases h), hS.tail.p1.tail⟩
    · cases k1 : (pgK sh A (pgAt sh ws A) == 1)
      · simp only [hpatA, hy1, hy2, r2, hok2, k1, Ev.upd_upd, ↓D0, ↓D1, ↓D2, ↓D3, ↓D4, ↓D5, ↓D6, ↓D7, ↓D8, ↓D9, ↓D10, U0, U1, U2, U3, U4, U5, U6, U7, U8, U9, U10, ↓reduceIte, Nat.reduceAdd, Nat.reduceMul, Nat.reduceSub, Nat.reduceEqDiff, Nat.reduceBEq, Nat.reduceLeDiff, Nat.reduceLT, Int.reduceAdd, Int.reduceMul, Int.reduceSub, Int.reduceLT, Int.reduceLE, Int.reduceToNat, Int.reduceEq, Int.reduceNe, Int.reduceBEq, Int.reduceBNe, ne_eq, eq_self]
        exact ⟨_, _, rfl, fun h => (by cases h), hS.tail.p1.tail⟩
      · simp only [hpatA, hy1, hy2, r2, hok2, k1, Ev.upd_upd, ↓D0, ↓D1, ↓D2, ↓D3, ↓D4, ↓D5, ↓D6, ↓D7, ↓D8, ↓D9, ↓D10, U0, U1, U2, U3, U4, U5, U6, U7, U8, U9, U10, ↓reduceIte, Nat.reduceAdd, Nat.reduceMul, Nat.reduceSub, Nat.reduceEqDiff, Nat.reduceBEq, Nat.reduceLeDiff, Nat.reduceLT, Int.reduceAdd, Int.reduceMul, Int.reduceSub, Int.reduceLT, Int.reduceLE, Int.reduceToNat, Int.reduceEq, Int.reduceNe, Int.reduceBEq, Int.reduceBNe, ne_eq, eq_self]
        exact ⟨_, _, rfl, fun _ => ⟨hbo _ ⟨beq_iff_eq.1 k1, rfl⟩, (pgA_bd ..).1, held_lt (beq_iff_eq.1 k1)⟩, hS.tail.p1.tail⟩
  · have g4 : (pgK sh q (pgAt sh ws q) == 4) = false := beq_eq_false_iff_ne.2 k4
    cases hok : okPg sh q (pgAt sh ws q)
    · simp only [hok, g4, nxy, nyx, hx1, r1, Ev.upd_upd, ↓D0, ↓D1, ↓D2, ↓D3, ↓D4, ↓D5, ↓D6, ↓D7, ↓D8, ↓D9, ↓D10, U0, U1, U2, U3, U4, U5, U6, U7, U8, U9, U10, ↓reduceIte, Nat.reduceAdd, Nat.reduceMul, Nat.reduceSub, Nat.reduceEqDiff, Nat.reduceBEq, Nat.reduceLeDiff, Nat.reduceLT, Int.reduceAdd, Int.reduceMul, Int.reduceSub, Int.reduceLT, Int.reduceLE, Int.reduceToNat, Int.reduceEq, Int.reduceNe, Int.reduceBEq, Int.reduceBNe, ne_eq, eq_self]
      exact ⟨_, _, rfl, fun h => (by cases h), hS.tail.p1.tail⟩
    · cases k1 : (pgK sh q (pgAt sh ws q) == 1)
      · simp only [hok, g4, k1, nxy, nyx, hx1, r1, Ev.upd_upd, ↓D0, ↓D1, ↓D2, ↓D3, ↓D4, ↓D5, ↓D6, ↓D7, ↓D8, ↓D9, ↓D10, U0, U1, U2, U3, U4, U5, U6, U7, U8, U9, U10, ↓reduceIte, Nat.reduceAdd, Nat.reduceMul, Nat.reduceSub, Nat.reduceEqDiff, Nat.reduceBEq, Nat.reduceLeDiff, Nat.reduceLT, Int.reduceAdd, Int.reduceMul, Int.reduceSub, Int.reduceLT, Int.reduceLE, Int.reduceToNat, Int.reduceEq, Int.reduceNe, Int.reduceBEq, Int.reduceBNe, ne_eq, eq_self]
        exact ⟨_, _, rfl, fun h => (by cases h), hS.tail.p1.tail⟩
      · simp only [hok, g4, k1, nxy, nyx, hx1, r1, Ev.upd_upd, ↓D0, ↓D1, ↓D2, ↓D3, ↓D4, ↓D5, ↓D6, ↓D7, ↓D8, ↓D9, ↓D10, U0, U1, U2, U3, U4, U5, U6, U7, U8, U9, U10, ↓reduceIte, Nat.reduceAdd, Nat.reduceMul, Nat.reduceSub, Nat.reduceEqDiff, Nat.reduceBEq, Nat.reduceLeDiff, Nat.reduceLT, Int.reduceAdd, Int.reduceMul, Int.reduceSub, Int.reduceLT, Int.reduceLE, Int.reduceToNat, Int.reduceEq, Int.reduceNe, Int.reduceBEq, Int.reduceBNe, ne_eq, eq_self]
        exact ⟨_, _, rfl, fun _ => ⟨.inl ⟨beq_iff_eq.1 k1, rfl⟩, (pgA_bd ..).1, held_lt (beq_iff_eq.1 k1)⟩, hS.tail.p1.tail⟩
/-- Who is told to hold an address holds something. -/
def HoldsA (sh : Sh) (ws : Nat → Int) (c : Int) : Prop := 0 ≤ c ∧ c < sh.c ∧ ∃ q, 0 ≤ q ∧ q < sh.p ∧ (HoldsP sh ws q c ∨ (pgK sh q (pgAt sh ws q) = 2 ∧ ∃ i, 0 ≤ i ∧ i < 16 ∧ slAt sh ws q i = way c))
/-- What is read of a slot. -/
def hoC (sh : Sh) (ws : Nat → Int) (q i : Int) (L : List Hp) (F' : Fr) (H' : Hp) : Prop :=
  ∃ z, gt F' 15 = .pointer (some ⟨z, 0, none⟩) ∧ Sep (sg z (.cells #[.int .i64 (slK (slAt sh ws q i)), .int .i64 (slA (slAt sh ws q i))] 64 (0, 0)) :: L) H'
set_option maxHeartbeats 4000000 in
theorem c_holder (ad : Int) (a0 : 0 ≤ ad) (a1 : ad < sh.p * 64) (hm : may sh.p sh.c sh.m = true) (hsn : Snd sh ws) (hn : (n : Int) = words sh.p sh.c sh.m) (hr : RowU h a n ws) (hU : ∀ i, i < n → U (ws i)) (hS : Sep (h :: l) H) :
    CallP Try.prog W 38 #[.agg #[.int .i64 sh.p, .int .i64 sh.c, .int .i64 sh.m], .slice a n cap, .int .i64 ad] H fun v H' => ∃ c b, v = .tuple #[.int .i64 c, .bool b] ∧ (b = true → HoldsA sh ws c) ∧ Sep (h :: l) H' := by
  refine CallP.of mixed Try.func38 tr38 (by show 3 ≤ _; decide) fun W _ => ?_
  have hb := (may_iff _ _ _).1 hm
  have hth : there sh.p sh.c sh.m ad = true := by unfold there; rw [hm]; simp; rw [win_iff]; omega
  have hsp : sp sh.p sh.c sh.m ad = ad / 64 := by unfold sp; rw [if_pos hth]
  have hso : so sh.p sh.c sh.m ad = ad % 64 := by unfold so; rw [if_pos hth]
  obtain ⟨q, hq⟩ : ∃ q, ad / 64 = q := ⟨_, rfl⟩
  obtain ⟨off, hoff⟩ : ∃ off, ad % 64 = off := ⟨_, rfl⟩
  have hq0 : 0 ≤ q ∧ q < sh.p := by omega
  have ho0 : 0 ≤ off ∧ off < 64 := by omega
  rw [hq] at hsp
  rw [hoff] at hso
  simp only [↓D0, ↓D1, ↓D2, ↓D3, ↓D4, ↓D5, ↓D6, ↓D7, ↓D8, ↓D9, ↓D10, U0, U1, U2, U3, U4, U5, U6, U7, U8, U9, U10, ↓reduceIte, Nat.reduceAdd, Nat.reduceMul, Nat.reduceSub, Nat.reduceEqDiff, Nat.reduceBEq, Nat.reduceLeDiff, Nat.reduceLT, Int.reduceAdd, Int.reduceMul, Int.reduceSub, Int.reduceLT, Int.reduceLE, Int.reduceToNat, Int.reduceEq, Int.reduceNe, Int.reduceBEq, Int.reduceBNe, ne_eq, eq_self]
  refine newB_intro fun x hx f1 f2 => ?_
  have hS := (hS.new f1 (.cells #[.int .i64 sh.p, .int .i64 sh.c, .int .i64 sh.m] 23 (0, 0)))
  have hx1 := hS.look
  have r1 := fun o n => rdn_of hx1 o n
  simp only [hx1, r1, u_split, hsp, hso, hth, ↓D0, ↓D1, ↓D2, ↓D3, ↓D4, ↓D5, ↓D6, ↓D7, ↓D8, ↓D9, ↓D10, U0, U1, U2, U3, U4, U5, U6, U7, U8, U9, U10, ↓reduceIte, Nat.reduceAdd, Nat.reduceMul, Nat.reduceSub, Nat.reduceEqDiff, Nat.reduceBEq, Nat.reduceLeDiff, Nat.reduceLT, Int.reduceAdd, Int.reduceMul, Int.reduceSub, Int.reduceLT, Int.reduceLE, Int.reduceToNat, Int.reduceEq, Int.reduceNe, Int.reduceBEq, Int.reduceBNe, ne_eq, eq_self]
  refine callT_of (c_senough hm hn hS.p1) ?_
  rintro v H' ⟨rfl, hS⟩
  have hx1 := hS.lk 1 rfl
  have r1 := fun o n => rdn_of hx1 o n
  simp only [hx1, r1, ↓D0, ↓D1, ↓D2, ↓D3, ↓D4, ↓D5, ↓D6, ↓D7, ↓D8, ↓D9, ↓D10, U0, U1, U2, U3, U4, U5, U6, U7, U8, U9, U10, ↓reduceIte, Nat.reduceAdd, Nat.reduceMul, Nat.reduceSub, Nat.reduceEqDiff, Nat.reduceBEq, Nat.reduceLeDiff, Nat.reduceLT, Int.reduceAdd, Int.reduceMul, Int.reduceSub, Int.reduceLT, Int.reduceLE, Int.reduceToNat, Int.reduceEq, Int.reduceNe, Int.reduceBEq, Int.reduceBNe, ne_eq, eq_self]
  refine callT_of (c_phold q hm hn hr hU hS) ?_
  rintro v H' ⟨c, b, rfl, hcb, hS⟩
  have hx1 := hS.lk 1 rfl
  have r1 := fun o n => rdn_of hx1 o n
  cases b
  rotate_left
  · obtain ⟨h1, h2, h3⟩ := hcb rfl
    simp only [↓D0, ↓D1, ↓D2, ↓D3, ↓D4, ↓D5, ↓D6, ↓D7, ↓D8, ↓D9, ↓D10, U0, U1, U2, U3, U4, U5, U6, U7, U8, U9, U10, ↓reduceIte, Nat.reduceAdd, Nat.reduceMul, Nat.reduceSub, Nat.reduceEqDiff, Nat.reduceBEq, Nat.reduceLeDiff, Nat.reduceLT, Int.reduceAdd, Int.reduceMul, Int.reduceSub, Int.reduceLT, Int.reduceLE, Int.reduceToNat, Int.reduceEq, Int.reduceNe, Int.reduceBEq, Int.reduceBNe, ne_eq, eq_self]
    exact ⟨_, _, rfl, fun _ => ⟨h2, h3, q, hq0.1, hq0.2, .inl h1⟩, hS.p1.tail⟩
  clear hcb
  simp only [hx1, r1, ↓D0, ↓D1, ↓D2, ↓D3, ↓D4, ↓D5, ↓D6, ↓D7, ↓D8, ↓D9, ↓D10, U0, U1, U2, U3, U4, U5, U6, U7, U8, U9, U10, ↓reduceIte, Nat.reduceAdd, Nat.reduceMul, Nat.reduceSub, Nat.reduceEqDiff, Nat.reduceBEq, Nat.reduceLeDiff, Nat.reduceLT, Int.reduceAdd, Int.reduceMul, Int.reduceSub, Int.reduceLT, Int.reduceLE, Int.reduceToNat, Int.reduceEq, Int.reduceNe, Int.reduceBEq, Int.reduceBNe, ne_eq, eq_self]
  refine callT_of (c_spage q hm hn hr hU hS) ?_
  rintro v H' ⟨rfl, hS⟩
  have hx1 := hS.lk 1 rfl
  have hpat : spX sh ws q = pgAt sh ws q := rfl
  simp only [hpat, ↓D0, ↓D1, ↓D2, ↓D3, ↓D4, ↓D5, ↓D6, ↓D7, ↓D8, ↓D9, ↓D10, U0, U1, U2, U3, U4, U5, U6, U7, U8, U9, U10, ↓reduceIte, Nat.reduceAdd, Nat.reduceMul, Nat.reduceSub, Nat.reduceEqDiff, Nat.reduceBEq, Nat.reduceLeDiff, Nat.reduceLT, Int.reduceAdd, Int.reduceMul, Int.reduceSub, Int.reduceLT, Int.reduceLE, Int.reduceToNat, Int.reduceEq, Int.reduceNe, Int.reduceBEq, Int.reduceBNe, ne_eq, eq_self]
  refine newB_intro fun y hy f3 f4 => ?_
  have nxy : (x = y) = False := f3 x (by rw [hx1]; rfl)
  have nyx : (y = x) = False := f4 x (by rw [hx1]; rfl)
  have hS := hS.new f3 (.cells #[.int .i64 (pgK sh q (pgAt sh ws q)), .int .i64 (pgA sh q (pgAt sh ws q)), .int .i64 (pgB sh q (pgAt sh ws q))] 59 (0, 0))
  have r1 := fun o n => rdn_of hx1 o n
  simp only [nxy, nyx, hx1, r1, Ev.upd_upd, ↓D0, ↓D1, ↓D2, ↓D3, ↓D4, ↓D5, ↓D6, ↓D7, ↓D8, ↓D9, ↓D10, U0, U1, U2, U3, U4, U5, U6, U7, U8, U9, U10, ↓reduceIte, Nat.reduceAdd, Nat.reduceMul, Nat.reduceSub, Nat.reduceEqDiff, Nat.reduceBEq, Nat.reduceLeDiff, Nat.reduceLT, Int.reduceAdd, Int.reduceMul, Int.reduceSub, Int.reduceLT, Int.reduceLE, Int.reduceToNat, Int.reduceEq, Int.reduceNe, Int.reduceBEq, Int.reduceBNe, ne_eq, eq_self]
  rw [Ev.upd_upd]
  by_cases k2 : pgK sh q (pgAt sh ws q) = 2
  rotate_left
  · have g2 : (pgK sh q (pgAt sh ws q) == 2) = false := beq_eq_false_iff_ne.2 k2
    cases hok : okPg sh q (pgAt sh ws q)
    all_goals
      simp only [hok, g2, nxy, nyx, hx1, r1, Ev.upd_upd, ↓D0, ↓D1, ↓D2, ↓D3, ↓D4, ↓D5, ↓D6, ↓D7, ↓D8, ↓D9, ↓D10, U0, U1, U2, U3, U4, U5, U6, U7, U8, U9, U10, ↓reduceIte, Nat.reduceAdd, Nat.reduceMul, Nat.reduceSub, Nat.reduceEqDiff, Nat.reduceBEq, Nat.reduceLeDiff, Nat.reduceLT, Int.reduceAdd, Int.reduceMul, Int.reduceSub, Int.reduceLT, Int.reduceLE, Int.reduceToNat, Int.reduceEq, Int.reduceNe, Int.reduceBEq, Int.reduceBNe, ne_eq, eq_self]
      exact ⟨_, _, rfl, fun h => (by cases h), hS.tail.p1.tail⟩
  have hok := pgK_ne (s := sh) (q := q) (x := pgAt sh ws q) (by rw [k2]; decide)
  have g2 : (pgK sh q (pgAt sh ws q) == 2) = true := beq_iff_eq.2 k2
  obtain ⟨A, hA⟩ : ∃ A, pgA sh q (pgAt sh ws q) = A := ⟨_, rfl⟩
  have hAs := Gv.ok_super hok k2
  rw [hA] at hAs hS
  obtain ⟨i, hi, hib⟩ : ∃ i, off / size A = i ∧ 0 ≤ i ∧ i < slots A := by
    refine ⟨_, rfl, ?_⟩
    rcases (by omega : A = 0 ∨ A = 1 ∨ A = 2 ∨ A = 3) with h | h | h | h <;> subst h
    · show 0 ≤ off / 4 ∧ off / 4 < 16; omega
    · show 0 ≤ off / 8 ∧ off / 8 < 8; omega
    · show 0 ≤ off / 16 ∧ off / 16 < 4; omega
    · show 0 ≤ off / 32 ∧ off / 32 < 2; omega
  have hz : 4 ≤ size A ∧ size A ≤ 32 := by
    rcases (by omega : A = 0 ∨ A = 1 ∨ A = 2 ∨ A = 3) with h | h | h | h <;> rw [h] <;> decide
  have z0 : (size A = 0) = False := eq_false (by omega)
  have td : off.tdiv (size A) = i := by rw [Int.tdiv_eq_ediv_of_nonneg ho0.1]; exact hi
  have wi : w64 i = i := w64_eq (by omega) (by have := slots_bd A; omega)
  have sb := slots_bd A
  have hy1 := hS.look
  have r0 := fun o => rd_of hy1 o
  have hx1 := hS.lk 2 rfl
  have r1 := fun o n => rdn_of hx1 o n
  rw [hA]
  simp only [hok, g2, nxy, nyx, hx1, r1, hy1, r0, hA, Ev.upd_upd, ↓D0, ↓D1, ↓D2, ↓D3, ↓D4, ↓D5, ↓D6, ↓D7, ↓D8, ↓D9, ↓D10, U0, U1, U2, U3, U4, U5, U6, U7, U8, U9, U10, ↓reduceIte, Nat.reduceAdd, Nat.reduceMul, Nat.reduceSub, Nat.reduceEqDiff, Nat.reduceBEq, Nat.reduceLeDiff, Nat.reduceLT, Int.reduceAdd, Int.reduceMul, Int.reduceSub, Int.reduceLT, Int.reduceLE, Int.reduceToNat, Int.reduceEq, Int.reduceNe, Int.reduceBEq, Int.reduceBNe, ne_eq, eq_self]
  refine draw_cut [(x, #[.int .i64 sh.p, .int .i64 sh.c, .int .i64 sh.m], []), (y, #[.int .i64 (pgK sh q (pgAt sh ws q)), .int .i64 A, .int .i64 (pgB sh q (pgAt sh ws q))], [])] (hoC sh ws q i (sg y (.cells #[.int .i64 (pgK sh q (pgAt sh ws q)), .int .i64 A, .int .i64 (pgB sh q (pgAt sh ws q))] 59 (0, 0)) :: h :: sg x (.cells #[.int .i64 sh.p, .int .i64 sh.c, .int .i64 sh.m] 23 (0, 0)) :: l)) (by simp only [nxy, hx1, hA, hy1, ↓D0, ↓D1, ↓D2, ↓D3, ↓D4, ↓D5, ↓D6, ↓D7, ↓D8, ↓D9, ↓D10, U0, U1, U2, U3, U4, U5, U6, U7, U8, U9, U10, ↓reduceIte, Nat.reduceAdd, Nat.reduceMul, Nat.reduceSub, Nat.reduceEqDiff, Nat.reduceBEq, Nat.reduceLeDiff, Nat.reduceLT, Int.reduceAdd, Int.reduceMul, Int.reduceSub, Int.reduceLT, Int.reduceLE, Int.reduceToNat, Int.reduceEq, Int.reduceNe, Int.reduceBEq, Int.reduceBNe, ne_eq, eq_self]) ?_ ?_
  · simp only [hx1, r1, hy1, r0, nxy, nyx, u_size, z0, td, wrap_w64, wi, ↓e_dalt2, ↓D0, ↓D1, ↓D2, ↓D3, ↓D4, ↓D5, ↓D6, ↓D7, ↓D8, ↓D9, ↓D10, U0, U1, U2, U3, U4, U5, U6, U7, U8, U9, U10, ↓reduceIte, Nat.reduceAdd, Nat.reduceMul, Nat.reduceSub, Nat.reduceEqDiff, Nat.reduceBEq, Nat.reduceLeDiff, Nat.reduceLT, Int.reduceAdd, Int.reduceMul, Int.reduceSub, Int.reduceLT, Int.reduceLE, Int.reduceToNat, Int.reduceEq, Int.reduceNe, Int.reduceBEq, Int.reduceBNe, ne_eq, eq_self]
    refine ⟨⟨?_, ?_⟩, ?_⟩
    · refine callT_of (c_sslot q i hm hn hr hU hq0 ⟨hib.1, by omega⟩ hS.p1) ?_
      rintro v H' ⟨rfl, hS⟩
      have hx1 := hS.lk 2 rfl
      have hy1 := hS.lk 1 rfl
      have r0 := fun o => rd_of hy1 o
      have hsl : ws (sh.c + sh.p + q * 16 + i).toNat = slAt sh ws q i := rfl
      simp only [hx1, hy1, r0, nxy, nyx, hsl, ↓e_dalt2, ↓D0, ↓D1, ↓D2, ↓D3, ↓D4, ↓D5, ↓D6, ↓D7, ↓D8, ↓D9, ↓D10, U0, U1, U2, U3, U4, U5, U6, U7, U8, U9, U10, ↓reduceIte, Nat.reduceAdd, Nat.reduceMul, Nat.reduceSub, Nat.reduceEqDiff, Nat.reduceBEq, Nat.reduceLeDiff, Nat.reduceLT, Int.reduceAdd, Int.reduceMul, Int.reduceSub, Int.reduceLT, Int.reduceLE, Int.reduceToNat, Int.reduceEq, Int.reduceNe, Int.reduceBEq, Int.reduceBNe, ne_eq, eq_self]
      refine newB_intro fun z hz f5 f6 => ?_
      have nxz : (x = z) = False := f5 x (by rw [hx1]; rfl)
      have nyz : (y = z) = False := f5 y (by rw [hy1]; rfl)
      have nzx : (z = x) = False := f6 x (by rw [hx1]; rfl)
      have nzy : (z = y) = False := f6 y (by rw [hy1]; rfl)
      have hS := hS.new f5 (.cells #[.int .i64 (slK (slAt sh ws q i)), .int .i64 (slA (slAt sh ws q i))] 64 (0, 0))
      simp only [hx1, hy1, nxy, nyx, nxz, nyz, nzx, nzy, Ev.upd_upd, ↓D0, ↓D1, ↓D2, ↓D3, ↓D4, ↓D5, ↓D6, ↓D7, ↓D8, ↓D9, ↓D10, U0, U1, U2, U3, U4, U5, U6, U7, U8, U9, U10, ↓reduceIte, Nat.reduceAdd, Nat.reduceMul, Nat.reduceSub, Nat.reduceEqDiff, Nat.reduceBEq, Nat.reduceLeDiff, Nat.reduceLT, Int.reduceAdd, Int.reduceMul, Int.reduceSub, Int.reduceLT, Int.reduceLE, Int.reduceToNat, Int.reduceEq, Int.reduceNe, Int.reduceBEq, Int.reduceBNe, ne_eq, eq_self]
      exact ⟨z, by simp [gt], hS.p2.p1⟩
    all_goals
      refine newB_intro fun z hz f5 f6 => ?_
      have nxz : (x = z) = False := f5 x (by rw [hx1]; rfl)
      have nyz : (y = z) = False := f5 y (by rw [hy1]; rfl)
      have nzx : (z = x) = False := f6 x (by rw [hx1]; rfl)
      have nzy : (z = y) = False := f6 y (by rw [hy1]; rfl)
      have hS := hS.new f5 (.cells #[.int .i64 0, .int .i64 0] 64 (0, 0))
      have hsl : ws (sh.c + sh.p + q * 16 + i).toNat = slAt sh ws q i := rfl
      simp only [hx1, r1, hy1, r0, nxy, nyx, nxz, nyz, nzx, nzy, u_size, z0, td, wrap_w64, wi, ↓D0, ↓D1, ↓D2, ↓D3, ↓D4, ↓D5, ↓D6, ↓D7, ↓D8, ↓D9, ↓D10, U0, U1, U2, U3, U4, U5, U6, U7, U8, U9, U10, ↓reduceIte, Nat.reduceAdd, Nat.reduceMul, Nat.reduceSub, Nat.reduceEqDiff, Nat.reduceBEq, Nat.reduceLeDiff, Nat.reduceLT, Int.reduceAdd, Int.reduceMul, Int.reduceSub, Int.reduceLT, Int.reduceLE, Int.reduceToNat, Int.reduceEq, Int.reduceNe, Int.reduceBEq, Int.reduceBNe, ne_eq, eq_self]
      refine callT_of (c_sslot q i hm hn hr hU hq0 ⟨hib.1, by omega⟩ hS.p2) ?_
      rintro v H' ⟨rfl, hS⟩
      have hx1 := hS.lk 3 rfl
      have hy1 := hS.lk 2 rfl
      have hz1 := hS.lk 1 rfl
      have hS := hS.p1.set (.cells #[.int .i64 (slK (slAt sh ws q i)), .int .i64 (slA (slAt sh ws q i))] 64 (0, 0))
      simp only [hx1, hy1, hz1, nxy, nyx, nxz, nyz, nzx, nzy, hsl, Ev.upd_upd, ↓D0, ↓D1, ↓D2, ↓D3, ↓D4, ↓D5, ↓D6, ↓D7, ↓D8, ↓D9, ↓D10, U0, U1, U2, U3, U4, U5, U6, U7, U8, U9, U10, ↓reduceIte, Nat.reduceAdd, Nat.reduceMul, Nat.reduceSub, Nat.reduceEqDiff, Nat.reduceBEq, Nat.reduceLeDiff, Nat.reduceLT, Int.reduceAdd, Int.reduceMul, Int.reduceSub, Int.reduceLT, Int.reduceLE, Int.reduceToNat, Int.reduceEq, Int.reduceNe, Int.reduceBEq, Int.reduceBNe, ne_eq, eq_self]
      exact ⟨z, by simp [gt], hS.p1.p2.p2⟩
  · rintro F' H' ⟨z, e15, hS⟩
    have hz1 := hS.look
    have r3 := fun o => rd_of hz1 o
    have fin : ∀ H2, Sep (sg z (.cells #[.int .i64 (slK (slAt sh ws q i)), .int .i64 (slA (slAt sh ws q i))] 64 (0, 0)) :: sg y (.cells #[.int .i64 (pgK sh q (pgAt sh ws q)), .int .i64 A, .int .i64 (pgB sh q (pgAt sh ws q))] 59 (0, 0)) :: h :: sg x (.cells #[.int .i64 sh.p, .int .i64 sh.c, .int .i64 sh.m] 23 (0, 0)) :: l) H2 → Sep (h :: l) H2 := fun H2 h2 => h2.tail.tail.p1.tail
    by_cases s2 : slK (slAt sh ws q i) = 2
    · have h2 : (slK (slAt sh ws q i) == 2) = true := beq_iff_eq.2 s2
      simp only [hz1, r3, e15, h2, ↓D0, ↓D1, ↓D2, ↓D3, ↓D4, ↓D5, ↓D6, ↓D7, ↓D8, ↓D9, ↓D10, U0, U1, U2, U3, U4, U5, U6, U7, U8, U9, U10, ↓reduceIte, Nat.reduceAdd, Nat.reduceMul, Nat.reduceSub, Nat.reduceEqDiff, Nat.reduceBEq, Nat.reduceLeDiff, Nat.reduceLT, Int.reduceAdd, Int.reduceMul, Int.reduceSub, Int.reduceLT, Int.reduceLE, Int.reduceToNat, Int.reduceEq, Int.reduceNe, Int.reduceBEq, Int.reduceBNe, ne_eq, eq_self]
      refine ⟨_, _, rfl, fun _ => ⟨(slA_bd _).1, ?_, q, hq0.1, hq0.2, .inr ⟨k2, i, hib.1, by omega, is_way s2⟩⟩, fin _ hS⟩
      have hsu := (hsn.pg q.toNat (by omega)).2.sup (by rw [show ((q.toNat : Nat) : Int) = q by omega]; exact beq_iff_eq.2 k2) i.toNat (by omega)
      rw [show ((q.toNat : Nat) : Int) = q by omega, show ((i.toNat : Nat) : Int) = i by omega, hA] at hsu
      unfold slB at hsu
      rw [decide_eq_true hib.2, s2] at hsu
      simpa using hsu
    · have h2 : (slK (slAt sh ws q i) == 2) = false := beq_eq_false_iff_ne.2 s2
      simp only [hz1, r3, e15, h2, ↓D0, ↓D1, ↓D2, ↓D3, ↓D4, ↓D5, ↓D6, ↓D7, ↓D8, ↓D9, ↓D10, U0, U1, U2, U3, U4, U5, U6, U7, U8, U9, U10, ↓reduceIte, Nat.reduceAdd, Nat.reduceMul, Nat.reduceSub, Nat.reduceEqDiff, Nat.reduceBEq, Nat.reduceLeDiff, Nat.reduceLT, Int.reduceAdd, Int.reduceMul, Int.reduceSub, Int.reduceLT, Int.reduceLE, Int.reduceToNat, Int.reduceEq, Int.reduceNe, Int.reduceBEq, Int.reduceBNe, ne_eq, eq_self]
      exact ⟨_, _, rfl, fun h => (by cases h), fin _ hS⟩
end
end Go.Proofs.Ytfopnendmcpglaa
