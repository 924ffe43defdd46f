/-
  StripBack, walked: a page with a slot that is not open is given back as it was. Conditions: none.
-/
import Derived.Test.YtfapipblclikbaaStripK
import Derived.Test.YtfapipblclikbaaMaMany3
import Derived.Test.YtfapipblclikbaaFrame
set_option linter.unusedVariables false
set_option linter.unusedSimpArgs false
set_option maxRecDepth 8000
namespace Go.Proofs.Ytfapipblclikbaa
open Go Go.Ev Go.Pl Go.Ma

theorem oneW_at' {k : Int} {n : Nat} {ws : Nat → Int} (hn : n ≤ 16) : (∀ j : Int, 0 ≤ j → j < n → (rowW 19 (oneW k n ws)).get (3 + j) = ws j.toNat) ∧ (rowW 19 (oneW k n ws)).get 2 = putPg 2 k 0 := by
  refine ⟨fun j h0 h1 => ?_, rfl⟩
  show (if (3 + j).toNat < 19 then (if 3 ≤ (3 + j).toNat ∧ (3 + j).toNat - 3 < n then ws ((3 + j).toNat - 3) else _) else _) = _
  rw [if_pos (by omega), if_pos (by omega)]
  congr 1; omega

/-- The bits say which slots are open. -/
def bitAt (m : Int) (i : Int) : Bool := bits BinOp.and IntKind.u16 (m.fdiv (2 ^ min i.toNat IntKind.u16.bits)) 1 == 0
def wsB (k m : Int) (j : Nat) : Int := if bitAt m j then putSl 3 k else putSl 1 k
/-- The first one that is not open below i, or n. -/
def FstB (m n i fst : Int) : Prop := (fst = n ∧ ∀ j, 0 ≤ j → j < i → bitAt m j = false) ∨ (0 ≤ fst ∧ fst < i ∧ bitAt m fst = true ∧ ∀ j, 0 ≤ j → j < fst → bitAt m j = false)
theorem U_wsB (k m : Int) (j : Nat) : U (wsB k m j) := by unfold wsB; split; exact U_putSl ..; exact U_putSl ..

/-- A stripper alone: what it has done after so many steps, where the slot at fst is the first that is not open. -/
structure SbInv (k m fst : Int) (w0 : Wd) (c : Int) (t : St) (w : Wd) : Prop where
  wf : t.wf
  hs : t.s = ⟨1, 2, 0⟩
  hc : t.c = 0
  hp : t.p = 0
  hk : t.k = k
  n : w.n = w0.n
  of : w.of ⟨1, 2, 0⟩
  dn : t.dn = true → (fst < slots k → c = 2 * fst + 1 ∧ t.i = 0 ∧ t.hd = false) ∧ (fst = slots k → c = slots k + 1 ∧ t.i = slots k ∧ t.hd = true)
  up : t.dn = false → t.bk = false → c = t.i ∧ 0 ≤ t.i ∧ t.i ≤ fst ∧ t.hd = false
  bk : t.dn = false → t.bk = true → fst < slots k ∧ 0 < t.i ∧ c = 2 * fst + 1 - t.i ∧ t.i ≤ fst ∧ t.hd = false
  sl : ∀ j, 0 ≤ j → j < 16 → w.get (3 + j) = if j < t.i then putSl 2 0 else w0.get (3 + j)
  rest : ∀ a, 0 ≤ a → (a < 3 ∨ 19 ≤ a) → (a = 2 → fst < slots k) → w.get a = w0.get a
theorem SbInv.step {k m fst c : Int} {w0 w : Wd} {t : St} (h : SbInv k m fst w0 c t w) (hd : t.dn = false) (hf : 0 ≤ fst ∧ fst ≤ slots k) (hop : ∀ j, 0 ≤ j → j < fst → w0.get (3 + j) = opn k) (hno : fst < slots k → w0.get (3 + fst) ≠ opn k) : SbInv k m fst w0 (c + 1) (t.step w).1 (t.step w).2 := by
  obtain ⟨hwf, hs, hc, hp, hk, hn, hof, hdn, hup, hbk, hsl, hrest⟩ := h
  have hwf' := St.step_wf (w := w) hwf
  have hof' := St.step_of (t := t) hof
  have hsb := slots_bd k
  have hmay : may (⟨1, 2, 0⟩ : Sh).p (⟨1, 2, 0⟩ : Sh).c (⟨1, 2, 0⟩ : Sh).m = true := by decide
  obtain ⟨b1, b2, b3, b4, b5, b6, b7, b8, b9⟩ := hwf.of hd
  rw [hk] at b8
  have hat : ∀ j, 0 ≤ j → j < 16 → t.at' j = 3 + j := fun j j0 j1 => by
    unfold St.at'; rw [hs, hp, slot1 hmay rfl j0 j1]; rfl
  have hpat : t.pat = 2 := by unfold St.pat; rw [hs, hp]; decide
  rcases St.step_cases t w with ⟨hd', e⟩ | ⟨-, ⟨hb, e⟩ | ⟨hb, hi, e⟩ | ⟨hb, hi, hz, e⟩ | ⟨hb, hi, hz, e⟩⟩
  · rw [hd] at hd'; cases hd'
  · obtain ⟨c1, c2, c3, c4, c5⟩ := hbk hd hb
    rw [e] at hwf' hof' ⊢
    have hget : ∀ a, 0 ≤ a → (w.store t.c (t.at' (t.i - 1)) (opn t.k)).get a = if a = 3 + (t.i - 1) then opn k else w.get a := fun a ha => by
      rw [hat _ (by omega) (by omega), get_store (by omega) ha, hk]
    refine ⟨hwf', hs, hc, hp, hk, hn, hof', fun h => ⟨fun _ => ?_, fun h2 => by omega⟩, (fun _ h => by have h : t.bk = false := h; rw [hb] at h; cases h), fun h _ => ?_, fun j j0 j1 => ?_, fun a a0 a1 a2 => ?_⟩
    · have h : decide (t.i - 1 = 0) = true := h
      have h := of_decide_eq_true h
      exact ⟨by omega, h, c5⟩
    · have h : decide (t.i - 1 = 0) = false := h
      have h := of_decide_eq_false h
      exact ⟨c1, by show 0 < t.i - 1; omega, by show c + 1 = 2 * fst + 1 - (t.i - 1); omega, by show t.i - 1 ≤ _; omega, c5⟩
    · rw [hget _ (by omega)]
      show _ = if j < t.i - 1 then _ else _
      by_cases ej : j = t.i - 1
      · rw [if_pos (by omega), if_neg (by omega), hop j j0 (by omega)]
      · rw [if_neg (by omega), hsl j j0 j1]
        by_cases hj : j < t.i - 1
        · rw [if_pos hj, if_pos (by omega)]
        · rw [if_neg hj, if_neg (by omega)]
    · rw [hget _ a0, if_neg (by omega)]; exact hrest a a0 a1 a2
  · obtain ⟨c1, c2, c3, c4⟩ := hup hd hb
    rw [hk] at hi
    rw [e] at hwf' hof' ⊢
    have hget : ∀ a, 0 ≤ a → (w.store t.c t.pat (held t.c)).get a = if a = 2 then held t.c else w.get a := fun a ha => by
      rw [hpat, get_store (by omega) ha]
    refine ⟨hwf', hs, hc, hp, hk, hn, hof', fun _ => ⟨fun h2 => by omega, fun _ => ⟨by omega, hi, rfl⟩⟩, (fun h => by cases h), (fun h => by cases h), fun j j0 j1 => ?_, fun a a0 a1 a2 => ?_⟩
    · rw [hget _ (by omega), if_neg (by omega)]; exact hsl j j0 j1
    · rw [hget _ a0, if_neg (fun h => by have := a2 h; omega)]; exact hrest a a0 a1 a2
  · obtain ⟨c1, c2, c3, c4⟩ := hup hd hb
    rw [hk] at hi
    rw [hk, hat _ (by omega) (by omega)] at hz
    rw [e] at hwf' hof' ⊢
    have hget : ∀ a, 0 ≤ a → (w.swap t.c (t.at' t.i) (opn t.k) (way t.c)).get a = if a = 3 + t.i then putSl 2 0 else w.get a := fun a ha => by
      rw [hat _ (by omega) (by omega), get_swap (by omega) ha, hk, hc, if_pos hz]; rfl
    have hlt : t.i < fst := by
      by_cases hl : t.i < fst
      · exact hl
      · exfalso
        have hfe : t.i = fst := by omega
        rw [hsl _ c2 (by omega), if_neg (by omega)] at hz
        rw [hfe] at hz
        exact hno (by omega) hz
    refine ⟨hwf', hs, hc, hp, hk, hn, hof', (fun h => by have h : t.dn = true := h; rw [hd] at h; cases h), fun _ _ => ⟨by show c + 1 = t.i + 1; omega, by show 0 ≤ t.i + 1; omega, by show t.i + 1 ≤ fst; omega, c4⟩, (fun _ h => by have h : t.bk = true := h; rw [hb] at h; cases h), fun j j0 j1 => ?_, fun a a0 a1 a2 => ?_⟩
    · rw [hget _ (by omega)]
      show _ = if j < t.i + 1 then _ else _
      by_cases ej : j = t.i
      · rw [if_pos (by omega), if_pos (by omega)]
      · rw [if_neg (by omega), hsl j j0 j1]
        by_cases hj : j < t.i
        · rw [if_pos hj, if_pos (by omega)]
        · rw [if_neg hj, if_neg (by omega)]
    · rw [hget _ a0, if_neg (by omega)]; exact hrest a a0 a1 a2
  · obtain ⟨c1, c2, c3, c4⟩ := hup hd hb
    rw [hk] at hi
    rw [hk, hat _ (by omega) (by omega)] at hz
    rw [e] at hwf' hof' ⊢
    have hget : ∀ a, 0 ≤ a → (w.swap t.c (t.at' t.i) (opn t.k) (way t.c)).get a = w.get a := fun a ha => by
      rw [hat _ (by omega) (by omega), get_swap (by omega) ha, hk, if_neg hz]
      split
      · rename_i e2; rw [e2]
      · rfl
    have hfe : t.i = fst := by
      by_cases hl : t.i < fst
      · exfalso
        rw [hsl _ c2 (by omega), if_neg (by omega)] at hz
        exact hz (hop _ c2 hl)
      · omega
    refine ⟨hwf', hs, hc, hp, hk, hn, hof', fun h => ⟨fun _ => ?_, fun h2 => by omega⟩, (fun _ h => by cases h), fun h _ => ?_, fun j j0 j1 => ?_, fun a a0 a1 a2 => ?_⟩
    · have h : decide (t.i = 0) = true := h
      have h := of_decide_eq_true h
      exact ⟨by omega, h, c4⟩
    · have h : decide (t.i = 0) = false := h
      have h := of_decide_eq_false h
      exact ⟨by omega, by show 0 < t.i; omega, by show c + 1 = 2 * fst + 1 - t.i; omega, by show t.i ≤ _; omega, c4⟩
    · rw [hget _ (by omega)]; exact hsl j j0 j1
    · rw [hget _ a0]; exact hrest a a0 a1 a2

theorem RowU.congr {h : Hp} {a : Option Addr} {n : Nat} {ws ws' : Nat → Int} (hr : RowU h a n ws) (he : ∀ i, i < n → ws i = ws' i) : RowU h a n ws' := by
  rcases hr with hr | ⟨b, o, e, hr⟩
  · exact .inl hr
  · exact .inr ⟨b, o, e, fun i hi => by rw [← he i hi]; exact hr i hi⟩
section
variable {W : World} {H : Hp} {l : List Hp}

def sbI1 (k m : Int) (l : List Hp) (F' : Fr) (H' : Hp) : Prop :=
  ∃ (i : Nat) (fst : Int) (a : Option Addr) (cap : Nat) (g : Hp), (i : Int) ≤ slots k ∧ gt F' 9 = .int .i64 (i : Int) ∧ gt F' 7 = .slice a i cap ∧ gt F' 8 = .int .i64 fst ∧ (gt F' 1 = .int .u16 m ∧ gt F' 5 = .int .i64 k ∧ gt F' 6 = .int .i64 (slots k)) ∧ FstB m (slots k) i fst ∧ Gr 26 a i cap (fun j => .int .u64 (wsB k m j)) g ∧ Sep (g :: l) H'
def sbI2 (k m fst : Int) (w0 : Wd) (b kt s y : Nat) (L : List Hp) (F' : Fr) (H' : Hp) : Prop :=
  ∃ (c : Int) (t : St) (w : Wd), 0 ≤ c ∧ c ≤ 60 ∧ gt F' 15 = .int .i64 c ∧ gt F' 16 = .int .i64 c ∧ (gt F' 6 = .int .i64 (slots k) ∧ gt F' 8 = .int .i64 fst ∧ gt F' 12 = .slice (some ⟨y, 0, none⟩) 19 19 ∧ gt F' 13 = .pointer (some ⟨b, 0, none⟩) ∧ gt F' 14 = .pointer (some ⟨kt, 0, none⟩)) ∧
    SbInv k m fst w0 c t w ∧ t.left ≤ max 0 (34 - c) ∧ Sep (stB kt t :: wB b s w :: wR s w :: L) H'
def sbI3 (k c : Int) (b kt : Nat) (L : List Hp) (F' : Fr) (H' : Hp) : Prop :=
  ∃ i : Int, 0 ≤ i ∧ i ≤ slots k ∧ gt F' 17 = .int .i64 i ∧ gt F' 15 = .int .i64 c ∧ gt F' 6 = .int .i64 (slots k) ∧ gt F' 13 = .pointer (some ⟨b, 0, none⟩) ∧ gt F' 14 = .pointer (some ⟨kt, 0, none⟩) ∧ Sep L H'

theorem c_stripback {cc m : Int} (h0 : 0 ≤ cc) (h1 : cc ≤ 255) (hk0 : 0 ≤ m) (hk1 : m ≤ 65535) (hS : Sep l H) :
    CallP Try.prog W 13 #[.int .u8 cc, .int .u16 m] H fun v H' => v = .bool true ∧ Sep l H' := by
  refine CallP.of mixed Try.func13 tr13 (by show 2 ≤ _; decide) fun W _ => ?_
  simp only [↓D0, ↓D1, ↓D2, ↓D3, ↓D4, ↓D5, ↓D6, ↓D7, ↓D8, ↓D9, U0, U1, U2, U3, U4, U5, U6, U7, U8, U9, U10, ↓reduceIte, Nat.reduceAdd, Nat.reduceMul, Nat.reduceSub, Nat.reduceEqDiff, Nat.reduceBEq, Nat.reduceLeDiff, Nat.reduceLT, Int.reduceAdd, Int.reduceMul, Int.reduceSub, Int.reduceLT, Int.reduceLE, Int.reduceToNat, Int.reduceEq, Int.reduceNe, Int.reduceBEq, Int.reduceBNe, ne_eq, eq_self]
  refine callT_of (c_awake11 hS) ?_
  rintro v H' ⟨rfl, hS⟩
  have ec : w64 cc = cc := w64_eq (by omega) (by omega)
  have tc : cc.tmod 4 = cc % 4 := Int.tmod_eq_emod_of_nonneg h0
  obtain ⟨k, hk⟩ : ∃ k, cc % 4 = k := ⟨_, rfl⟩
  have k0 : 0 ≤ k := by omega
  have k3 : k ≤ 3 := by omega
  have wk : w64 k = k := w64_eq (by omega) (by omega)
  have sb := slots_bd k
  have sp := slots_pos k0 k3
  simp only [wrap_w64, ec, tc, hk, wk, u_slots, ↓D0, ↓D1, ↓D2, ↓D3, ↓D4, ↓D5, ↓D6, ↓D7, ↓D8, ↓D9, U0, U1, U2, U3, U4, U5, U6, U7, U8, U9, U10, ↓reduceIte, Nat.reduceAdd, Nat.reduceMul, Nat.reduceSub, Nat.reduceEqDiff, Nat.reduceBEq, Nat.reduceLeDiff, Nat.reduceLT, Int.reduceAdd, Int.reduceMul, Int.reduceSub, Int.reduceLT, Int.reduceLE, Int.reduceToNat, Int.reduceEq, Int.reduceNe, Int.reduceBEq, Int.reduceBNe, ne_eq, eq_self]
  refine loop_intro (sbI1 k m l) (fun F' _ => (16 - iv (gt F' 9)).toNat) ⟨0, slots k, none, 0, _, by omega, rfl, rfl, rfl, ⟨rfl, rfl, rfl⟩, .inl ⟨rfl, fun j a b => by omega⟩, Gr.none _ _, hS.nothing⟩ ?_
  rintro F' H' ⟨i, fst, a, cap, g, hi, e9, e7, e8, ⟨e1, e5, e6⟩, hF, hG, hS⟩
  by_cases hlt : (i : Int) < slots k
  · have g1 : decide ((i : Int) < slots k) = true := decide_eq_true hlt
    have w1 : w64 ((i : Int) + 1) = ((i + 1 : Nat) : Int) := by rw [w64_eq (by omega) (by omega)]; omega
    have wu1 : wu (i : Int) = (i : Int) := wu_eq (by omega) (by omega)
    have i0 : (0 : Int) ≤ (i : Int) := by omega
    simp only [e9, e7, e8, e1, e5, e6, g1, ↓D0, ↓D1, ↓D2, ↓D3, ↓D4, ↓D5, ↓D6, ↓D7, ↓D8, ↓D9, U0, U1, U2, U3, U4, U5, U6, U7, U8, U9, U10, ↓reduceIte, Nat.reduceAdd, Nat.reduceMul, Nat.reduceSub, Nat.reduceEqDiff, Nat.reduceBEq, Nat.reduceLeDiff, Nat.reduceLT, Int.reduceAdd, Int.reduceMul, Int.reduceSub, Int.reduceLT, Int.reduceLE, Int.reduceToNat, Int.reduceEq, Int.reduceNe, Int.reduceBEq, Int.reduceBNe, ne_eq, eq_self]
    refine callT_of (c_open k hS) ?_
    rintro v H' ⟨rfl, hS⟩
    cases hb : bitAt m (i : Int)
    · have hb2 : (bits BinOp.and IntKind.u16 (m.fdiv (2 ^ min i IntKind.u16.bits)) 1 == 0) = false := hb
      simp only [e9, e7, e8, e1, e5, e6, wrap_wu, wu1, i0, hb2, Int.toNat_natCast, ↓D0, ↓D1, ↓D2, ↓D3, ↓D4, ↓D5, ↓D6, ↓D7, ↓D8, ↓D9, U0, U1, U2, U3, U4, U5, U6, U7, U8, U9, U10, ↓reduceIte, Nat.reduceAdd, Nat.reduceMul, Nat.reduceSub, Nat.reduceEqDiff, Nat.reduceBEq, Nat.reduceLeDiff, Nat.reduceLT, Int.reduceAdd, Int.reduceMul, Int.reduceSub, Int.reduceLT, Int.reduceLE, Int.reduceToNat, Int.reduceEq, Int.reduceNe, Int.reduceBEq, Int.reduceBNe, ne_eq, eq_self]
      have hF2 : FstB m (slots k) ((i + 1 : Nat) : Int) fst := by
        rcases hF with ⟨q1, q2⟩ | ⟨q1, q2, q3, q4⟩
        · refine .inl ⟨q1, fun j j0 j1 => ?_⟩
          by_cases ej : j = i
          · rw [ej]; exact hb
          · exact q2 j j0 (by omega)
        · exact .inr ⟨q1, by omega, q3, q4⟩
      refine newB_intro fun y hy f5 f6 => ?_
      have hS2 := hS.new f5 (.cells #[.int .u64 (opn k)] 26 (0, 0))
      have ha : rds (upd H' y (.cells #[.int .u64 (opn k)] 26 (0, 0))) (some ⟨y, 0, none⟩) 1 = some #[.int .u64 (opn k)] := by
        simp only [rds, ↓D0, ↓D1, ↓D2, ↓D3, ↓D4, ↓D5, ↓D6, ↓D7, ↓D8, ↓D9, U0, U1, U2, U3, U4, U5, U6, U7, U8, U9, U10, ↓reduceIte, Nat.reduceAdd, Nat.reduceMul, Nat.reduceSub, Nat.reduceEqDiff, Nat.reduceBEq, Nat.reduceLeDiff, Nat.reduceLT, Int.reduceAdd, Int.reduceMul, Int.reduceSub, Int.reduceLT, Int.reduceLE, Int.reduceToNat, Int.reduceEq, Int.reduceNe, Int.reduceBEq, Int.reduceBNe, ne_eq, eq_self]
      simp only [e9, e7, e8, e1, e5, e6, ha, ↓D0, ↓D1, ↓D2, ↓D3, ↓D4, ↓D5, ↓D6, ↓D7, ↓D8, ↓D9, U0, U1, U2, U3, U4, U5, U6, U7, U8, U9, U10, ↓reduceIte, Nat.reduceAdd, Nat.reduceMul, Nat.reduceSub, Nat.reduceEqDiff, Nat.reduceBEq, Nat.reduceLeDiff, Nat.reduceLT, Int.reduceAdd, Int.reduceMul, Int.reduceSub, Int.reduceLT, Int.reduceLE, Int.reduceToNat, Int.reduceEq, Int.reduceNe, Int.reduceBEq, Int.reduceBNe, ne_eq, eq_self]
      have e : (fun j => if j = i then Value.int .u64 (opn k) else Value.int .u64 (wsB k m j)) = fun j => Value.int .u64 (wsB k m j) := by
        funext j; split
        · rename_i ej; subst ej; unfold wsB; rw [hb]; rfl
        · rfl
      refine grow (z0 := .int .u64 0) (bytes := 8) (v := .int .u64 (opn k)) hG rfl (by omega) (by decide) (hS2.p1) (fun g2 H2 hG2 hS3 => ?_) (fun old cap2 b hG2 hS3 => ?_)
      all_goals
        rw [e] at hG2
        simp only [e9, e7, e8, e1, e5, e6, wrap_w64, w1, ↓D0, ↓D1, ↓D2, ↓D3, ↓D4, ↓D5, ↓D6, ↓D7, ↓D8, ↓D9, U0, U1, U2, U3, U4, U5, U6, U7, U8, U9, U10, ↓reduceIte, Nat.reduceAdd, Nat.reduceMul, Nat.reduceSub, Nat.reduceEqDiff, Nat.reduceBEq, Nat.reduceLeDiff, Nat.reduceLT, Int.reduceAdd, Int.reduceMul, Int.reduceSub, Int.reduceLT, Int.reduceLE, Int.reduceToNat, Int.reduceEq, Int.reduceNe, Int.reduceBEq, Int.reduceBNe, ne_eq, eq_self]
        exact ⟨⟨i + 1, fst, _, _, _, by omega, by simp [gt], by simp [gt], by simp [gt, e8], ⟨by simp [gt, e1], by simp [gt, e5], by simp [gt, e6]⟩, hF2, hG2, hS3.p1.tail⟩, by simp [gt, iv, e9]; omega⟩
    · have hb2 : (bits BinOp.and IntKind.u16 (m.fdiv (2 ^ min i IntKind.u16.bits)) 1 == 0) = true := hb
      simp only [e9, e7, e8, e1, e5, e6, wrap_wu, wu1, i0, hb2, u_putsl, Int.toNat_natCast, ↓D0, ↓D1, ↓D2, ↓D3, ↓D4, ↓D5, ↓D6, ↓D7, ↓D8, ↓D9, U0, U1, U2, U3, U4, U5, U6, U7, U8, U9, U10, ↓reduceIte, Nat.reduceAdd, Nat.reduceMul, Nat.reduceSub, Nat.reduceEqDiff, Nat.reduceBEq, Nat.reduceLeDiff, Nat.reduceLT, Int.reduceAdd, Int.reduceMul, Int.reduceSub, Int.reduceLT, Int.reduceLE, Int.reduceToNat, Int.reduceEq, Int.reduceNe, Int.reduceBEq, Int.reduceBNe, ne_eq, eq_self]
      have hF2 : FstB m (slots k) ((i + 1 : Nat) : Int) (if (i : Int) < fst then (i : Int) else fst) := by
        rcases hF with ⟨q1, q2⟩ | ⟨q1, q2, q3, q4⟩
        · rw [if_pos (by omega)]
          exact .inr ⟨by omega, by omega, hb, q2⟩
        · rw [if_neg (by omega)]
          exact .inr ⟨q1, by omega, q3, q4⟩
      refine newB_intro fun y hy f5 f6 => ?_
      have hS2 := hS.new f5 (.cells #[.int .u64 (putSl 3 k)] 26 (0, 0))
      have ha : rds (upd H' y (.cells #[.int .u64 (putSl 3 k)] 26 (0, 0))) (some ⟨y, 0, none⟩) 1 = some #[.int .u64 (putSl 3 k)] := by
        simp only [rds, ↓D0, ↓D1, ↓D2, ↓D3, ↓D4, ↓D5, ↓D6, ↓D7, ↓D8, ↓D9, U0, U1, U2, U3, U4, U5, U6, U7, U8, U9, U10, ↓reduceIte, Nat.reduceAdd, Nat.reduceMul, Nat.reduceSub, Nat.reduceEqDiff, Nat.reduceBEq, Nat.reduceLeDiff, Nat.reduceLT, Int.reduceAdd, Int.reduceMul, Int.reduceSub, Int.reduceLT, Int.reduceLE, Int.reduceToNat, Int.reduceEq, Int.reduceNe, Int.reduceBEq, Int.reduceBNe, ne_eq, eq_self]
      simp only [e9, e7, e8, e1, e5, e6, ha, ↓D0, ↓D1, ↓D2, ↓D3, ↓D4, ↓D5, ↓D6, ↓D7, ↓D8, ↓D9, U0, U1, U2, U3, U4, U5, U6, U7, U8, U9, U10, ↓reduceIte, Nat.reduceAdd, Nat.reduceMul, Nat.reduceSub, Nat.reduceEqDiff, Nat.reduceBEq, Nat.reduceLeDiff, Nat.reduceLT, Int.reduceAdd, Int.reduceMul, Int.reduceSub, Int.reduceLT, Int.reduceLE, Int.reduceToNat, Int.reduceEq, Int.reduceNe, Int.reduceBEq, Int.reduceBNe, ne_eq, eq_self]
      have e : (fun j => if j = i then Value.int .u64 (putSl 3 k) else Value.int .u64 (wsB k m j)) = fun j => Value.int .u64 (wsB k m j) := by
        funext j; split
        · rename_i ej; subst ej; unfold wsB; rw [hb]; rfl
        · rfl
      refine grow (z0 := .int .u64 0) (bytes := 8) (v := .int .u64 (putSl 3 k)) hG rfl (by omega) (by decide) (hS2.p1) (fun g2 H2 hG2 hS3 => ?_) (fun old cap2 b hG2 hS3 => ?_)
      all_goals
        rw [e] at hG2
        simp only [e9, e7, e8, e1, e5, e6, wrap_w64, w1, ↓D0, ↓D1, ↓D2, ↓D3, ↓D4, ↓D5, ↓D6, ↓D7, ↓D8, ↓D9, U0, U1, U2, U3, U4, U5, U6, U7, U8, U9, U10, ↓reduceIte, Nat.reduceAdd, Nat.reduceMul, Nat.reduceSub, Nat.reduceEqDiff, Nat.reduceBEq, Nat.reduceLeDiff, Nat.reduceLT, Int.reduceAdd, Int.reduceMul, Int.reduceSub, Int.reduceLT, Int.reduceLE, Int.reduceToNat, Int.reduceEq, Int.reduceNe, Int.reduceBEq, Int.reduceBNe, ne_eq, eq_self]
        exact ⟨⟨i + 1, (if (i : Int) < fst then (i : Int) else fst), _, _, _, by omega, by simp [gt], by simp [gt], by simp [gt, e8], ⟨by simp [gt, e1], by simp [gt, e5], by simp [gt, e6]⟩, hF2, hG2, hS3.p1.tail⟩, by simp [gt, iv, e9]; omega⟩
  have hin : (i : Int) = slots k := by omega
  have g1 : decide ((i : Int) < slots k) = false := decide_eq_false hlt
  simp only [e9, e7, e8, e1, e5, e6, g1, ↓D0, ↓D1, ↓D2, ↓D3, ↓D4, ↓D5, ↓D6, ↓D7, ↓D8, ↓D9, U0, U1, U2, U3, U4, U5, U6, U7, U8, U9, U10, ↓reduceIte, Nat.reduceAdd, Nat.reduceMul, Nat.reduceSub, Nat.reduceEqDiff, Nat.reduceBEq, Nat.reduceLeDiff, Nat.reduceLT, Int.reduceAdd, Int.reduceMul, Int.reduceSub, Int.reduceLT, Int.reduceLE, Int.reduceToNat, Int.reduceEq, Int.reduceNe, Int.reduceBEq, Int.reduceBNe, ne_eq, eq_self]
  refine callT_of (c_one k (by omega) hG.row hS) ?_
  rintro v H' ⟨y, rfl, hS⟩
  simp only [e9, e7, e8, e1, e5, e6, ↓D0, ↓D1, ↓D2, ↓D3, ↓D4, ↓D5, ↓D6, ↓D7, ↓D8, ↓D9, U0, U1, U2, U3, U4, U5, U6, U7, U8, U9, U10, ↓reduceIte, Nat.reduceAdd, Nat.reduceMul, Nat.reduceSub, Nat.reduceEqDiff, Nat.reduceBEq, Nat.reduceLeDiff, Nat.reduceLT, Int.reduceAdd, Int.reduceMul, Int.reduceSub, Int.reduceLT, Int.reduceLE, Int.reduceToNat, Int.reduceEq, Int.reduceNe, Int.reduceBEq, Int.reduceBNe, ne_eq, eq_self]
  refine newB_intro fun x hx f1 f2 => ?_
  have hS := hS.new f1 (.cells #[.int .i64 0, .int .i64 0, .int .i64 0] 57 (0, 0))
  have hS := hS.set (.cells #[.int .i64 1, .int .i64 2, .int .i64 0] 57 (0, 0))
  rw [Ev.upd_upd] at hS
  simp only [e9, e7, e8, e1, e5, e6, Ev.upd_upd, ↓D0, ↓D1, ↓D2, ↓D3, ↓D4, ↓D5, ↓D6, ↓D7, ↓D8, ↓D9, U0, U1, U2, U3, U4, U5, U6, U7, U8, U9, U10, ↓reduceIte, Nat.reduceAdd, Nat.reduceMul, Nat.reduceSub, Nat.reduceEqDiff, Nat.reduceBEq, Nat.reduceLeDiff, Nat.reduceLT, Int.reduceAdd, Int.reduceMul, Int.reduceSub, Int.reduceLT, Int.reduceLE, Int.reduceToNat, Int.reduceEq, Int.reduceNe, Int.reduceBEq, Int.reduceBNe, ne_eq, eq_self]
  have hS := hS.p2.tail.p1
  refine callT_of (c_fill (n := 19) (by decide) (RowU.own y 19 _ _ _) hS) ?_
  rintro v H' ⟨b, s, rfl, hS⟩
  have hx1 := hS.lk 3 rfl
  have rx := fun o n => rdn_of hx1 o n
  simp only [e9, e7, e8, e1, e5, e6, hx1, rx, ↓D0, ↓D1, ↓D2, ↓D3, ↓D4, ↓D5, ↓D6, ↓D7, ↓D8, ↓D9, U0, U1, U2, U3, U4, U5, U6, U7, U8, U9, U10, ↓reduceIte, Nat.reduceAdd, Nat.reduceMul, Nat.reduceSub, Nat.reduceEqDiff, Nat.reduceBEq, Nat.reduceLeDiff, Nat.reduceLT, Int.reduceAdd, Int.reduceMul, Int.reduceSub, Int.reduceLT, Int.reduceLE, Int.reduceToNat, Int.reduceEq, Int.reduceNe, Int.reduceBEq, Int.reduceBNe, ne_eq, eq_self]
  refine callT_of (c_stnew (sh := ⟨1, 2, 0⟩) hS) ?_
  rintro v H' ⟨kt, rfl, hS⟩
  have hof0 : (rowW 19 (oneW k i (wsB k m))).of ⟨1, 2, 0⟩ := ⟨by show ((19 : Nat) : Int) = words 1 2 0; decide, fun j => U_row _ (fun j => U_oneW _ _ (fun j => U_wsB k m j) j) j⟩
  obtain ⟨hw1, hw2⟩ := oneW_at' (k := k) (n := i) (ws := wsB k m) (by omega)
  obtain ⟨w0, hw0⟩ : ∃ w0, w0 = rowW 19 (oneW k i (wsB k m)) := ⟨_, rfl⟩
  rw [← hw0] at hof0 hw1 hw2 hS
  rw [hin] at hF
  have hfr : 0 ≤ fst ∧ fst ≤ slots k := by
    rcases hF with ⟨q1, -⟩ | ⟨q1, q2, -, -⟩ <;> omega
  have hop : ∀ j, 0 ≤ j → j < fst → w0.get (3 + j) = opn k := fun j j0 j1 => by
    rw [hw1 j j0 (by omega)]
    have hbj : bitAt m ((j.toNat : Nat) : Int) = false := by
      rw [show ((j.toNat : Nat) : Int) = j by omega]
      rcases hF with ⟨q1, q2⟩ | ⟨q1, q2, q3, q4⟩
      · exact q2 j j0 (by omega)
      · exact q4 j j0 j1
    unfold wsB; rw [hbj]; rfl
  have hno : fst < slots k → w0.get (3 + fst) ≠ opn k := fun h => by
    rw [hw1 fst hfr.1 (by omega)]
    have hbj : bitAt m ((fst.toNat : Nat) : Int) = true := by
      rw [show ((fst.toNat : Nat) : Int) = fst by omega]
      rcases hF with ⟨q1, q2⟩ | ⟨q1, q2, q3, q4⟩
      · omega
      · exact q3
    unfold wsB; rw [hbj]
    have := taken_val sp
    have h2 := opn_val sp
    show taken k ≠ opn k
    omega
  have hdn0 : (St.new ⟨1, 2, 0⟩ 0 0 k).dn = false := by
    rcases (by omega : k = 0 ∨ k = 1 ∨ k = 2 ∨ k = 3) with rfl | rfl | rfl | rfl <;> decide
  have hI0 : SbInv k m fst w0 0 (St.new ⟨1, 2, 0⟩ 0 0 k) w0 := by
    refine ⟨St.new_wf _ _ _ _, rfl, rfl, rfl, rfl, rfl, hof0, (fun h => by rw [hdn0] at h; cases h), fun _ _ => ⟨rfl, Int.le_refl _, hfr.1, rfl⟩, (fun _ h => by cases h), fun j j0 j1 => ?_, fun _ _ _ _ => rfl⟩
    rw [if_neg (by show ¬ j < 0; omega)]
  have hl0 := St.new_left ⟨1, 2, 0⟩ 0 0 k
  simp only [e9, e7, e8, e1, e5, e6, ↓D0, ↓D1, ↓D2, ↓D3, ↓D4, ↓D5, ↓D6, ↓D7, ↓D8, ↓D9, U0, U1, U2, U3, U4, U5, U6, U7, U8, U9, U10, ↓reduceIte, Nat.reduceAdd, Nat.reduceMul, Nat.reduceSub, Nat.reduceEqDiff, Nat.reduceBEq, Nat.reduceLeDiff, Nat.reduceLT, Int.reduceAdd, Int.reduceMul, Int.reduceSub, Int.reduceLT, Int.reduceLE, Int.reduceToNat, Int.reduceEq, Int.reduceNe, Int.reduceBEq, Int.reduceBNe, ne_eq, eq_self]
  refine loop_intro (sbI2 k m fst w0 b kt s y (sg y (.cells (urow 19 (oneW k i (wsB k m))) 26 (0, 0)) :: sg x (.cells #[.int .i64 1, .int .i64 2, .int .i64 0] 57 (0, 0)) :: l)) (fun F' _ => (60 - iv (gt F' 16)).toNat)
    ⟨0, _, _, by omega, by omega, rfl, rfl, ⟨by simp [gt, e6], by simp [gt, e8], by simp [gt], by simp [gt], by simp [gt]⟩, hI0, by omega, hS⟩ ?_
  rintro F' H' ⟨c, t, w, c0, c1, e15, e16, ⟨e6, e8, e12, e13, e14⟩, hI, hll, hS⟩
  have wc : w64 (c + 1) = c + 1 := w64_eq (by omega) (by omega)
  rcases (by omega : c < 60 ∨ c = 60) with hc | hc
  · have g1 : decide (c < 60) = true := decide_eq_true hc
    simp only [e15, e16, e6, e8, e12, e13, e14, g1, ↓D0, ↓D1, ↓D2, ↓D3, ↓D4, ↓D5, ↓D6, ↓D7, ↓D8, ↓D9, U0, U1, U2, U3, U4, U5, U6, U7, U8, U9, U10, ↓reduceIte, Nat.reduceAdd, Nat.reduceMul, Nat.reduceSub, Nat.reduceEqDiff, Nat.reduceBEq, Nat.reduceLeDiff, Nat.reduceLT, Int.reduceAdd, Int.reduceMul, Int.reduceSub, Int.reduceLT, Int.reduceLE, Int.reduceToNat, Int.reduceEq, Int.reduceNe, Int.reduceBEq, Int.reduceBNe, ne_eq, eq_self]
    refine callT_of (c_stdone hS) ?_
    rintro v H' ⟨rfl, hS⟩
    cases hd : t.dn
    · simp only [e15, e16, e6, e8, e12, e13, e14, hd, ↓D0, ↓D1, ↓D2, ↓D3, ↓D4, ↓D5, ↓D6, ↓D7, ↓D8, ↓D9, U0, U1, U2, U3, U4, U5, U6, U7, U8, U9, U10, ↓reduceIte, Nat.reduceAdd, Nat.reduceMul, Nat.reduceSub, Nat.reduceEqDiff, Nat.reduceBEq, Nat.reduceLeDiff, Nat.reduceLT, Int.reduceAdd, Int.reduceMul, Int.reduceSub, Int.reduceLT, Int.reduceLE, Int.reduceToNat, Int.reduceEq, Int.reduceNe, Int.reduceBEq, Int.reduceBNe, ne_eq, eq_self]
      refine callT_of (c_ststep hI.wf (fun _ => by rw [hI.hs]; exact hI.of) hS) ?_
      rintro v H' ⟨rfl, hS⟩
      simp only [e15, e16, e6, e8, e12, e13, e14, wrap_w64, wc, ↓D0, ↓D1, ↓D2, ↓D3, ↓D4, ↓D5, ↓D6, ↓D7, ↓D8, ↓D9, U0, U1, U2, U3, U4, U5, U6, U7, U8, U9, U10, ↓reduceIte, Nat.reduceAdd, Nat.reduceMul, Nat.reduceSub, Nat.reduceEqDiff, Nat.reduceBEq, Nat.reduceLeDiff, Nat.reduceLT, Int.reduceAdd, Int.reduceMul, Int.reduceSub, Int.reduceLT, Int.reduceLE, Int.reduceToNat, Int.reduceEq, Int.reduceNe, Int.reduceBEq, Int.reduceBNe, ne_eq, eq_self]
      refine ⟨⟨c + 1, _, _, by omega, by omega, by simp [gt], by simp [gt], ⟨by simp [gt, e6], by simp [gt, e8], by simp [gt, e12], by simp [gt, e13], by simp [gt, e14]⟩, hI.step hd hfr hop hno, ?_, hS⟩, by simp [gt, iv, e16]; omega⟩
      have := St.step_left (w := w) hI.wf hd; omega
    · simp only [e15, e16, e6, e8, e12, e13, e14, hd, ↓D0, ↓D1, ↓D2, ↓D3, ↓D4, ↓D5, ↓D6, ↓D7, ↓D8, ↓D9, U0, U1, U2, U3, U4, U5, U6, U7, U8, U9, U10, ↓reduceIte, Nat.reduceAdd, Nat.reduceMul, Nat.reduceSub, Nat.reduceEqDiff, Nat.reduceBEq, Nat.reduceLeDiff, Nat.reduceLT, Int.reduceAdd, Int.reduceMul, Int.reduceSub, Int.reduceLT, Int.reduceLE, Int.reduceToNat, Int.reduceEq, Int.reduceNe, Int.reduceBEq, Int.reduceBNe, ne_eq, eq_self]
      obtain ⟨dn1, dn2⟩ := hI.dn hd
      have hnw : w.n = 19 := by have := hI.of.n; rw [show words (⟨1, 2, 0⟩ : Sh).p (⟨1, 2, 0⟩ : Sh).c (⟨1, 2, 0⟩ : Sh).m = 19 by decide] at this; omega
      by_cases hlf : fst < slots k
      · have g2 : decide (fst < slots k) = true := decide_eq_true hlf
        obtain ⟨q1, q2, q3⟩ := dn1 hlf
        have wm1 : w64 (2 * fst) = 2 * fst := w64_eq (by omega) (by omega)
        have wm2 : w64 (2 * fst + 1) = 2 * fst + 1 := w64_eq (by omega) (by omega)
        have q4 : (c == 2 * fst + 1) = true := beq_iff_eq.2 q1
        have heq : ∀ j, j < 19 → w.ws j = oneW k i (wsB k m) j := fun j hj => by
          have h1 : w.get (j : Int) = w0.get (j : Int) := by
            by_cases h3 : 3 ≤ (j : Int)
            · have := hI.sl ((j : Int) - 3) (by omega) (by omega)
              rw [if_neg (by omega), show 3 + ((j : Int) - 3) = (j : Int) by omega] at this
              exact this
            · exact hI.rest _ (by omega) (by omega) (fun _ => hlf)
          have h1 : w.ws j = w0.ws j := h1
          rw [h1, hw0]
          show (if j < 19 then _ else _) = _
          rw [if_pos hj]
        simp only [e15, e16, e6, e8, e12, e13, e14, g2, ↓D0, ↓D1, ↓D2, ↓D3, ↓D4, ↓D5, ↓D6, ↓D7, ↓D8, ↓D9, U0, U1, U2, U3, U4, U5, U6, U7, U8, U9, U10, ↓reduceIte, Nat.reduceAdd, Nat.reduceMul, Nat.reduceSub, Nat.reduceEqDiff, Nat.reduceBEq, Nat.reduceLeDiff, Nat.reduceLT, Int.reduceAdd, Int.reduceMul, Int.reduceSub, Int.reduceLT, Int.reduceLE, Int.reduceToNat, Int.reduceEq, Int.reduceNe, Int.reduceBEq, Int.reduceBNe, ne_eq, eq_self]
        refine callT_of (c_stdone hS) ?_
        rintro v H' ⟨rfl, hS⟩
        simp only [e15, e16, e6, e8, e12, e13, e14, hd, ↓D0, ↓D1, ↓D2, ↓D3, ↓D4, ↓D5, ↓D6, ↓D7, ↓D8, ↓D9, U0, U1, U2, U3, U4, U5, U6, U7, U8, U9, U10, ↓reduceIte, Nat.reduceAdd, Nat.reduceMul, Nat.reduceSub, Nat.reduceEqDiff, Nat.reduceBEq, Nat.reduceLeDiff, Nat.reduceLT, Int.reduceAdd, Int.reduceMul, Int.reduceSub, Int.reduceLT, Int.reduceLE, Int.reduceToNat, Int.reduceEq, Int.reduceNe, Int.reduceBEq, Int.reduceBNe, ne_eq, eq_self]
        refine callT_of (c_stheld hS) ?_
        rintro v H' ⟨rfl, hS⟩
        simp only [e15, e16, e6, e8, e12, e13, e14, hd, q3, wrap_w64, wm1, wm2, q4, ↓D0, ↓D1, ↓D2, ↓D3, ↓D4, ↓D5, ↓D6, ↓D7, ↓D8, ↓D9, U0, U1, U2, U3, U4, U5, U6, U7, U8, U9, U10, ↓reduceIte, Nat.reduceAdd, Nat.reduceMul, Nat.reduceSub, Nat.reduceEqDiff, Nat.reduceBEq, Nat.reduceLeDiff, Nat.reduceLT, Int.reduceAdd, Int.reduceMul, Int.reduceSub, Int.reduceLT, Int.reduceLE, Int.reduceToNat, Int.reduceEq, Int.reduceNe, Int.reduceBEq, Int.reduceBNe, ne_eq, eq_self]
        refine callT_of (c_all (by omega) hS.tail) ?_
        rintro v H' ⟨a2, cap2, h2, rfl, hr2, hS⟩
        rw [hnw] at hr2
        simp only [e15, e16, e6, e8, e12, e13, e14, hnw, ↓D0, ↓D1, ↓D2, ↓D3, ↓D4, ↓D5, ↓D6, ↓D7, ↓D8, ↓D9, U0, U1, U2, U3, U4, U5, U6, U7, U8, U9, U10, ↓reduceIte, Nat.reduceAdd, Nat.reduceMul, Nat.reduceSub, Nat.reduceEqDiff, Nat.reduceBEq, Nat.reduceLeDiff, Nat.reduceLT, Int.reduceAdd, Int.reduceMul, Int.reduceSub, Int.reduceLT, Int.reduceLE, Int.reduceToNat, Int.reduceEq, Int.reduceNe, Int.reduceBEq, Int.reduceBNe, ne_eq, eq_self]
        refine callT_of (c_same (h := h2) (h' := sg y (.cells (urow 19 (oneW k i (wsB k m))) 26 (0, 0))) (hr2.congr heq) (RowU.own y 19 _ _ _) (by decide) hS (by simp) (by simp)) ?_
        rintro v H' ⟨rfl, hS⟩
        simp only [↓D0, ↓D1, ↓D2, ↓D3, ↓D4, ↓D5, ↓D6, ↓D7, ↓D8, ↓D9, U0, U1, U2, U3, U4, U5, U6, U7, U8, U9, U10, ↓reduceIte, Nat.reduceAdd, Nat.reduceMul, Nat.reduceSub, Nat.reduceEqDiff, Nat.reduceBEq, Nat.reduceLeDiff, Nat.reduceLT, Int.reduceAdd, Int.reduceMul, Int.reduceSub, Int.reduceLT, Int.reduceLE, Int.reduceToNat, Int.reduceEq, Int.reduceNe, Int.reduceBEq, Int.reduceBNe, ne_eq, eq_self]
        exact hS.tail.tail.tail.tail.tail
      · have g2 : decide (fst < slots k) = false := decide_eq_false hlf
        have hfe : fst = slots k := by omega
        obtain ⟨q1, q2, q3⟩ := dn2 hfe
        have wm2 : w64 (slots k + 1) = slots k + 1 := w64_eq (by omega) (by omega)
        have q4 : (c == slots k + 1) = true := beq_iff_eq.2 q1
        simp only [e15, e16, e6, e8, e12, e13, e14, g2, ↓D0, ↓D1, ↓D2, ↓D3, ↓D4, ↓D5, ↓D6, ↓D7, ↓D8, ↓D9, U0, U1, U2, U3, U4, U5, U6, U7, U8, U9, U10, ↓reduceIte, Nat.reduceAdd, Nat.reduceMul, Nat.reduceSub, Nat.reduceEqDiff, Nat.reduceBEq, Nat.reduceLeDiff, Nat.reduceLT, Int.reduceAdd, Int.reduceMul, Int.reduceSub, Int.reduceLT, Int.reduceLE, Int.reduceToNat, Int.reduceEq, Int.reduceNe, Int.reduceBEq, Int.reduceBNe, ne_eq, eq_self]
        refine loop_intro (sbI3 k c b kt (stB kt t :: wB b s w :: wR s w :: sg y (.cells (urow 19 (oneW k i (wsB k m))) 26 (0, 0)) :: sg x (.cells #[.int .i64 1, .int .i64 2, .int .i64 0] 57 (0, 0)) :: l)) (fun F' _ => (16 - iv (gt F' 17)).toNat)
          ⟨0, by omega, by omega, by simp [gt], by simp [gt, e15], by simp [gt, e6], by simp [gt, e13], by simp [gt, e14], hS⟩ ?_
        rintro F' H' ⟨j, j0, j1, e17, e15, e6, e13, e14, hS⟩
        by_cases hjl : j < slots k
        · have g3 : decide (j < slots k) = true := decide_eq_true hjl
          have wj : w64 (j + 1) = j + 1 := w64_eq (by omega) (by omega)
          have w3 : w64 (3 + j) = 3 + j := w64_eq (by omega) (by omega)
          have hsl := hI.sl j j0 (by omega)
          rw [if_pos (by omega)] at hsl
          have q5 : (w.get (3 + j) != putSl 2 0) = false := by rw [hsl]; simp
          simp only [e17, e15, e6, e13, e14, g3, wrap_w64, w3, ↓D0, ↓D1, ↓D2, ↓D3, ↓D4, ↓D5, ↓D6, ↓D7, ↓D8, ↓D9, U0, U1, U2, U3, U4, U5, U6, U7, U8, U9, U10, ↓reduceIte, Nat.reduceAdd, Nat.reduceMul, Nat.reduceSub, Nat.reduceEqDiff, Nat.reduceBEq, Nat.reduceLeDiff, Nat.reduceLT, Int.reduceAdd, Int.reduceMul, Int.reduceSub, Int.reduceLT, Int.reduceLE, Int.reduceToNat, Int.reduceEq, Int.reduceNe, Int.reduceBEq, Int.reduceBNe, ne_eq, eq_self]
          refine callT_of (c_look (3 + j) (by omega) (by omega) hS.r2) ?_
          rintro v H' ⟨rfl, hS⟩
          simp only [e17, e15, e6, e13, e14, u_putsl, q5, wrap_w64, wj, ↓D0, ↓D1, ↓D2, ↓D3, ↓D4, ↓D5, ↓D6, ↓D7, ↓D8, ↓D9, U0, U1, U2, U3, U4, U5, U6, U7, U8, U9, U10, ↓reduceIte, Nat.reduceAdd, Nat.reduceMul, Nat.reduceSub, Nat.reduceEqDiff, Nat.reduceBEq, Nat.reduceLeDiff, Nat.reduceLT, Int.reduceAdd, Int.reduceMul, Int.reduceSub, Int.reduceLT, Int.reduceLE, Int.reduceToNat, Int.reduceEq, Int.reduceNe, Int.reduceBEq, Int.reduceBNe, ne_eq, eq_self]
          exact ⟨⟨j + 1, by omega, by omega, by simp [gt], by simp [gt, e15], by simp [gt, e6], by simp [gt, e13], by simp [gt, e14], hS.p2⟩, by simp [gt, iv, e17]; omega⟩
        · have g3 : decide (j < slots k) = false := decide_eq_false hjl
          simp only [e17, e15, e6, e13, e14, g3, ↓D0, ↓D1, ↓D2, ↓D3, ↓D4, ↓D5, ↓D6, ↓D7, ↓D8, ↓D9, U0, U1, U2, U3, U4, U5, U6, U7, U8, U9, U10, ↓reduceIte, Nat.reduceAdd, Nat.reduceMul, Nat.reduceSub, Nat.reduceEqDiff, Nat.reduceBEq, Nat.reduceLeDiff, Nat.reduceLT, Int.reduceAdd, Int.reduceMul, Int.reduceSub, Int.reduceLT, Int.reduceLE, Int.reduceToNat, Int.reduceEq, Int.reduceNe, Int.reduceBEq, Int.reduceBNe, ne_eq, eq_self]
          refine callT_of (c_stdone hS) ?_
          rintro v H' ⟨rfl, hS⟩
          simp only [e17, e15, e6, e13, e14, hd, ↓D0, ↓D1, ↓D2, ↓D3, ↓D4, ↓D5, ↓D6, ↓D7, ↓D8, ↓D9, U0, U1, U2, U3, U4, U5, U6, U7, U8, U9, U10, ↓reduceIte, Nat.reduceAdd, Nat.reduceMul, Nat.reduceSub, Nat.reduceEqDiff, Nat.reduceBEq, Nat.reduceLeDiff, Nat.reduceLT, Int.reduceAdd, Int.reduceMul, Int.reduceSub, Int.reduceLT, Int.reduceLE, Int.reduceToNat, Int.reduceEq, Int.reduceNe, Int.reduceBEq, Int.reduceBNe, ne_eq, eq_self]
          refine callT_of (c_stheld hS) ?_
          rintro v H' ⟨rfl, hS⟩
          simp only [e17, e15, e6, e13, e14, hd, q3, wrap_w64, wm2, q4, ↓D0, ↓D1, ↓D2, ↓D3, ↓D4, ↓D5, ↓D6, ↓D7, ↓D8, ↓D9, U0, U1, U2, U3, U4, U5, U6, U7, U8, U9, U10, ↓reduceIte, Nat.reduceAdd, Nat.reduceMul, Nat.reduceSub, Nat.reduceEqDiff, Nat.reduceBEq, Nat.reduceLeDiff, Nat.reduceLT, Int.reduceAdd, Int.reduceMul, Int.reduceSub, Int.reduceLT, Int.reduceLE, Int.reduceToNat, Int.reduceEq, Int.reduceNe, Int.reduceBEq, Int.reduceBNe, ne_eq, eq_self]
          exact hS.tail.tail.tail.tail.tail
  · exfalso
    have hd : t.dn = true := St.left_dn hI.wf (by have := St.left_nn hI.wf; omega)
    obtain ⟨dn1, dn2⟩ := hI.dn hd
    rcases (by omega : fst < slots k ∨ fst = slots k) with h | h
    · have := (dn1 h).1; omega
    · have := (dn2 h).1; omega
end

theorem l_stripback {W : World} (a : Int) (ha : 0 ≤ a ∧ a ≤ 255) (b : Int) (hb : 0 ≤ b ∧ b ≤ 65535) :
    CallP Try.prog W 13 #[.int .u8 a, .int .u16 b] (memOf W) fun v H' => v = .bool true ∧ Sub (memOf W) H' :=
  (c_stripback ha.1 ha.2 hb.1 hb.2 (Sep.one _)).mono fun v H' ⟨h1, h2⟩ => ⟨h1, h2.head⟩
end Go.Proofs.Ytfapipblclikbaa
