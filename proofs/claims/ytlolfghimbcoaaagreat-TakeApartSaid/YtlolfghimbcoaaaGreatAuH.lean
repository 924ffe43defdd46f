/-
The document's count of a heap's words: walked. Conditions: none.
Who holds an address, as the document tells it: what is there. Conditions: none.
-/
import Derived.Test.YtlolfghimbcoaaaGreatCodeAllotmentref20
import Derived.Test.YtlolfghimbcoaaaGreatSoundA
import Derived.Test.YtlolfghimbcoaaaGreatMaSo
import Derived.Test.YtlolfghimbcoaaaGreatCut
import Derived.Test.YtlolfghimbcoaaaGreatAlt
open Nat renaming reduceAdd → xA, reduceMul → xB, reduceSub → xC, reduceEqDiff → xD, reduceBEq → xE, reduceLeDiff → xF, reduceLT → xG
open Int renaming reduceAdd → xH, reduceMul → xI, reduceSub → xJ, reduceLT → xK, reduceLE → xL, reduceToNat → xM, reduceEq → xN, reduceNe → xO, reduceBEq → xP, reduceBNe → xQ
set_option linter.unusedVariables false
set_option linter.unusedSectionVars false
set_option linter.unusedSimpArgs false
set_option maxRecDepth 8000
namespace Go.Proofs.YtlolfghimbcoaaaGreat
open Go Go.Ev Go.Pl Go.Ma
section
variable {W : World} {H h : Hp} {l : List Hp} {n cap : Nat} {a : Option Addr} {ws : Nat → Int} {sh : Sh}
theorem c_pholdx (q : Int) (hm : may sh.p sh.c sh.m = true) (hn : (n : Int) = words sh.p sh.c sh.m) (hr : RowU h a n ws) (hU : ∀ i, i < n → U (ws i)) (hS : Sep (h :: l) H) :
    CallP Tryz.prog W 57 #[.agg #[.int .i64 sh.p, .int .i64 sh.c, .int .i64 sh.m], .slice a n cap, .int .i64 q] H fun v H' => v = .tuple #[.int .i64 (Cn.who sh ws q), .bool (Cn.held sh ws q)] ∧ Sep (h :: l) H' := by
  refine CallP.of mixed Tryz.func57 tr57 (by show 3 ≤ _; decide) fun W _ => ?_
  have hKn : ∀ q x, pgK sh q x ≠ 0 → okPg sh q x = true := fun q x g => by
    cases e : okPg sh q x
    · unfold pgK at g; rw [e] at g; simp at g
    · rfl
  simp only [↓DD, UU, ↓reduceIte, xA, xB, xC, xD, xE, xF, xG, xH, xI, xJ, xK, xL, xM, xN, xO, xP, xQ, ne_eq, eq_self]
  refine newB_intro fun x hx f1 f2 => ?_
  have hS := (hS.new f1 (.cells #[.int .i64 sh.p, .int .i64 sh.c, .int .i64 sh.m] 23 (0, 0)))
  have hx1 := hS.look
  have r1 := fun o n => rdn_of hx1 o n
  simp only [hx1, r1, ↓DD, UU, ↓reduceIte, xA, xB, xC, xD, xE, xF, xG, xH, xI, xJ, xK, xL, xM, xN, xO, xP, xQ, ne_eq, eq_self]
  refine callT_of (c_spage q hm hn hr hU hS.p1) ?_
  rintro v H' ⟨rfl, hS⟩
  have hx1 := hS.lk 1 rfl
  have hpat : spX sh ws q = pgAt sh ws q := rfl
  simp only [hpat, ↓DD, UU, ↓reduceIte, xA, xB, xC, xD, xE, xF, xG, xH, xI, xJ, xK, xL, xM, xN, xO, xP, xQ, ne_eq, eq_self]
  refine newB_intro fun y hy f3 f4 => ?_
  have nxy : (x = y) = False := f3 x (by rw [hx1]; rfl)
  have nyx : (y = x) = False := f4 x (by rw [hx1]; rfl)
  have hS := hS.new f3 (.cells #[.int .i64 (pgK sh q (pgAt sh ws q)), .int .i64 (pgA sh q (pgAt sh ws q)), .int .i64 (pgB sh q (pgAt sh ws q))] 61 (0, 0))
  have r1 := fun o n => rdn_of hx1 o n
  simp only [nxy, nyx, hx1, r1, Ev.upd_upd, ↓DD, UU, ↓reduceIte, xA, xB, xC, xD, xE, xF, xG, xH, xI, xJ, xK, xL, xM, xN, xO, xP, xQ, ne_eq, eq_self]
  rw [Ev.upd_upd]
  by_cases k4 : pgK sh q (pgAt sh ws q) = 4
  · have hok := hKn q (pgAt sh ws q) (by rw [k4]; decide)
    have g4 : (pgK sh q (pgAt sh ws q) == 4) = true := beq_iff_eq.2 k4
    have eA : Cn.at' sh ws q = pgA sh q (pgAt sh ws q) := if_pos k4
    simp only [hok, g4, nxy, nyx, hx1, r1, Ev.upd_upd, ↓DD, UU, ↓reduceIte, xA, xB, xC, xD, xE, xF, xG, xH, xI, xJ, xK, xL, xM, xN, xO, xP, xQ, ne_eq, eq_self]
    refine callT_of (c_spage (pgA sh q (pgAt sh ws q)) hm hn hr hU hS.p1) ?_
    rintro v H' ⟨rfl, hS⟩
    unfold Cn.who Cn.held
    rw [eA]
    obtain ⟨A, hA⟩ : ∃ A, pgA sh q (pgAt sh ws q) = A := ⟨_, rfl⟩
    have hpatA : spX sh ws A = pgAt sh ws A := rfl
    have hy1 := hS.lk 1 rfl
    rw [hA] at hy1
    have hS := (hS.p1.set (.cells #[.int .i64 (pgK sh A (pgAt sh ws A)), .int .i64 (pgA sh A (pgAt sh ws A)), .int .i64 (pgB sh A (pgAt sh ws A))] 61 (0, 0)))
    have hy2 := hS.look
    have r2 := fun o => rd_of hy2 o
    rw [hA]
    cases hok2 : okPg sh A (pgAt sh ws A)
    · have k1 : (pgK sh A (pgAt sh ws A) == 1) = false := by unfold pgK; rw [hok2]; rfl
      simp only [hpatA, hy1, hy2, r2, hok2, k1, Ev.upd_upd, ↓DD, UU, ↓reduceIte, xA, xB, xC, xD, xE, xF, xG, xH, xI, xJ, xK, xL, xM, xN, xO, xP, xQ, ne_eq, eq_self]
      exact hS.tail.p1.tail
    · cases k1 : (pgK sh A (pgAt sh ws A) == 1)
      · simp only [hpatA, hy1, hy2, r2, hok2, k1, Ev.upd_upd, ↓DD, UU, ↓reduceIte, xA, xB, xC, xD, xE, xF, xG, xH, xI, xJ, xK, xL, xM, xN, xO, xP, xQ, ne_eq, eq_self]
        exact hS.tail.p1.tail
      · simp only [hpatA, hy1, hy2, r2, hok2, k1, Ev.upd_upd, ↓DD, UU, ↓reduceIte, xA, xB, xC, xD, xE, xF, xG, xH, xI, xJ, xK, xL, xM, xN, xO, xP, xQ, ne_eq, eq_self]
        exact hS.tail.p1.tail
  · have g4 : (pgK sh q (pgAt sh ws q) == 4) = false := beq_eq_false_iff_ne.2 k4
    have eA : Cn.at' sh ws q = q := if_neg k4
    unfold Cn.who Cn.held
    rw [eA]
    cases hok : okPg sh q (pgAt sh ws q)
    · have k1 : (pgK sh q (pgAt sh ws q) == 1) = false := by unfold pgK; rw [hok]; rfl
      simp only [hok, g4, k1, nxy, nyx, hx1, r1, Ev.upd_upd, ↓DD, UU, ↓reduceIte, xA, xB, xC, xD, xE, xF, xG, xH, xI, xJ, xK, xL, xM, xN, xO, xP, xQ, ne_eq, eq_self]
      exact hS.tail.p1.tail
    · cases k1 : (pgK sh q (pgAt sh ws q) == 1)
      · simp only [hok, g4, k1, nxy, nyx, hx1, r1, Ev.upd_upd, ↓DD, UU, ↓reduceIte, xA, xB, xC, xD, xE, xF, xG, xH, xI, xJ, xK, xL, xM, xN, xO, xP, xQ, ne_eq, eq_self]
        exact hS.tail.p1.tail
      · simp only [hok, g4, k1, nxy, nyx, hx1, r1, Ev.upd_upd, ↓DD, UU, ↓reduceIte, xA, xB, xC, xD, xE, xF, xG, xH, xI, xJ, xK, xL, xM, xN, xO, xP, xQ, ne_eq, eq_self]
        exact hS.tail.p1.tail
def cnV (c : Cn) : Value := .agg #[.int .i64 c.fr, .int .i64 c.ta, .int .i64 c.li, .int .i64 c.lo]
/-- What tells whether one lives. -/
def Lives (P : Program) (f : Nat) (sh : Sh) (a : Option Addr) (n cap : Nat) (h : Hp) (liv : Int → Bool) : Prop :=
  ∀ (W : World) (H : Hp) (l : List Hp) (c : Int), Sep (h :: l) H → CallP P W f #[.agg #[.int .i64 sh.p, .int .i64 sh.c, .int .i64 sh.m], .slice a n cap, .int .i64 c] H fun v H' => v = .bool (liv c) ∧ Sep (h :: l) H'
def auC (c : Cn) : Array Value := #[.int .i64 c.fr, .int .i64 c.ta, .int .i64 c.li, .int .i64 c.lo]
end
end Go.Proofs.YtlolfghimbcoaaaGreat
set_option maxRecDepth 8000
namespace Go.Proofs.YtlolfghimbcoaaaGreat
open Go Go.Ev Go.Pl Go.Ma
section
variable {W : World} {H h : Hp} {l : List Hp} {n cap : Nat} {a : Option Addr} {ws : Nat → Int} {sh : Sh}
/-- What is read of a slot. -/
def hoCX (sh : Sh) (ws : Nat → Int) (q i : Int) (L : List Hp) (F' : Fr) (H' : Hp) : Prop :=
  ∃ z, gt F' 15 = .pointer (some ⟨z, 0, none⟩) ∧ Sep (sg z (.cells #[.int .i64 (slK (slAt sh ws q i)), .int .i64 (slA (slAt sh ws q i))] 74 (0, 0)) :: L) H'
set_option maxHeartbeats 4000000 in
theorem c_holderX (ad : Int) (a0 : 0 ≤ ad) (a1 : ad < sh.p * 64) (hm : may sh.p sh.c sh.m = true) (hsn : Snd sh ws) (hn : (n : Int) = words sh.p sh.c sh.m) (hr : RowU h a n ws) (hU : ∀ i, i < n → U (ws i)) (hS : Sep (h :: l) H) :
    CallP Tryz.prog W 20 #[.agg #[.int .i64 sh.p, .int .i64 sh.c, .int .i64 sh.m], .slice a n cap, .int .i64 ad] H fun v H' => ∃ c b, v = .tuple #[.int .i64 c, .bool b] ∧ (b = true → HoA sh ws ad c) ∧ Sep (h :: l) H' := by
  refine CallP.of mixed Tryz.func20 tr20 (by show 3 ≤ _; decide) fun W _ => ?_
  have hb := (may_iff _ _ _).1 hm
  have hth : there sh.p sh.c sh.m ad = true := by unfold there; rw [hm]; simp; rw [win_iff]; omega
  have hsp : sp sh.p sh.c sh.m ad = ad / 64 := by unfold sp; rw [if_pos hth]
  have hso : so sh.p sh.c sh.m ad = ad % 64 := by unfold so; rw [if_pos hth]
  obtain ⟨q, hq⟩ : ∃ q, ad / 64 = q := ⟨_, rfl⟩
  obtain ⟨off, hoff⟩ : ∃ off, ad % 64 = off := ⟨_, rfl⟩
  have hq0 : 0 ≤ q ∧ q < sh.p := by omega
  have ho0 : 0 ≤ off ∧ off < 64 := by omega
  rw [hq] at hsp
  rw [hoff] at hso
  simp only [↓DD, UU, ↓reduceIte, xA, xB, xC, xD, xE, xF, xG, xH, xI, xJ, xK, xL, xM, xN, xO, xP, xQ, ne_eq, eq_self]
  refine newB_intro fun x hx f1 f2 => ?_
  have hS := (hS.new f1 (.cells #[.int .i64 sh.p, .int .i64 sh.c, .int .i64 sh.m] 23 (0, 0)))
  have hx1 := hS.look
  have r1 := fun o n => rdn_of hx1 o n
  simp only [hx1, r1, u_split, hsp, hso, hth, ↓DD, UU, ↓reduceIte, xA, xB, xC, xD, xE, xF, xG, xH, xI, xJ, xK, xL, xM, xN, xO, xP, xQ, ne_eq, eq_self]
  refine callT_of (c_senough hm hn hS.p1) ?_
  rintro v H' ⟨rfl, hS⟩
  have hx1 := hS.lk 1 rfl
  have r1 := fun o n => rdn_of hx1 o n
  simp only [hx1, r1, ↓DD, UU, ↓reduceIte, xA, xB, xC, xD, xE, xF, xG, xH, xI, xJ, xK, xL, xM, xN, xO, xP, xQ, ne_eq, eq_self]
  refine callT_of (c_pholdx q hm hn hr hU hS) ?_
  rintro v H' ⟨rfl, hS⟩
  obtain ⟨c, hc⟩ : ∃ c, Cn.who sh ws q = c := ⟨_, rfl⟩
  obtain ⟨b, hbh⟩ : ∃ b, Cn.held sh ws q = b := ⟨_, rfl⟩
  rw [hc, hbh]
  have hx1 := hS.lk 1 rfl
  have r1 := fun o n => rdn_of hx1 o n
  cases b
  rotate_left
  · simp only [↓DD, UU, ↓reduceIte, xA, xB, xC, xD, xE, xF, xG, xH, xI, xJ, xK, xL, xM, xN, xO, xP, xQ, ne_eq, eq_self]
    exact ⟨_, _, rfl, fun _ => .inl ⟨by rw [hq]; exact hbh, by rw [hq]; exact hc.symm⟩, hS.p1.tail⟩
  simp only [hx1, r1, ↓DD, UU, ↓reduceIte, xA, xB, xC, xD, xE, xF, xG, xH, xI, xJ, xK, xL, xM, xN, xO, xP, xQ, ne_eq, eq_self]
  refine callT_of (c_spage q hm hn hr hU hS) ?_
  rintro v H' ⟨rfl, hS⟩
  have hx1 := hS.lk 1 rfl
  have hpat : spX sh ws q = pgAt sh ws q := rfl
  simp only [hpat, ↓DD, UU, ↓reduceIte, xA, xB, xC, xD, xE, xF, xG, xH, xI, xJ, xK, xL, xM, xN, xO, xP, xQ, ne_eq, eq_self]
  refine newB_intro fun y hy f3 f4 => ?_
  have nxy : (x = y) = False := f3 x (by rw [hx1]; rfl)
  have nyx : (y = x) = False := f4 x (by rw [hx1]; rfl)
  have hS := hS.new f3 (.cells #[.int .i64 (pgK sh q (pgAt sh ws q)), .int .i64 (pgA sh q (pgAt sh ws q)), .int .i64 (pgB sh q (pgAt sh ws q))] 61 (0, 0))
  have r1 := fun o n => rdn_of hx1 o n
  simp only [nxy, nyx, hx1, r1, Ev.upd_upd, ↓DD, UU, ↓reduceIte, xA, xB, xC, xD, xE, xF, xG, xH, xI, xJ, xK, xL, xM, xN, xO, xP, xQ, ne_eq, eq_self]
  rw [Ev.upd_upd]
  by_cases k2 : pgK sh q (pgAt sh ws q) = 2
  rotate_left
  · have g2 : (pgK sh q (pgAt sh ws q) == 2) = false := beq_eq_false_iff_ne.2 k2
    cases hok : okPg sh q (pgAt sh ws q)
    all_goals
      simp only [hok, g2, nxy, nyx, hx1, r1, Ev.upd_upd, ↓DD, UU, ↓reduceIte, xA, xB, xC, xD, xE, xF, xG, xH, xI, xJ, xK, xL, xM, xN, xO, xP, xQ, ne_eq, eq_self]
      exact ⟨_, _, rfl, fun h => (by cases h), hS.tail.p1.tail⟩
  have hok := pgK_ne (s := sh) (q := q) (x := pgAt sh ws q) (by rw [k2]; decide)
  have g2 : (pgK sh q (pgAt sh ws q) == 2) = true := beq_iff_eq.2 k2
  obtain ⟨A, hA⟩ : ∃ A, pgA sh q (pgAt sh ws q) = A := ⟨_, rfl⟩
  have hAs := Gv.ok_super hok k2
  rw [hA] at hAs hS
  obtain ⟨i, hi, hib⟩ : ∃ i, off / size A = i ∧ 0 ≤ i ∧ i < slots A := by
    refine ⟨_, rfl, ?_⟩
    rcases (by omega : A = 0 ∨ A = 1 ∨ A = 2 ∨ A = 3) with h | h | h | h <;> subst h
    · show 0 ≤ off / 4 ∧ off / 4 < 16; omega
    · show 0 ≤ off / 8 ∧ off / 8 < 8; omega
    · show 0 ≤ off / 16 ∧ off / 16 < 4; omega
    · show 0 ≤ off / 32 ∧ off / 32 < 2; omega
  have hz : 4 ≤ size A ∧ size A ≤ 32 := by
    rcases (by omega : A = 0 ∨ A = 1 ∨ A = 2 ∨ A = 3) with h | h | h | h <;> rw [h] <;> decide
  have z0 : (size A = 0) = False := eq_false (by omega)
  have td : off.tdiv (size A) = i := by rw [Int.tdiv_eq_ediv_of_nonneg ho0.1]; exact hi
  have wi : w64 i = i := w64_eq (by omega) (by have := slots_bd A; omega)
  have sb := slots_bd A
  have hy1 := hS.look
  have r0 := fun o => rd_of hy1 o
  have hx1 := hS.lk 2 rfl
  have r1 := fun o n => rdn_of hx1 o n
  rw [hA]
  simp only [hok, g2, nxy, nyx, hx1, r1, hy1, r0, hA, Ev.upd_upd, ↓DD, UU, ↓reduceIte, xA, xB, xC, xD, xE, xF, xG, xH, xI, xJ, xK, xL, xM, xN, xO, xP, xQ, ne_eq, eq_self]
  refine draw_cut [(x, #[.int .i64 sh.p, .int .i64 sh.c, .int .i64 sh.m], []), (y, #[.int .i64 (pgK sh q (pgAt sh ws q)), .int .i64 A, .int .i64 (pgB sh q (pgAt sh ws q))], [])] (hoCX sh ws q i (sg y (.cells #[.int .i64 (pgK sh q (pgAt sh ws q)), .int .i64 A, .int .i64 (pgB sh q (pgAt sh ws q))] 61 (0, 0)) :: h :: sg x (.cells #[.int .i64 sh.p, .int .i64 sh.c, .int .i64 sh.m] 23 (0, 0)) :: l)) (by simp only [nxy, hx1, hA, hy1, ↓DD, UU, ↓reduceIte, xA, xB, xC, xD, xE, xF, xG, xH, xI, xJ, xK, xL, xM, xN, xO, xP, xQ, ne_eq, eq_self]) ?_ ?_
  · simp only [hx1, r1, hy1, r0, nxy, nyx, u_size, z0, td, wrap_w64, wi, ↓e_dalt2, ↓DD, UU, ↓reduceIte, xA, xB, xC, xD, xE, xF, xG, xH, xI, xJ, xK, xL, xM, xN, xO, xP, xQ, ne_eq, eq_self]
    refine ⟨⟨?_, ?_⟩, ?_⟩
    · refine callT_of (c_sslot q i hm hn hr hU hq0 ⟨hib.1, by omega⟩ hS.p1) ?_
      rintro v H' ⟨rfl, hS⟩
      have hx1 := hS.lk 2 rfl
      have hy1 := hS.lk 1 rfl
      have r0 := fun o => rd_of hy1 o
      have hsl : ws (sh.c + sh.p + q * 16 + i).toNat = slAt sh ws q i := rfl
      simp only [hx1, hy1, r0, nxy, nyx, hsl, ↓e_dalt2, ↓DD, UU, ↓reduceIte, xA, xB, xC, xD, xE, xF, xG, xH, xI, xJ, xK, xL, xM, xN, xO, xP, xQ, ne_eq, eq_self]
      refine newB_intro fun z hz f5 f6 => ?_
      have nxz : (x = z) = False := f5 x (by rw [hx1]; rfl)
      have nyz : (y = z) = False := f5 y (by rw [hy1]; rfl)
      have nzx : (z = x) = False := f6 x (by rw [hx1]; rfl)
      have nzy : (z = y) = False := f6 y (by rw [hy1]; rfl)
      have hS := hS.new f5 (.cells #[.int .i64 (slK (slAt sh ws q i)), .int .i64 (slA (slAt sh ws q i))] 74 (0, 0))
      simp only [hx1, hy1, nxy, nyx, nxz, nyz, nzx, nzy, Ev.upd_upd, ↓DD, UU, ↓reduceIte, xA, xB, xC, xD, xE, xF, xG, xH, xI, xJ, xK, xL, xM, xN, xO, xP, xQ, ne_eq, eq_self]
      exact ⟨z, by simp [gt], hS.p2.p1⟩
    all_goals
      refine newB_intro fun z hz f5 f6 => ?_
      have nxz : (x = z) = False := f5 x (by rw [hx1]; rfl)
      have nyz : (y = z) = False := f5 y (by rw [hy1]; rfl)
      have nzx : (z = x) = False := f6 x (by rw [hx1]; rfl)
      have nzy : (z = y) = False := f6 y (by rw [hy1]; rfl)
      have hS := hS.new f5 (.cells #[.int .i64 0, .int .i64 0] 74 (0, 0))
      have hsl : ws (sh.c + sh.p + q * 16 + i).toNat = slAt sh ws q i := rfl
      simp only [hx1, r1, hy1, r0, nxy, nyx, nxz, nyz, nzx, nzy, u_size, z0, td, wrap_w64, wi, ↓DD, UU, ↓reduceIte, xA, xB, xC, xD, xE, xF, xG, xH, xI, xJ, xK, xL, xM, xN, xO, xP, xQ, ne_eq, eq_self]
      refine callT_of (c_sslot q i hm hn hr hU hq0 ⟨hib.1, by omega⟩ hS.p2) ?_
      rintro v H' ⟨rfl, hS⟩
      have hx1 := hS.lk 3 rfl
      have hy1 := hS.lk 2 rfl
      have hz1 := hS.lk 1 rfl
      have hS := hS.p1.set (.cells #[.int .i64 (slK (slAt sh ws q i)), .int .i64 (slA (slAt sh ws q i))] 74 (0, 0))
      simp only [hx1, hy1, hz1, nxy, nyx, nxz, nyz, nzx, nzy, hsl, Ev.upd_upd, ↓DD, UU, ↓reduceIte, xA, xB, xC, xD, xE, xF, xG, xH, xI, xJ, xK, xL, xM, xN, xO, xP, xQ, ne_eq, eq_self]
      exact ⟨z, by simp [gt], hS.p1.p2.p2⟩
  · rintro F' H' ⟨z, e15, hS⟩
    have hz1 := hS.look
    have r3 := fun o => rd_of hz1 o
    have fin : ∀ H2, Sep (sg z (.cells #[.int .i64 (slK (slAt sh ws q i)), .int .i64 (slA (slAt sh ws q i))] 74 (0, 0)) :: sg y (.cells #[.int .i64 (pgK sh q (pgAt sh ws q)), .int .i64 A, .int .i64 (pgB sh q (pgAt sh ws q))] 61 (0, 0)) :: h :: sg x (.cells #[.int .i64 sh.p, .int .i64 sh.c, .int .i64 sh.m] 23 (0, 0)) :: l) H2 → Sep (h :: l) H2 := fun H2 h2 => h2.tail.tail.p1.tail
    by_cases s2 : slK (slAt sh ws q i) = 2
    · have h2 : (slK (slAt sh ws q i) == 2) = true := beq_iff_eq.2 s2
      simp only [hz1, r3, e15, h2, ↓DD, UU, ↓reduceIte, xA, xB, xC, xD, xE, xF, xG, xH, xI, xJ, xK, xL, xM, xN, xO, xP, xQ, ne_eq, eq_self]
      refine ⟨_, _, rfl, fun _ => .inr ?_, fin _ hS⟩
      rw [hq, hoff, hA, hi]
      exact ⟨k2, s2, rfl⟩
    · have h2 : (slK (slAt sh ws q i) == 2) = false := beq_eq_false_iff_ne.2 s2
      simp only [hz1, r3, e15, h2, ↓DD, UU, ↓reduceIte, xA, xB, xC, xD, xE, xF, xG, xH, xI, xJ, xK, xL, xM, xN, xO, xP, xQ, ne_eq, eq_self]
      exact ⟨_, _, rfl, fun h => (by cases h), fin _ hS⟩
end
end Go.Proofs.YtlolfghimbcoaaaGreat
