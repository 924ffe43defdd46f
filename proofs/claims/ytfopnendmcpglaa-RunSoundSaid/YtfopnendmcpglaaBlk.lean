/-
  The blocks of a heap, as the document tells them: the answer. Conditions: none.
-/
import Derived.Test.YtfopnendmcpglaaCodeAllotmentref20
import Derived.Test.YtfopnendmcpglaaSound1
import Derived.Test.YtfopnendmcpglaaSound2
import Derived.Test.YtfopnendmcpglaaMaBlk
import Derived.Test.YtfopnendmcpglaaMaPart
import Derived.Test.YtfopnendmcpglaaCut
set_option linter.unusedVariables false
set_option linter.unusedSectionVars false
set_option linter.unusedSimpArgs false
set_option maxRecDepth 8000
namespace Go.Proofs.Ytfopnendmcpglaa
open Go Go.Ev Go.Pl Go.Ma

/-- So many pairs of numbers behind a slice of its own, and which. -/
def BsV (a : Option Addr) (k cap : Nat) (E : Nat → Int × Int) (g : Hp) : Prop :=
  (a = none ∧ k = 0 ∧ cap = 0 ∧ g = fun _ => none) ∨
  ∃ z c, a = some ⟨z, 0, none⟩ ∧ g = sg z (.cells c 25 (0, 0)) ∧ k ≤ cap ∧ cap * 2 ≤ c.size ∧ ∀ j, j < k → c[j * 2]? = some (.int .i64 (E j).1) ∧ c[j * 2 + 1]? = some (.int .i64 (E j).2)
theorem grow2V {W : World} {H g : Hp} {l : List Hp} {a : Option Addr} {k cap : Nat} {E : Nat → Int × Int} {v1 v2 : Int} {K1 : Hp → Prop} {K2 : Array Value → Nat → Nat → Prop}
    (hG : BsV a k cap E g) (hk : k + 1 ≤ 1000000) (hS : Sep (g :: l) H)
    (h1 : ∀ g2 H', BsV a (k + 1) cap (fun j => if j = k then (v1, v2) else E j) g2 → Sep (g2 :: l) H' → K1 H')
    (h2 : ∀ old cap2 b, BsV (some ⟨b, 0, none⟩) (k + 1) cap2 (fun j => if j = k then (v1, v2) else E j) (sg b (.cells (old ++ #[.int .i64 v1, .int .i64 v2] ++ Builtin.zeroCells #[.int .i64 0, .int .i64 0] (cap2 - (k + 1))) 25 (0, 0))) →
      Sep (sg b (.cells (old ++ #[.int .i64 v1, .int .i64 v2] ++ Builtin.zeroCells #[.int .i64 0, .int .i64 0] (cap2 - (k + 1))) 25 (0, 0)) :: l) (upd H b (.cells (old ++ #[.int .i64 v1, .int .i64 v2] ++ Builtin.zeroCells #[.int .i64 0, .int .i64 0] (cap2 - (k + 1))) 25 (0, 0))) → K2 old cap2 b) :
    if k + 1 ≤ cap then stow H a (k * 2) #[.int .i64 v1, .int .i64 v2] K1
    else Builtin.nextslicecap (k + 1) cap * 16 ≤ 281474976710656 ∧ k ≤ 9223372036854775806 ∧ onSome (rds H a (k * 2)) fun old => allCap (k + 1) fun cap => newB W H fun b => K2 old cap b := by
  split
  · rename_i hroom
    rcases hG with ⟨rfl, rfl, rfl, rfl⟩ | ⟨z, c, rfl, rfl, h4, h5, h3⟩
    · omega
    have hz := hS.look
    unfold stow
    rw [if_neg (by simp)]
    show onCells (H z) _
    rw [hz]
    refine ⟨by simp; omega, by simp; exact ⟨rfl, rfl⟩, ?_⟩
    have e : setN c (0 + k * 2) [.int .i64 v1, .int .i64 v2] = (c.setIfInBounds (k * 2) (.int .i64 v1)).setIfInBounds (k * 2 + 1) (.int .i64 v2) := by rw [Nat.zero_add]; rfl
    refine h1 _ _ (.inr ⟨z, setN c (0 + k * 2) [.int .i64 v1, .int .i64 v2], rfl, rfl, by omega, by rw [e]; simp; omega, fun i hi => ?_⟩) (hS.set _)
    rw [e]
    show _ = some (Value.int .i64 (if i = k then (v1, v2) else E i).1) ∧ _ = some (Value.int .i64 (if i = k then (v1, v2) else E i).2)
    by_cases ik : i = k
    · subst ik
      rw [if_pos rfl]
      refine ⟨?_, ?_⟩
      · rw [Array.getElem?_setIfInBounds_ne (by omega)]
        exact Array.getElem?_setIfInBounds_self_of_lt (by omega)
      · exact Array.getElem?_setIfInBounds_self_of_lt (by simp; omega)
    · rw [if_neg ik]
      have := h3 i (by omega)
      refine ⟨?_, ?_⟩
      · rw [Array.getElem?_setIfInBounds_ne (by omega), Array.getElem?_setIfInBounds_ne (by omega)]; exact this.1
      · rw [Array.getElem?_setIfInBounds_ne (by omega), Array.getElem?_setIfInBounds_ne (by omega)]; exact this.2
  · rename_i hroom
    obtain ⟨old, hold, hsz, hat⟩ : ∃ old : Array Value, rds H a (k * 2) = some old ∧ old.size = k * 2 ∧ ∀ i, i < k → old[i * 2]? = some (.int .i64 (E i).1) ∧ old[i * 2 + 1]? = some (.int .i64 (E i).2) := by
      rcases hG with ⟨rfl, rfl, rfl, rfl⟩ | ⟨z, c, rfl, rfl, h4, h5, h3⟩
      · exact ⟨#[], rfl, rfl, fun i hi => by omega⟩
      · cases hkk : k * 2 with
        | zero => exact ⟨#[], rfl, rfl, fun i hi => by omega⟩
        | succ m =>
          refine ⟨c.extract 0 (0 + (m + 1)), ?_, by simp; omega, fun i hi => ?_⟩
          · show rdn H z 0 (m + 1) = _
            rw [rdn_of hS.look, if_pos (by omega)]
          · rw [Array.getElem?_extract, if_pos (by omega), Nat.zero_add, Array.getElem?_extract, if_pos (by omega), Nat.zero_add]; exact h3 i (by omega)
    have hc := nextslicecap_le (need := k + 1) (old := cap) (by omega)
    refine ⟨by omega, by omega, ?_⟩
    rw [hold]
    intro cap2 hc2
    refine newB_intro fun b hb0 f1 f2 => ?_
    have e : (Builtin.zeroCells #[Value.int .i64 0, Value.int .i64 0] (cap2 - (k + 1))).size = (cap2 - (k + 1)) * 2 := by simp [Builtin.zeroCells]
    refine h2 _ _ _ (.inr ⟨b, _, rfl, rfl, hc2, ?_, fun i hi => ?_⟩) ((hS.tail.new f1 _))
    · simp only [Array.size_append, hsz, e]
      show cap2 * 2 ≤ k * 2 + 2 + _
      omega
    · rw [Array.append_assoc]
      by_cases ik : i = k
      · subst ik
        show _ = some (Value.int .i64 (if i = i then (v1, v2) else E i).1) ∧ _ = some (Value.int .i64 (if i = i then (v1, v2) else E i).2)
        rw [if_pos rfl]
        refine ⟨?_, ?_⟩
        · rw [Array.getElem?_append_right (by omega), hsz, Array.getElem?_append_left (by simp), show i * 2 - i * 2 = 0 by omega]; rfl
        · rw [Array.getElem?_append_right (by omega), hsz, Array.getElem?_append_left (by simp), show i * 2 + 1 - i * 2 = 1 by omega]; rfl
      · show _ = some (Value.int .i64 (if i = k then (v1, v2) else E i).1) ∧ _ = some (Value.int .i64 (if i = k then (v1, v2) else E i).2)
        rw [if_neg ik]
        have := hat i (by omega)
        refine ⟨?_, ?_⟩
        · rw [Array.getElem?_append_left (by omega)]; exact this.1
        · rw [Array.getElem?_append_left (by omega)]; exact this.2
theorem BsV.rd {H g : Hp} {l : List Hp} {a : Option Addr} {k cap : Nat} {E : Nat → Int × Int} (h : BsV a k cap E g) (hS : Sep l H) (hm : g ∈ l) {j : Nat} (hj : j < k) : ∃ z, a = some ⟨z, 0, none⟩ ∧ Ev.rd H z (j * 2) = some (.int .i64 (E j).1) ∧ Ev.rd H z (j * 2 + 1) = some (.int .i64 (E j).2) := by
  rcases h with ⟨-, h, -, -⟩ | ⟨z, c, rfl, rfl, h1, h2, h3⟩
  · omega
  · have := hS.sb _ hm z _ (sg_at _ _)
    exact ⟨z, rfl, by rw [rd_of this, (h3 j hj).1], by rw [rd_of this, (h3 j hj).2]⟩
theorem BsV.congr {a : Option Addr} {k cap : Nat} {E E' : Nat → Int × Int} {g : Hp} (h : BsV a k cap E g) (he : ∀ j, j < k → E' j = E j) : BsV a k cap E' g := by
  rcases h with h | ⟨z, c, h1, h2, h3, h4, h5⟩
  · exact .inl h
  · exact .inr ⟨z, c, h1, h2, h3, h4, fun j hj => by rw [he j hj]; exact h5 j hj⟩
/-- A row of pairs. -/
def BsL (a : Option Addr) (cap : Nat) (bl : List (Int × Int)) (g : Hp) : Prop := BsV a bl.length cap (fun j => bl.getD j (0, 0)) g
theorem BsL.nil : BsL none 0 [] fun _ => none := .inl ⟨rfl, rfl, rfl, rfl⟩
theorem BsL.snoc {a : Option Addr} {cap : Nat} {bl : List (Int × Int)} {g : Hp} {v : Int × Int} (h : BsV a (bl.length + 1) cap (fun j => if j = bl.length then v else bl.getD j (0, 0)) g) : BsL a cap (bl ++ [v]) g := by
  unfold BsL
  rw [List.length_append]
  refine BsV.congr h fun j hj => ?_
  have hj : j < bl.length + 1 := hj
  by_cases e : j = bl.length
  · subst e; rw [if_pos rfl]; simp
  · rw [if_neg e]
    rw [List.getD_eq_getElem?_getD, List.getD_eq_getElem?_getD, List.getElem?_append_left (by omega)]
section
variable {W : World} {H h : Hp} {l : List Hp} {n cap : Nat} {a : Option Addr} {ws : Nat → Int} {sh : Sh}
def bkG (n cap : Nat) (a : Option Addr) (x : Nat) (F' : Fr) : Prop := gt F' 1 = .slice a n cap ∧ gt F' 2 = .pointer (some ⟨x, 0, none⟩)
def bkA (sh : Sh) (ws : Nat → Int) (n cap : Nat) (a : Option Addr) (x : Nat) (L : List Hp) (F' : Fr) (H' : Hp) : Prop :=
  ∃ (p : Nat) (ba : Option Addr) (bc : Nat) (g : Hp), (p : Int) ≤ sh.p ∧ gt F' 6 = .int .i64 (p : Int) ∧ gt F' 5 = .slice ba (blks sh ws p).length bc ∧ BsL ba bc (blks sh ws p) g ∧ bkG n cap a x F' ∧ Sep (g :: L) H'
def bkB (p : Nat) (A z : Int) (sh : Sh) (ws : Nat → Int) (y n cap : Nat) (a : Option Addr) (x : Nat) (L : List Hp) (F' : Fr) (H' : Hp) : Prop :=
  ∃ (i : Nat) (ba : Option Addr) (bc : Nat) (g : Hp), (i : Int) ≤ slots A ∧ gt F' 10 = .int .i64 (i : Int) ∧ gt F' 9 = .int .i64 z ∧ gt F' 6 = .int .i64 (p : Int) ∧ gt F' 7 = .pointer (some ⟨y, 0, none⟩) ∧
    gt F' 5 = .slice ba (blks sh ws p ++ blkSl sh ws p A i).length bc ∧ BsL ba bc (blks sh ws p ++ blkSl sh ws p A i) g ∧ bkG n cap a x F' ∧ Sep (g :: L) H'
set_option maxHeartbeats 8000000 in
theorem c_blocks (hm : may sh.p sh.c sh.m = true) (hn : (n : Int) = words sh.p sh.c sh.m) (hr : RowU h a n ws) (hU : ∀ i, i < n → U (ws i)) (hS : Sep (h :: l) H) :
    CallP Try.prog W 22 #[.agg #[.int .i64 sh.p, .int .i64 sh.c, .int .i64 sh.m], .slice a n cap] H fun v H' => ∃ ba bc g, v = .slice ba (blks sh ws sh.p.toNat).length bc ∧ BsL ba bc (blks sh ws sh.p.toNat) g ∧ Sep (g :: h :: l) H' := by
  refine CallP.of mixed Try.func22 tr22 (by show 2 ≤ _; decide) fun W _ => ?_
  simp only [↓D0, ↓D1, ↓D2, ↓D3, ↓D4, ↓D5, ↓D6, ↓D7, ↓D8, ↓D9, ↓D10, U0, U1, U2, U3, U4, U5, U6, U7, U8, U9, U10, ↓reduceIte, Nat.reduceAdd, Nat.reduceMul, Nat.reduceSub, Nat.reduceEqDiff, Nat.reduceBEq, Nat.reduceLeDiff, Nat.reduceLT, Int.reduceAdd, Int.reduceMul, Int.reduceSub, Int.reduceLT, Int.reduceLE, Int.reduceToNat, Int.reduceEq, Int.reduceNe, Int.reduceBEq, Int.reduceBNe, ne_eq, eq_self]
  refine newB_intro fun x hx f1 f2 => ?_
  have hS := (hS.new f1 (.cells #[.int .i64 sh.p, .int .i64 sh.c, .int .i64 sh.m] 23 (0, 0)))
  have hw := words_ge hm hn
  have hb := (may_iff _ _ _).1 hm
  simp only [↓D0, ↓D1, ↓D2, ↓D3, ↓D4, ↓D5, ↓D6, ↓D7, ↓D8, ↓D9, ↓D10, U0, U1, U2, U3, U4, U5, U6, U7, U8, U9, U10, ↓reduceIte, Nat.reduceAdd, Nat.reduceMul, Nat.reduceSub, Nat.reduceEqDiff, Nat.reduceBEq, Nat.reduceLeDiff, Nat.reduceLT, Int.reduceAdd, Int.reduceMul, Int.reduceSub, Int.reduceLT, Int.reduceLE, Int.reduceToNat, Int.reduceEq, Int.reduceNe, Int.reduceBEq, Int.reduceBNe, ne_eq, eq_self]
  refine loop_intro (bkA sh ws n cap a x (sg x (.cells #[.int .i64 sh.p, .int .i64 sh.c, .int .i64 sh.m] 23 (0, 0)) :: h :: l)) (fun F' _ => (sh.p - iv (gt F' 6)).toNat)
    ⟨0, none, 0, _, by omega, by simp [gt], by simp [gt, blks], BsL.nil, ⟨by simp [gt], by simp [gt]⟩, hS.nothing⟩ ?_
  clear hS
  rintro F' H' ⟨p, ba, bc, g, hp, e6, e5, hB, ⟨e1, e2⟩, hS⟩
  have hx1 := hS.lk 1 rfl
  have r1 := fun o n => rdn_of hx1 o n
  have r0 := fun o => rd_of hx1 o
  have hlen := blks_len (s := sh) (ws := ws) p
  by_cases hlt : (p : Int) < sh.p
  rotate_left
  · have d1 : decide ((p : Int) < sh.p) = false := decide_eq_false hlt
    have hpp : sh.p.toNat = p := by omega
    simp only [e6, e5, e1, e2, hx1, r0, r1, d1, ↓D0, ↓D1, ↓D2, ↓D3, ↓D4, ↓D5, ↓D6, ↓D7, ↓D8, ↓D9, ↓D10, U0, U1, U2, U3, U4, U5, U6, U7, U8, U9, U10, ↓reduceIte, Nat.reduceAdd, Nat.reduceMul, Nat.reduceSub, Nat.reduceEqDiff, Nat.reduceBEq, Nat.reduceLeDiff, Nat.reduceLT, Int.reduceAdd, Int.reduceMul, Int.reduceSub, Int.reduceLT, Int.reduceLE, Int.reduceToNat, Int.reduceEq, Int.reduceNe, Int.reduceBEq, Int.reduceBNe, ne_eq, eq_self]
    rw [hpp]
    exact ⟨ba, bc, g, rfl, hB, hS.p1.tail⟩
  have d1 : decide ((p : Int) < sh.p) = true := decide_eq_true hlt
  have wi : w64 ((p : Int) + 1) = (p : Int) + 1 := w64_eq (by omega) (by omega)
  simp only [e6, e5, e1, e2, hx1, r0, r1, d1, ↓D0, ↓D1, ↓D2, ↓D3, ↓D4, ↓D5, ↓D6, ↓D7, ↓D8, ↓D9, ↓D10, U0, U1, U2, U3, U4, U5, U6, U7, U8, U9, U10, ↓reduceIte, Nat.reduceAdd, Nat.reduceMul, Nat.reduceSub, Nat.reduceEqDiff, Nat.reduceBEq, Nat.reduceLeDiff, Nat.reduceLT, Int.reduceAdd, Int.reduceMul, Int.reduceSub, Int.reduceLT, Int.reduceLE, Int.reduceToNat, Int.reduceEq, Int.reduceNe, Int.reduceBEq, Int.reduceBNe, ne_eq, eq_self]
  refine callT_of (c_senough hm hn hS.p2) ?_
  rintro v H' ⟨rfl, hS⟩
  have hx1 := hS.lk 2 rfl
  have r1 := fun o n => rdn_of hx1 o n
  simp only [e6, e5, e1, e2, hx1, r1, ↓D0, ↓D1, ↓D2, ↓D3, ↓D4, ↓D5, ↓D6, ↓D7, ↓D8, ↓D9, ↓D10, U0, U1, U2, U3, U4, U5, U6, U7, U8, U9, U10, ↓reduceIte, Nat.reduceAdd, Nat.reduceMul, Nat.reduceSub, Nat.reduceEqDiff, Nat.reduceBEq, Nat.reduceLeDiff, Nat.reduceLT, Int.reduceAdd, Int.reduceMul, Int.reduceSub, Int.reduceLT, Int.reduceLE, Int.reduceToNat, Int.reduceEq, Int.reduceNe, Int.reduceBEq, Int.reduceBNe, ne_eq, eq_self]
  refine callT_of (c_spage p hm hn hr hU hS) ?_
  rintro v H' ⟨rfl, hS⟩
  have hx1 := hS.lk 2 rfl
  have hpat : spX sh ws p = pgAt sh ws p := rfl
  simp only [e6, e5, e1, e2, hpat, ↓D0, ↓D1, ↓D2, ↓D3, ↓D4, ↓D5, ↓D6, ↓D7, ↓D8, ↓D9, ↓D10, U0, U1, U2, U3, U4, U5, U6, U7, U8, U9, U10, ↓reduceIte, Nat.reduceAdd, Nat.reduceMul, Nat.reduceSub, Nat.reduceEqDiff, Nat.reduceBEq, Nat.reduceLeDiff, Nat.reduceLT, Int.reduceAdd, Int.reduceMul, Int.reduceSub, Int.reduceLT, Int.reduceLE, Int.reduceToNat, Int.reduceEq, Int.reduceNe, Int.reduceBEq, Int.reduceBNe, ne_eq, eq_self]
  refine newB_intro fun y hy f3 f4 => ?_
  have nxy : (x = y) = False := f3 x (by rw [hx1]; rfl)
  have nyx : (y = x) = False := f4 x (by rw [hx1]; rfl)
  have hS := hS.new f3 (.cells #[.int .i64 (pgK sh p (pgAt sh ws p)), .int .i64 (pgA sh p (pgAt sh ws p)), .int .i64 (pgB sh p (pgAt sh ws p))] 59 (0, 0))
  have r1 := fun o n => rdn_of hx1 o n
  have hok : pgK sh p (pgAt sh ws p) ≠ 0 → okPg sh p (pgAt sh ws p) = true := pgK_ne
  have hAb := pgA_bd sh p (pgAt sh ws p)
  have hB1 : blks sh ws (p + 1) = blks sh ws p ++ blkPg sh ws p := rfl
  have wp : w64 ((p : Int) * 64) = (p : Int) * 64 := w64_eq (by omega) (by omega)
  simp only [e6, e5, e1, e2, nxy, nyx, Ev.upd_upd, ↓D0, ↓D1, ↓D2, ↓D3, ↓D4, ↓D5, ↓D6, ↓D7, ↓D8, ↓D9, ↓D10, U0, U1, U2, U3, U4, U5, U6, U7, U8, U9, U10, ↓reduceIte, Nat.reduceAdd, Nat.reduceMul, Nat.reduceSub, Nat.reduceEqDiff, Nat.reduceBEq, Nat.reduceLeDiff, Nat.reduceLT, Int.reduceAdd, Int.reduceMul, Int.reduceSub, Int.reduceLT, Int.reduceLE, Int.reduceToNat, Int.reduceEq, Int.reduceNe, Int.reduceBEq, Int.reduceBNe, ne_eq, eq_self]
  rw [Ev.upd_upd]
  by_cases k3 : pgK sh p (pgAt sh ws p) = 3
  · have g3 : (pgK sh p (pgAt sh ws p) == 3) = true := beq_iff_eq.2 k3
    have wA : w64 (pgA sh p (pgAt sh ws p) * 64) = pgA sh p (pgAt sh ws p) * 64 := w64_eq (by omega) (by omega)
    have hPg : blkPg sh ws p = [((p : Int) * 64, pgA sh p (pgAt sh ws p) * 64)] := by unfold blkPg; rw [if_pos k3]
    rw [hPg] at hB1
    obtain ⟨v1, hv1⟩ : ∃ v1, (p : Int) * 64 = v1 := ⟨_, rfl⟩
    obtain ⟨v2, hv2⟩ : ∃ v2, pgA sh p (pgAt sh ws p) * 64 = v2 := ⟨_, rfl⟩
    rw [hv1] at wp hB1
    rw [hv2] at wA hB1
    simp only [e6, e5, e1, e2, nxy, nyx, hok (by omega), g3, wrap_w64, hv1, hv2, wp, wA, Ev.upd_upd, ↓D0, ↓D1, ↓D2, ↓D3, ↓D4, ↓D5, ↓D6, ↓D7, ↓D8, ↓D9, ↓D10, U0, U1, U2, U3, U4, U5, U6, U7, U8, U9, U10, ↓reduceIte, Nat.reduceAdd, Nat.reduceMul, Nat.reduceSub, Nat.reduceEqDiff, Nat.reduceBEq, Nat.reduceLeDiff, Nat.reduceLT, Int.reduceAdd, Int.reduceMul, Int.reduceSub, Int.reduceLT, Int.reduceLE, Int.reduceToNat, Int.reduceEq, Int.reduceNe, Int.reduceBEq, Int.reduceBNe, ne_eq, eq_self]
    refine newB_intro fun u hu2 f7 f8 => ?_
    have hS2 := hS.new f7 (.cells #[.int .i64 v1, .int .i64 v2] 25 (0, 0))
    have ha : ∀ H3 : Hp, rds (upd H3 u (.cells #[.int .i64 v1, .int .i64 v2] 25 (0, 0))) (some ⟨u, 0, none⟩) 2 = some #[.int .i64 v1, .int .i64 v2] := fun H3 => by
      simp only [rds, ↓D0, ↓D1, ↓D2, ↓D3, ↓D4, ↓D5, ↓D6, ↓D7, ↓D8, ↓D9, ↓D10, U0, U1, U2, U3, U4, U5, U6, U7, U8, U9, U10, ↓reduceIte, Nat.reduceAdd, Nat.reduceMul, Nat.reduceSub, Nat.reduceEqDiff, Nat.reduceBEq, Nat.reduceLeDiff, Nat.reduceLT, Int.reduceAdd, Int.reduceMul, Int.reduceSub, Int.reduceLT, Int.reduceLE, Int.reduceToNat, Int.reduceEq, Int.reduceNe, Int.reduceBEq, Int.reduceBNe, ne_eq, eq_self]
    simp only [ha, e5, ↓D0, ↓D1, ↓D2, ↓D3, ↓D4, ↓D5, ↓D6, ↓D7, ↓D8, ↓D9, ↓D10, U0, U1, U2, U3, U4, U5, U6, U7, U8, U9, U10, ↓reduceIte, Nat.reduceAdd, Nat.reduceMul, Nat.reduceSub, Nat.reduceEqDiff, Nat.reduceBEq, Nat.reduceLeDiff, Nat.reduceLT, Int.reduceAdd, Int.reduceMul, Int.reduceSub, Int.reduceLT, Int.reduceLE, Int.reduceToNat, Int.reduceEq, Int.reduceNe, Int.reduceBEq, Int.reduceBNe, ne_eq, eq_self]
    refine grow2V hB (by omega) hS2.p3 (fun g2 H2 hG2 hS3 => ?_) (fun old cap2 b2 hG2 hS3 => ?_)
    all_goals
      have hG3 := BsL.snoc hG2
      rw [← hB1] at hG3
      simp only [e6, e5, e1, e2, wrap_w64, wi, ↓D0, ↓D1, ↓D2, ↓D3, ↓D4, ↓D5, ↓D6, ↓D7, ↓D8, ↓D9, ↓D10, U0, U1, U2, U3, U4, U5, U6, U7, U8, U9, U10, ↓reduceIte, Nat.reduceAdd, Nat.reduceMul, Nat.reduceSub, Nat.reduceEqDiff, Nat.reduceBEq, Nat.reduceLeDiff, Nat.reduceLT, Int.reduceAdd, Int.reduceMul, Int.reduceSub, Int.reduceLT, Int.reduceLE, Int.reduceToNat, Int.reduceEq, Int.reduceNe, Int.reduceBEq, Int.reduceBNe, ne_eq, eq_self]
      exact ⟨⟨p + 1, _, _, _, by omega, by simp [gt, wi], by simp [gt, hB1], hG3, ⟨by simp [gt, e1], by simp [gt, e2]⟩, hS3.p1.tail.p1.tail.p2.p1⟩, by simp [gt, iv, e6, wi]; omega⟩
  have g3 : (pgK sh p (pgAt sh ws p) == 3) = false := beq_eq_false_iff_ne.2 k3
  by_cases k2 : pgK sh p (pgAt sh ws p) = 2
  rotate_left
  · have g2 : (pgK sh p (pgAt sh ws p) == 2) = false := beq_eq_false_iff_ne.2 k2
    have hPg : blkPg sh ws p = [] := blkPg_none k2 k3
    rw [hPg, List.append_nil] at hB1
    rw [← hB1] at hB e5
    cases hk : okPg sh p (pgAt sh ws p)
    all_goals
      simp only [e6, e5, e1, e2, nxy, nyx, hk, g3, g2, wrap_w64, wi, Ev.upd_upd, ↓D0, ↓D1, ↓D2, ↓D3, ↓D4, ↓D5, ↓D6, ↓D7, ↓D8, ↓D9, ↓D10, U0, U1, U2, U3, U4, U5, U6, U7, U8, U9, U10, ↓reduceIte, Nat.reduceAdd, Nat.reduceMul, Nat.reduceSub, Nat.reduceEqDiff, Nat.reduceBEq, Nat.reduceLeDiff, Nat.reduceLT, Int.reduceAdd, Int.reduceMul, Int.reduceSub, Int.reduceLT, Int.reduceLE, Int.reduceToNat, Int.reduceEq, Int.reduceNe, Int.reduceBEq, Int.reduceBNe, ne_eq, eq_self]
      exact ⟨⟨p + 1, ba, bc, g, by omega, by simp [gt, wi], by simp [gt, e5], hB, ⟨by simp [gt, e1], by simp [gt, e2]⟩, hS.tail.p1.p2.p1⟩, by simp [gt, iv, e6, wi]; omega⟩
  have g2 : (pgK sh p (pgAt sh ws p) == 2) = true := beq_iff_eq.2 k2
  have hk : okPg sh p (pgAt sh ws p) = true := hok (by omega)
  obtain ⟨A, hA⟩ : ∃ A, pgA sh p (pgAt sh ws p) = A := ⟨_, rfl⟩
  have hAs := Gv.ok_super hk k2
  rw [hA] at hAs
  have hPg : blkPg sh ws p = blkSl sh ws p A (slots A).toNat := by unfold blkPg; rw [if_neg k3, if_pos k2, hA]
  rw [hPg] at hB1
  have hz : 4 ≤ size A ∧ size A ≤ 32 := by
    rcases (by omega : A = 0 ∨ A = 1 ∨ A = 2 ∨ A = 3) with h | h | h | h <;> rw [h] <;> decide
  have sb := slots_bd A
  simp only [e6, e5, e1, e2, nxy, nyx, hk, g3, g2, hA, u_size, Ev.upd_upd, ↓D0, ↓D1, ↓D2, ↓D3, ↓D4, ↓D5, ↓D6, ↓D7, ↓D8, ↓D9, ↓D10, U0, U1, U2, U3, U4, U5, U6, U7, U8, U9, U10, ↓reduceIte, Nat.reduceAdd, Nat.reduceMul, Nat.reduceSub, Nat.reduceEqDiff, Nat.reduceBEq, Nat.reduceLeDiff, Nat.reduceLT, Int.reduceAdd, Int.reduceMul, Int.reduceSub, Int.reduceLT, Int.reduceLE, Int.reduceToNat, Int.reduceEq, Int.reduceNe, Int.reduceBEq, Int.reduceBNe, ne_eq, eq_self]
  rw [hA] at hS
  refine loop_intro (bkB p A (size A) sh ws y n cap a x (sg y (.cells #[.int .i64 (pgK sh p (pgAt sh ws p)), .int .i64 A, .int .i64 (pgB sh p (pgAt sh ws p))] 59 (0, 0)) :: sg x (.cells #[.int .i64 sh.p, .int .i64 sh.c, .int .i64 sh.m] 23 (0, 0)) :: h :: l)) (fun F' _ => (slots A - iv (gt F' 10)).toNat)
    ⟨0, ba, bc, g, by omega, by simp [gt], by simp [gt], by simp [gt, e6], by simp [gt], by simp [gt, e5, blkSl], by rw [show blkSl sh ws p A 0 = [] from rfl, List.append_nil]; exact hB, ⟨by simp [gt, e1], by simp [gt, e2]⟩, hS.p2.p3.r2⟩ ?_
  clear hS hx1 r1 r0 e5 e1 e2 hB
  have e6o := e6
  clear e6
  rintro F'' H' ⟨i, ba, bc, g, hi, e10, e9, e6, e7, e5, hB, ⟨e1, e2⟩, hS⟩
  have hx1 := hS.lk 2 rfl
  have r1 := fun o n => rdn_of hx1 o n
  have hy1 := hS.lk 1 rfl
  have r0 := fun o => rd_of hy1 o
  have hl2 := blkSl_len (s := sh) (ws := ws) p A i
  have hlen2 : (blks sh ws p ++ blkSl sh ws p A i).length ≤ 16 * p + 16 := by rw [List.length_append]; omega
  by_cases hil : (i : Int) < slots A
  rotate_left
  · have d2 : decide ((i : Int) < slots A) = false := decide_eq_false hil
    have hii : i = (slots A).toNat := by omega
    rw [hii, ← hB1] at hB e5
    simp only [e10, e9, e6, e7, e5, e1, e2, hy1, r0, u_slots, d2, wrap_w64, wi, ↓D0, ↓D1, ↓D2, ↓D3, ↓D4, ↓D5, ↓D6, ↓D7, ↓D8, ↓D9, ↓D10, U0, U1, U2, U3, U4, U5, U6, U7, U8, U9, U10, ↓reduceIte, Nat.reduceAdd, Nat.reduceMul, Nat.reduceSub, Nat.reduceEqDiff, Nat.reduceBEq, Nat.reduceLeDiff, Nat.reduceLT, Int.reduceAdd, Int.reduceMul, Int.reduceSub, Int.reduceLT, Int.reduceLE, Int.reduceToNat, Int.reduceEq, Int.reduceNe, Int.reduceBEq, Int.reduceBNe, ne_eq, eq_self]
    exact ⟨⟨p + 1, ba, bc, g, by omega, by simp [gt, wi], by simp [gt, e5], hB, ⟨by simp [gt, e1], by simp [gt, e2]⟩, hS.p1.tail⟩, by simp [gt, iv, e6o, wi]; omega⟩
  have d2 : decide ((i : Int) < slots A) = true := decide_eq_true hil
  have wj : w64 ((i : Int) + 1) = (i : Int) + 1 := w64_eq (by omega) (by omega)
  have hB2 : blkSl sh ws p A (i + 1) = blkSl sh ws p A i ++ (if slK (slAt sh ws p i) = 3 then [((p : Int) * 64 + i * size A, size A)] else []) := rfl
  simp only [e10, e9, e6, e7, e5, e1, e2, hx1, r1, hy1, r0, u_slots, d2, ↓D0, ↓D1, ↓D2, ↓D3, ↓D4, ↓D5, ↓D6, ↓D7, ↓D8, ↓D9, ↓D10, U0, U1, U2, U3, U4, U5, U6, U7, U8, U9, U10, ↓reduceIte, Nat.reduceAdd, Nat.reduceMul, Nat.reduceSub, Nat.reduceEqDiff, Nat.reduceBEq, Nat.reduceLeDiff, Nat.reduceLT, Int.reduceAdd, Int.reduceMul, Int.reduceSub, Int.reduceLT, Int.reduceLE, Int.reduceToNat, Int.reduceEq, Int.reduceNe, Int.reduceBEq, Int.reduceBNe, ne_eq, eq_self]
  refine callT_of (c_sslot p i hm hn hr hU ⟨by omega, hlt⟩ ⟨by omega, by omega⟩ hS.p3) ?_
  rintro v H' ⟨rfl, hS⟩
  have hsl : slK (ws (sh.c + sh.p + (p : Int) * 16 + (i : Int)).toNat) = slK (slAt sh ws p i) := rfl
  by_cases t3 : slK (slAt sh ws p i) = 3
  rotate_left
  · have h3 : (slK (slAt sh ws p i) == 3) = false := beq_eq_false_iff_ne.2 t3
    rw [if_neg t3, List.append_nil] at hB2
    rw [← hB2] at hB e5
    simp only [e10, e9, e6, e7, e5, e1, e2, hsl, h3, wrap_w64, wj, ↓D0, ↓D1, ↓D2, ↓D3, ↓D4, ↓D5, ↓D6, ↓D7, ↓D8, ↓D9, ↓D10, U0, U1, U2, U3, U4, U5, U6, U7, U8, U9, U10, ↓reduceIte, Nat.reduceAdd, Nat.reduceMul, Nat.reduceSub, Nat.reduceEqDiff, Nat.reduceBEq, Nat.reduceLeDiff, Nat.reduceLT, Int.reduceAdd, Int.reduceMul, Int.reduceSub, Int.reduceLT, Int.reduceLE, Int.reduceToNat, Int.reduceEq, Int.reduceNe, Int.reduceBEq, Int.reduceBNe, ne_eq, eq_self]
    exact ⟨⟨i + 1, ba, bc, g, by omega, by simp [gt, wj], by simp [gt, e9], by simp [gt, e6], by simp [gt, e7], by simp [gt, e5], hB, ⟨by simp [gt, e1], by simp [gt, e2]⟩, hS.r3⟩, by simp [gt, iv, e10, wj]; omega⟩
  have h3 : (slK (slAt sh ws p i) == 3) = true := beq_iff_eq.2 t3
  rw [if_pos t3] at hB2
  have hm1 : (i : Int) * size A ≤ 16 * 32 := Int.mul_le_mul (by omega) hz.2 (by omega) (by decide)
  have hm0 : 0 ≤ (i : Int) * size A := Int.mul_nonneg (by omega) (by omega)
  have wm : w64 ((i : Int) * size A) = (i : Int) * size A := w64_eq (by omega) (by omega)
  have ws' : w64 ((p : Int) * 64 + (i : Int) * size A) = (p : Int) * 64 + (i : Int) * size A := w64_eq (by omega) (by omega)
  obtain ⟨v1, hv1⟩ : ∃ v1, (p : Int) * 64 + (i : Int) * size A = v1 := ⟨_, rfl⟩
  rw [hv1] at ws' hB2
  simp only [e10, e9, e6, e7, e5, e1, e2, hsl, h3, wrap_w64, wp, wm, hv1, ws', ↓D0, ↓D1, ↓D2, ↓D3, ↓D4, ↓D5, ↓D6, ↓D7, ↓D8, ↓D9, ↓D10, U0, U1, U2, U3, U4, U5, U6, U7, U8, U9, U10, ↓reduceIte, Nat.reduceAdd, Nat.reduceMul, Nat.reduceSub, Nat.reduceEqDiff, Nat.reduceBEq, Nat.reduceLeDiff, Nat.reduceLT, Int.reduceAdd, Int.reduceMul, Int.reduceSub, Int.reduceLT, Int.reduceLE, Int.reduceToNat, Int.reduceEq, Int.reduceNe, Int.reduceBEq, Int.reduceBNe, ne_eq, eq_self]
  refine newB_intro fun u hu2 f7 f8 => ?_
  have hS2 := hS.new f7 (.cells #[.int .i64 v1, .int .i64 (size A)] 25 (0, 0))
  have ha : ∀ H3 : Hp, rds (upd H3 u (.cells #[.int .i64 v1, .int .i64 (size A)] 25 (0, 0))) (some ⟨u, 0, none⟩) 2 = some #[.int .i64 v1, .int .i64 (size A)] := fun H3 => by
    simp only [rds, ↓D0, ↓D1, ↓D2, ↓D3, ↓D4, ↓D5, ↓D6, ↓D7, ↓D8, ↓D9, ↓D10, U0, U1, U2, U3, U4, U5, U6, U7, U8, U9, U10, ↓reduceIte, Nat.reduceAdd, Nat.reduceMul, Nat.reduceSub, Nat.reduceEqDiff, Nat.reduceBEq, Nat.reduceLeDiff, Nat.reduceLT, Int.reduceAdd, Int.reduceMul, Int.reduceSub, Int.reduceLT, Int.reduceLE, Int.reduceToNat, Int.reduceEq, Int.reduceNe, Int.reduceBEq, Int.reduceBNe, ne_eq, eq_self]
  simp only [ha, e5, ↓D0, ↓D1, ↓D2, ↓D3, ↓D4, ↓D5, ↓D6, ↓D7, ↓D8, ↓D9, ↓D10, U0, U1, U2, U3, U4, U5, U6, U7, U8, U9, U10, ↓reduceIte, Nat.reduceAdd, Nat.reduceMul, Nat.reduceSub, Nat.reduceEqDiff, Nat.reduceBEq, Nat.reduceLeDiff, Nat.reduceLT, Int.reduceAdd, Int.reduceMul, Int.reduceSub, Int.reduceLT, Int.reduceLE, Int.reduceToNat, Int.reduceEq, Int.reduceNe, Int.reduceBEq, Int.reduceBNe, ne_eq, eq_self]
  refine grow2V hB (by omega) hS2.p2 (fun g2 H2 hG2 hS3 => ?_) (fun old cap2 b2 hG2 hS3 => ?_)
  all_goals
    have hG3 := BsL.snoc hG2
    rw [List.append_assoc, ← hB2] at hG3
    have hL2 : (blks sh ws p ++ blkSl sh ws p A (i + 1)).length = (blks sh ws p ++ blkSl sh ws p A i).length + 1 := by rw [hB2, ← List.append_assoc, List.length_append (bs := [_])]; rfl
    simp only [e10, e9, e6, e7, e5, e1, e2, wrap_w64, wj, ↓D0, ↓D1, ↓D2, ↓D3, ↓D4, ↓D5, ↓D6, ↓D7, ↓D8, ↓D9, ↓D10, U0, U1, U2, U3, U4, U5, U6, U7, U8, U9, U10, ↓reduceIte, Nat.reduceAdd, Nat.reduceMul, Nat.reduceSub, Nat.reduceEqDiff, Nat.reduceBEq, Nat.reduceLeDiff, Nat.reduceLT, Int.reduceAdd, Int.reduceMul, Int.reduceSub, Int.reduceLT, Int.reduceLE, Int.reduceToNat, Int.reduceEq, Int.reduceNe, Int.reduceBEq, Int.reduceBNe, ne_eq, eq_self]
    exact ⟨⟨i + 1, _, _, _, by omega, by simp [gt, wj], by simp [gt, e9], by simp [gt, e6], by simp [gt, e7], by rw [hL2]; simp [gt], hG3, ⟨by simp [gt, e1], by simp [gt, e2]⟩, hS3.p1.tail.p1.r3⟩, by simp [gt, iv, e10, wj]; omega⟩
end
end Go.Proofs.Ytfopnendmcpglaa
