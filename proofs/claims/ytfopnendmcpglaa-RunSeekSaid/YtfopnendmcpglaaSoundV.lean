/-
  Whether a heap is sound: the answer. Conditions: none.
-/
import Derived.Test.YtfopnendmcpglaaCodeAllotmentref20
import Derived.Test.YtfopnendmcpglaaSoundP
import Derived.Test.YtfopnendmcpglaaSound2
import Derived.Test.YtfopnendmcpglaaMaBase
set_option linter.unusedVariables false
set_option linter.unusedSimpArgs false
set_option maxRecDepth 8000
namespace Go.Proofs.Ytfopnendmcpglaa
open Go Go.Ev Go.Pl Go.Ma

/-- So many triples of numbers behind a slice of its own, and which. -/
def EsV (a : Option Addr) (k cap : Nat) (E : Nat → Int × Int) (g : Hp) : Prop :=
  (a = none ∧ k = 0 ∧ cap = 0 ∧ g = fun _ => none) ∨
  ∃ z c, a = some ⟨z, 0, none⟩ ∧ g = sg z (.cells c 83 (0, 0)) ∧ k ≤ cap ∧ cap * 3 ≤ c.size ∧ ∀ j, j < k → c[j * 3]? = some (.int .i64 (E j).1) ∧ c[j * 3 + 1]? = some (.int .i64 (E j).2)
theorem grow3V {W : World} {H g : Hp} {l : List Hp} {a : Option Addr} {k cap : Nat} {E : Nat → Int × Int} {v1 v2 v3 : Int} {K1 : Hp → Prop} {K2 : Array Value → Nat → Nat → Prop}
    (hG : EsV a k cap E g) (hk : k + 1 ≤ 1000000) (hS : Sep (g :: l) H)
    (h1 : ∀ g2 H', EsV a (k + 1) cap (fun j => if j = k then (v1, v2) else E j) g2 → Sep (g2 :: l) H' → K1 H')
    (h2 : ∀ old cap2 b, EsV (some ⟨b, 0, none⟩) (k + 1) cap2 (fun j => if j = k then (v1, v2) else E j) (sg b (.cells (old ++ #[.int .i64 v1, .int .i64 v2, .int .i64 v3] ++ Builtin.zeroCells #[.int .i64 0, .int .i64 0, .int .i64 0] (cap2 - (k + 1))) 83 (0, 0))) →
      Sep (sg b (.cells (old ++ #[.int .i64 v1, .int .i64 v2, .int .i64 v3] ++ Builtin.zeroCells #[.int .i64 0, .int .i64 0, .int .i64 0] (cap2 - (k + 1))) 83 (0, 0)) :: l) (upd H b (.cells (old ++ #[.int .i64 v1, .int .i64 v2, .int .i64 v3] ++ Builtin.zeroCells #[.int .i64 0, .int .i64 0, .int .i64 0] (cap2 - (k + 1))) 83 (0, 0))) → K2 old cap2 b) :
    if k + 1 ≤ cap then stow H a (k * 3) #[.int .i64 v1, .int .i64 v2, .int .i64 v3] K1
    else Builtin.nextslicecap (k + 1) cap * 24 ≤ 281474976710656 ∧ k ≤ 9223372036854775806 ∧ onSome (rds H a (k * 3)) fun old => allCap (k + 1) fun cap => newB W H fun b => K2 old cap b := by
  split
  · rename_i hroom
    rcases hG with ⟨rfl, rfl, rfl, rfl⟩ | ⟨z, c, rfl, rfl, h4, h5, h3⟩
    · omega
    have hz := hS.look
    unfold stow
    rw [if_neg (by simp)]
    show onCells (H z) _
    rw [hz]
    refine ⟨by simp; omega, by simp; exact ⟨rfl, rfl, rfl⟩, ?_⟩
    have e : setN c (0 + k * 3) [.int .i64 v1, .int .i64 v2, .int .i64 v3] = ((c.setIfInBounds (k * 3) (.int .i64 v1)).setIfInBounds (k * 3 + 1) (.int .i64 v2)).setIfInBounds (k * 3 + 2) (.int .i64 v3) := by rw [Nat.zero_add]; rfl
    refine h1 _ _ (.inr ⟨z, setN c (0 + k * 3) [.int .i64 v1, .int .i64 v2, .int .i64 v3], rfl, rfl, by omega, by rw [e]; simp; omega, fun i hi => ?_⟩) (hS.set _)
    rw [e]
    show _ = some (Value.int .i64 (if i = k then (v1, v2) else E i).1) ∧ _ = some (Value.int .i64 (if i = k then (v1, v2) else E i).2)
    by_cases ik : i = k
    · subst ik
      rw [if_pos rfl]
      refine ⟨?_, ?_⟩
      · rw [Array.getElem?_setIfInBounds_ne (by omega), Array.getElem?_setIfInBounds_ne (by omega)]
        exact Array.getElem?_setIfInBounds_self_of_lt (by omega)
      · rw [Array.getElem?_setIfInBounds_ne (by omega)]
        exact Array.getElem?_setIfInBounds_self_of_lt (by simp; omega)
    · rw [if_neg ik]
      have := h3 i (by omega)
      refine ⟨?_, ?_⟩
      · rw [Array.getElem?_setIfInBounds_ne (by omega), Array.getElem?_setIfInBounds_ne (by omega), Array.getElem?_setIfInBounds_ne (by omega)]; exact this.1
      · rw [Array.getElem?_setIfInBounds_ne (by omega), Array.getElem?_setIfInBounds_ne (by omega), Array.getElem?_setIfInBounds_ne (by omega)]; exact this.2
  · rename_i hroom
    obtain ⟨old, hold, hsz, hat⟩ : ∃ old : Array Value, rds H a (k * 3) = some old ∧ old.size = k * 3 ∧ ∀ i, i < k → old[i * 3]? = some (.int .i64 (E i).1) ∧ old[i * 3 + 1]? = some (.int .i64 (E i).2) := by
      rcases hG with ⟨rfl, rfl, rfl, rfl⟩ | ⟨z, c, rfl, rfl, h4, h5, h3⟩
      · exact ⟨#[], rfl, rfl, fun i hi => by omega⟩
      · cases hkk : k * 3 with
        | zero => exact ⟨#[], rfl, rfl, fun i hi => by omega⟩
        | succ m =>
          refine ⟨c.extract 0 (0 + (m + 1)), ?_, by simp; omega, fun i hi => ?_⟩
          · show rdn H z 0 (m + 1) = _
            rw [rdn_of hS.look, if_pos (by omega)]
          · rw [Array.getElem?_extract, if_pos (by omega), Nat.zero_add, Array.getElem?_extract, if_pos (by omega), Nat.zero_add]; exact h3 i (by omega)
    have hc := nextslicecap_le (need := k + 1) (old := cap) (by omega)
    refine ⟨by omega, by omega, ?_⟩
    rw [hold]
    intro cap2 hc2
    refine newB_intro fun b hb0 f1 f2 => ?_
    have e : (Builtin.zeroCells #[Value.int .i64 0, Value.int .i64 0, Value.int .i64 0] (cap2 - (k + 1))).size = (cap2 - (k + 1)) * 3 := by simp [Builtin.zeroCells]
    refine h2 _ _ _ (.inr ⟨b, _, rfl, rfl, hc2, ?_, fun i hi => ?_⟩) ((hS.tail.new f1 _))
    · simp only [Array.size_append, hsz, e]
      show cap2 * 3 ≤ k * 3 + 3 + _
      omega
    · rw [Array.append_assoc]
      by_cases ik : i = k
      · subst ik
        show _ = some (Value.int .i64 (if i = i then (v1, v2) else E i).1) ∧ _ = some (Value.int .i64 (if i = i then (v1, v2) else E i).2)
        rw [if_pos rfl]
        refine ⟨?_, ?_⟩
        · rw [Array.getElem?_append_right (by omega), hsz, Array.getElem?_append_left (by simp), show i * 3 - i * 3 = 0 by omega]; rfl
        · rw [Array.getElem?_append_right (by omega), hsz, Array.getElem?_append_left (by simp), show i * 3 + 1 - i * 3 = 1 by omega]; rfl
      · show _ = some (Value.int .i64 (if i = k then (v1, v2) else E i).1) ∧ _ = some (Value.int .i64 (if i = k then (v1, v2) else E i).2)
        rw [if_neg ik]
        have := hat i (by omega)
        refine ⟨?_, ?_⟩
        · rw [Array.getElem?_append_left (by omega)]; exact this.1
        · rw [Array.getElem?_append_left (by omega)]; exact this.2
theorem EsV.rd {H g : Hp} {l : List Hp} {a : Option Addr} {k cap : Nat} {E : Nat → Int × Int} (h : EsV a k cap E g) (hS : Sep l H) (hm : g ∈ l) {j : Nat} (hj : j < k) : ∃ z, a = some ⟨z, 0, none⟩ ∧ Ev.rd H z (j * 3) = some (.int .i64 (E j).1) ∧ Ev.rd H z (j * 3 + 1) = some (.int .i64 (E j).2) := by
  rcases h with ⟨-, h, -, -⟩ | ⟨z, c, rfl, rfl, h1, h2, h3⟩
  · omega
  · have := hS.sb _ hm z _ (sg_at _ _)
    exact ⟨z, rfl, by rw [rd_of this, (h3 j hj).1], by rw [rd_of this, (h3 j hj).2]⟩
section
variable {W : World} {H h : Hp} {l : List Hp} {n cap : Nat} {a : Option Addr} {ws : Nat → Int} {sh : Sh}
def vsoG (n cap : Nat) (a : Option Addr) (x : Nat) (F' : Fr) : Prop := gt F' 1 = .slice a n cap ∧ gt F' 2 = .pointer (some ⟨x, 0, none⟩)
def vsoA (sh : Sh) (ws : Nat → Int) (n cap : Nat) (a : Option Addr) (x : Nat) (L : List Hp) (F' : Fr) (H' : Hp) : Prop :=
  ∃ p : Nat, (p : Int) ≤ sh.p ∧ gt F' 5 = .int .i64 (p : Int) ∧ vsoG n cap a x F' ∧ Sep L H' ∧ ∀ q : Nat, q < p → okPg sh q (pgAt sh ws q) = true ∧ SpB sh ws q (pgK sh q (pgAt sh ws q)) (pgA sh q (pgAt sh ws q))
def vsoB (sh : Sh) (ws : Nat → Int) (n cap : Nat) (a : Option Addr) (x : Nat) (L : List Hp) (F' : Fr) (H' : Hp) : Prop :=
  ∃ (c k ecap : Nat) (es : Option Addr) (g : Hp) (E : Nat → Int × Int), (c : Int) ≤ sh.c ∧ gt F' 9 = .int .i64 (c : Int) ∧ gt F' 8 = .slice es k ecap ∧ EsV es k ecap E g ∧ Seen sh ws c 0 k E ∧ k ≤ c * 8 ∧ vsoG n cap a x F' ∧ Sep (g :: L) H'
def vsoC (sh : Sh) (ws : Nat → Int) (c n cap : Nat) (a : Option Addr) (x : Nat) (L : List Hp) (F' : Fr) (H' : Hp) : Prop :=
  ∃ (i k ecap : Nat) (es : Option Addr) (g : Hp) (E : Nat → Int × Int), (i : Int) ≤ sh.m ∧ gt F' 10 = .int .i64 (i : Int) ∧ gt F' 9 = .int .i64 (c : Int) ∧ gt F' 8 = .slice es k ecap ∧ EsV es k ecap E g ∧ Seen sh ws c i k E ∧ k ≤ c * 8 + i ∧ vsoG n cap a x F' ∧ Sep (g :: L) H'
def vsoD (E : Nat → Int × Int) (ee : Int × Int) (c i k ecap : Nat) (es : Option Addr) (y n cap : Nat) (a : Option Addr) (x : Nat) (L : List Hp) (F' : Fr) (H' : Hp) : Prop :=
  ∃ j : Nat, j ≤ k ∧ gt F' 16 = .int .i64 (j : Int) ∧ gt F' 12 = .pointer (some ⟨y, 0, none⟩) ∧ gt F' 10 = .int .i64 (i : Int) ∧ gt F' 9 = .int .i64 (c : Int) ∧ gt F' 8 = .slice es k ecap ∧ vsoG n cap a x F' ∧ Sep L H' ∧ ∀ q, q < j → E q ≠ ee
set_option maxHeartbeats 8000000 in
theorem c_soundV (hm : may sh.p sh.c sh.m = true) (hn : (n : Int) = words sh.p sh.c sh.m) (hr : RowU h a n ws) (hU : ∀ i, i < n → U (ws i)) (hS : Sep (h :: l) H) :
    CallP Try.prog W 14 #[.agg #[.int .i64 sh.p, .int .i64 sh.c, .int .i64 sh.m], .slice a n cap] H fun v H' => ∃ b, v = .bool b ∧ (b = true ↔ Snd sh ws) ∧ Sep (h :: l) H' := by
  refine CallP.of mixed Try.func14 tr14 (by show 2 ≤ _; decide) fun W _ => ?_
  simp only [↓D0, ↓D1, ↓D2, ↓D3, ↓D4, ↓D5, ↓D6, ↓D7, ↓D8, ↓D9, ↓D10, U0, U1, U2, U3, U4, U5, U6, U7, U8, U9, U10, ↓reduceIte, Nat.reduceAdd, Nat.reduceMul, Nat.reduceSub, Nat.reduceEqDiff, Nat.reduceBEq, Nat.reduceLeDiff, Nat.reduceLT, Int.reduceAdd, Int.reduceMul, Int.reduceSub, Int.reduceLT, Int.reduceLE, Int.reduceToNat, Int.reduceEq, Int.reduceNe, Int.reduceBEq, Int.reduceBNe, ne_eq, eq_self]
  refine newB_intro fun x hx f1 f2 => ?_
  have hS := (hS.new f1 (.cells #[.int .i64 sh.p, .int .i64 sh.c, .int .i64 sh.m] 23 (0, 0)))
  have hx1 := hS.look
  have r1 := fun o n => rdn_of hx1 o n
  have hw := words_ge hm hn
  have hb := (may_iff _ _ _).1 hm
  simp only [hx1, r1, ↓D0, ↓D1, ↓D2, ↓D3, ↓D4, ↓D5, ↓D6, ↓D7, ↓D8, ↓D9, ↓D10, U0, U1, U2, U3, U4, U5, U6, U7, U8, U9, U10, ↓reduceIte, Nat.reduceAdd, Nat.reduceMul, Nat.reduceSub, Nat.reduceEqDiff, Nat.reduceBEq, Nat.reduceLeDiff, Nat.reduceLT, Int.reduceAdd, Int.reduceMul, Int.reduceSub, Int.reduceLT, Int.reduceLE, Int.reduceToNat, Int.reduceEq, Int.reduceNe, Int.reduceBEq, Int.reduceBNe, ne_eq, eq_self]
  refine callT_of (c_senough hm hn hS) ?_
  rintro v H' ⟨rfl, hS⟩
  simp only [↓D0, ↓D1, ↓D2, ↓D3, ↓D4, ↓D5, ↓D6, ↓D7, ↓D8, ↓D9, ↓D10, U0, U1, U2, U3, U4, U5, U6, U7, U8, U9, U10, ↓reduceIte, Nat.reduceAdd, Nat.reduceMul, Nat.reduceSub, Nat.reduceEqDiff, Nat.reduceBEq, Nat.reduceLeDiff, Nat.reduceLT, Int.reduceAdd, Int.reduceMul, Int.reduceSub, Int.reduceLT, Int.reduceLE, Int.reduceToNat, Int.reduceEq, Int.reduceNe, Int.reduceBEq, Int.reduceBNe, ne_eq, eq_self]
  refine loop_intro (vsoA sh ws n cap a x (sg x (.cells #[.int .i64 sh.p, .int .i64 sh.c, .int .i64 sh.m] 23 (0, 0)) :: h :: l)) (fun F' _ => (sh.p - iv (gt F' 5)).toNat)
    ⟨0, by omega, rfl, ⟨rfl, rfl⟩, hS, fun q h => by omega⟩ ?_
  clear hS hx1 r1
  rintro F' H' ⟨p, hp, e5, ⟨e1, e2⟩, hS, hQ⟩
  have hx1 := hS.look
  have r1 := fun o n => rdn_of hx1 o n
  have r0 := fun o => rd_of hx1 o
  by_cases hlt : (p : Int) < sh.p
  · have d1 : decide ((p : Int) < sh.p) = true := decide_eq_true hlt
    have wi : w64 ((p : Int) + 1) = (p : Int) + 1 := w64_eq (by omega) (by omega)
    simp only [e5, e1, e2, hx1, r0, r1, d1, ↓D0, ↓D1, ↓D2, ↓D3, ↓D4, ↓D5, ↓D6, ↓D7, ↓D8, ↓D9, ↓D10, U0, U1, U2, U3, U4, U5, U6, U7, U8, U9, U10, ↓reduceIte, Nat.reduceAdd, Nat.reduceMul, Nat.reduceSub, Nat.reduceEqDiff, Nat.reduceBEq, Nat.reduceLeDiff, Nat.reduceLT, Int.reduceAdd, Int.reduceMul, Int.reduceSub, Int.reduceLT, Int.reduceLE, Int.reduceToNat, Int.reduceEq, Int.reduceNe, Int.reduceBEq, Int.reduceBNe, ne_eq, eq_self]
    refine callT_of (c_spage p hm hn hr hU hS.p1) ?_
    rintro v H' ⟨rfl, hS⟩
    have hx0 := hS.lk 1 rfl
    have r1 := fun o n => rdn_of hx0 o n
    simp only [e5, e1, e2, ↓D0, ↓D1, ↓D2, ↓D3, ↓D4, ↓D5, ↓D6, ↓D7, ↓D8, ↓D9, ↓D10, U0, U1, U2, U3, U4, U5, U6, U7, U8, U9, U10, ↓reduceIte, Nat.reduceAdd, Nat.reduceMul, Nat.reduceSub, Nat.reduceEqDiff, Nat.reduceBEq, Nat.reduceLeDiff, Nat.reduceLT, Int.reduceAdd, Int.reduceMul, Int.reduceSub, Int.reduceLT, Int.reduceLE, Int.reduceToNat, Int.reduceEq, Int.reduceNe, Int.reduceBEq, Int.reduceBNe, ne_eq, eq_self]
    refine newB_intro fun z hz f5 f6 => ?_
    have nxz : (x = z) = False := f5 x (by rw [hx0]; rfl)
    have nzx : (z = x) = False := f6 x (by rw [hx0]; rfl)
    have hS := hS.new f5 (.cells #[.int .i64 0, .int .i64 0, .int .i64 0] 59 (0, 0))
    have hS := hS.set (.cells #[.int .i64 (pgK sh p (spX sh ws p)), .int .i64 (pgA sh p (spX sh ws p)), .int .i64 (pgB sh p (spX sh ws p))] 59 (0, 0))
    rw [Ev.upd_upd] at hS
    have hA0 : 0 ≤ pgA sh p (spX sh ws p) := by
      unfold pgA; split
      · exact (pt_bd _ _).1
      · decide
    have hA : pgA sh p (spX sh ws p) ≤ 255 := by
      unfold pgA; split
      · exact (pt_bd _ _).2
      · decide
    cases hok : okPg sh p (spX sh ws p)
    · simp only [e5, e1, e2, hok, Ev.upd_upd, nxz, nzx, hx0, r1, ↓D0, ↓D1, ↓D2, ↓D3, ↓D4, ↓D5, ↓D6, ↓D7, ↓D8, ↓D9, ↓D10, U0, U1, U2, U3, U4, U5, U6, U7, U8, U9, U10, ↓reduceIte, Nat.reduceAdd, Nat.reduceMul, Nat.reduceSub, Nat.reduceEqDiff, Nat.reduceBEq, Nat.reduceLeDiff, Nat.reduceLT, Int.reduceAdd, Int.reduceMul, Int.reduceSub, Int.reduceLT, Int.reduceLE, Int.reduceToNat, Int.reduceEq, Int.reduceNe, Int.reduceBEq, Int.reduceBNe, ne_eq, eq_self]
      exact ⟨_, rfl, ⟨fun hh => (by cases hh), fun hP => (by have h9 := (hP.pg p hlt).1; have h8 : okPg sh p (pgAt sh ws p) = false := hok; rw [h8] at h9; cases h9)⟩, hS.tail.p1.tail⟩
    · simp only [e5, e1, e2, hok, Ev.upd_upd, nxz, nzx, hx0, r1, ↓D0, ↓D1, ↓D2, ↓D3, ↓D4, ↓D5, ↓D6, ↓D7, ↓D8, ↓D9, ↓D10, U0, U1, U2, U3, U4, U5, U6, U7, U8, U9, U10, ↓reduceIte, Nat.reduceAdd, Nat.reduceMul, Nat.reduceSub, Nat.reduceEqDiff, Nat.reduceBEq, Nat.reduceLeDiff, Nat.reduceLT, Int.reduceAdd, Int.reduceMul, Int.reduceSub, Int.reduceLT, Int.reduceLE, Int.reduceToNat, Int.reduceEq, Int.reduceNe, Int.reduceBEq, Int.reduceBNe, ne_eq, eq_self]
      refine callT_of (c_soundpageV p _ _ _ hA0 hA hm hn hr hU ⟨by omega, hlt⟩ hS.tail) ?_
      rintro v H' ⟨b, rfl, hiff, hS⟩
      cases b
      · simp only [e5, e1, e2, ↓D0, ↓D1, ↓D2, ↓D3, ↓D4, ↓D5, ↓D6, ↓D7, ↓D8, ↓D9, ↓D10, U0, U1, U2, U3, U4, U5, U6, U7, U8, U9, U10, ↓reduceIte, Nat.reduceAdd, Nat.reduceMul, Nat.reduceSub, Nat.reduceEqDiff, Nat.reduceBEq, Nat.reduceLeDiff, Nat.reduceLT, Int.reduceAdd, Int.reduceMul, Int.reduceSub, Int.reduceLT, Int.reduceLE, Int.reduceToNat, Int.reduceEq, Int.reduceNe, Int.reduceBEq, Int.reduceBNe, ne_eq, eq_self]
        exact ⟨_, rfl, ⟨fun hh => (by cases hh), fun hP => (by have h9 := hiff.2 (hP.pg p hlt).2; cases h9)⟩, hS.p1.tail⟩
      · simp only [e5, e1, e2, wrap_w64, wi, ↓D0, ↓D1, ↓D2, ↓D3, ↓D4, ↓D5, ↓D6, ↓D7, ↓D8, ↓D9, ↓D10, U0, U1, U2, U3, U4, U5, U6, U7, U8, U9, U10, ↓reduceIte, Nat.reduceAdd, Nat.reduceMul, Nat.reduceSub, Nat.reduceEqDiff, Nat.reduceBEq, Nat.reduceLeDiff, Nat.reduceLT, Int.reduceAdd, Int.reduceMul, Int.reduceSub, Int.reduceLT, Int.reduceLE, Int.reduceToNat, Int.reduceEq, Int.reduceNe, Int.reduceBEq, Int.reduceBNe, ne_eq, eq_self]
        refine ⟨⟨p + 1, by omega, by simp [gt, wi], ⟨by simp [gt, e1], by simp [gt, e2]⟩, hS.p1, fun q hq => ?_⟩, by simp [gt, iv, e5, wi]; omega⟩
        by_cases e : q = p
        · subst e; exact ⟨hok, hiff.1 rfl⟩
        · exact hQ q (by omega)
  have d1 : decide ((p : Int) < sh.p) = false := decide_eq_false hlt
  simp only [e5, e1, e2, hx1, r0, r1, d1, ↓D0, ↓D1, ↓D2, ↓D3, ↓D4, ↓D5, ↓D6, ↓D7, ↓D8, ↓D9, ↓D10, U0, U1, U2, U3, U4, U5, U6, U7, U8, U9, U10, ↓reduceIte, Nat.reduceAdd, Nat.reduceMul, Nat.reduceSub, Nat.reduceEqDiff, Nat.reduceBEq, Nat.reduceLeDiff, Nat.reduceLT, Int.reduceAdd, Int.reduceMul, Int.reduceSub, Int.reduceLT, Int.reduceLE, Int.reduceToNat, Int.reduceEq, Int.reduceNe, Int.reduceBEq, Int.reduceBNe, ne_eq, eq_self]
  refine loop_intro (vsoB sh ws n cap a x (sg x (.cells #[.int .i64 sh.p, .int .i64 sh.c, .int .i64 sh.m] 23 (0, 0)) :: h :: l)) (fun F' _ => (sh.c - iv (gt F' 9)).toNat)
    ⟨0, 0, 0, none, _, fun _ => (0, 0), by omega, by simp [gt], by simp [gt], .inl ⟨rfl, rfl, rfl, rfl⟩, Seen.zero, by omega, ⟨by simp [gt, e1], by simp [gt, e2]⟩, hS.nothing⟩ ?_
  have hPG : ∀ q : Nat, (q : Int) < sh.p → okPg sh q (pgAt sh ws q) = true ∧ SpB sh ws q (pgK sh q (pgAt sh ws q)) (pgA sh q (pgAt sh ws q)) := fun q hq => hQ q (by omega)
  clear hS hx1 r1 r0 e1 e2 e5 hlt d1
  rintro F' H' ⟨c, k, ecap, es, g, E, hc, e9, e8, hE, hSeen, hk, ⟨e1, e2⟩, hS⟩
  have hx1 := hS.lk 1 rfl
  have r1 := fun o n => rdn_of hx1 o n
  have r0 := fun o => rd_of hx1 o
  by_cases hcl : (c : Int) < sh.c
  rotate_left
  · have d1 : decide ((c : Int) < sh.c) = false := decide_eq_false hcl
    simp only [e9, e8, e1, e2, hx1, r0, r1, d1, ↓D0, ↓D1, ↓D2, ↓D3, ↓D4, ↓D5, ↓D6, ↓D7, ↓D8, ↓D9, ↓D10, U0, U1, U2, U3, U4, U5, U6, U7, U8, U9, U10, ↓reduceIte, Nat.reduceAdd, Nat.reduceMul, Nat.reduceSub, Nat.reduceEqDiff, Nat.reduceBEq, Nat.reduceLeDiff, Nat.reduceLT, Int.reduceAdd, Int.reduceMul, Int.reduceSub, Int.reduceLT, Int.reduceLE, Int.reduceToNat, Int.reduceEq, Int.reduceNe, Int.reduceBEq, Int.reduceBNe, ne_eq, eq_self]
    exact ⟨_, rfl, ⟨fun _ => hSeen.snd hcl hPG, fun _ => rfl⟩, hS.tail.tail⟩
  have d1 : decide ((c : Int) < sh.c) = true := decide_eq_true hcl
  have wc : w64 ((c : Int) + 1) = (c : Int) + 1 := w64_eq (by omega) (by omega)
  simp only [e9, e8, e1, e2, hx1, r0, r1, d1, ↓D0, ↓D1, ↓D2, ↓D3, ↓D4, ↓D5, ↓D6, ↓D7, ↓D8, ↓D9, ↓D10, U0, U1, U2, U3, U4, U5, U6, U7, U8, U9, U10, ↓reduceIte, Nat.reduceAdd, Nat.reduceMul, Nat.reduceSub, Nat.reduceEqDiff, Nat.reduceBEq, Nat.reduceLeDiff, Nat.reduceLT, Int.reduceAdd, Int.reduceMul, Int.reduceSub, Int.reduceLT, Int.reduceLE, Int.reduceToNat, Int.reduceEq, Int.reduceNe, Int.reduceBEq, Int.reduceBNe, ne_eq, eq_self]
  refine loop_intro (vsoC sh ws c n cap a x (sg x (.cells #[.int .i64 sh.p, .int .i64 sh.c, .int .i64 sh.m] 23 (0, 0)) :: h :: l)) (fun F' _ => (sh.m - iv (gt F' 10)).toNat)
    ⟨0, k, ecap, es, g, E, by omega, by simp [gt], by simp [gt, e9], by simp [gt, e8], hE, hSeen, by omega, ⟨by simp [gt, e1], by simp [gt, e2]⟩, hS⟩ ?_
  have e9o := e9
  clear hS hx1 r1 r0 e1 e2 e9 e8 d1 hE hk hSeen
  rintro F'' H' ⟨i, k, ecap, es, g, E, hi, e10, e9, e8, hE, hSeen, hk, ⟨e1, e2⟩, hS⟩
  have hx1 := hS.lk 1 rfl
  have r1 := fun o n => rdn_of hx1 o n
  have r0 := fun o => rd_of hx1 o
  by_cases hil : (i : Int) < sh.m
  rotate_left
  · have d1 : decide ((i : Int) < sh.m) = false := decide_eq_false hil
    simp only [e10, e9, e8, e1, e2, hx1, r0, r1, d1, wrap_w64, wc, ↓D0, ↓D1, ↓D2, ↓D3, ↓D4, ↓D5, ↓D6, ↓D7, ↓D8, ↓D9, ↓D10, U0, U1, U2, U3, U4, U5, U6, U7, U8, U9, U10, ↓reduceIte, Nat.reduceAdd, Nat.reduceMul, Nat.reduceSub, Nat.reduceEqDiff, Nat.reduceBEq, Nat.reduceLeDiff, Nat.reduceLT, Int.reduceAdd, Int.reduceMul, Int.reduceSub, Int.reduceLT, Int.reduceLE, Int.reduceToNat, Int.reduceEq, Int.reduceNe, Int.reduceBEq, Int.reduceBNe, ne_eq, eq_self]
    exact ⟨⟨c + 1, k, ecap, es, g, E, by omega, by simp [gt, wc], by simp [gt, e8], hE, hSeen.row hil, by omega, ⟨by simp [gt, e1], by simp [gt, e2]⟩, hS⟩, by simp [gt, iv, e9o, e9, wc]; omega⟩
  have d1 : decide ((i : Int) < sh.m) = true := decide_eq_true hil
  have wi : w64 ((i : Int) + 1) = (i : Int) + 1 := w64_eq (by omega) (by omega)
  have hmg : mag sh.p sh.c sh.m (c : Int) (i : Int) = sh.c + sh.p + sh.p * 16 + (c : Int) * sh.m + (i : Int) := mag_yes hm (by omega) hcl (by omega) hil
  have hcm : (c : Int) * sh.m + sh.m ≤ sh.c * sh.m := by
    have : ((c : Int) + 1) * sh.m ≤ sh.c * sh.m := Int.mul_le_mul_of_nonneg_right (by omega) (by omega)
    rw [Int.add_mul, Int.one_mul] at this; exact this
  have hcm0 : 0 ≤ (c : Int) * sh.m := Int.mul_nonneg (by omega) (by omega)
  obtain ⟨at', hat⟩ : ∃ at', sh.c + sh.p + sh.p * 16 + (c : Int) * sh.m + (i : Int) = at' := ⟨_, rfl⟩
  rw [hat] at hmg
  have p0 : 0 ≤ at' := by omega
  have p1 : at' < (n : Int) := by omega
  obtain ⟨xb, xo, rfl, hrd⟩ := (hr.sub (hS.sb h (by simp))).at' (i := at'.toNat) (by omega)
  have hu : U (ws at'.toNat) := hU _ (by omega)
  obtain ⟨w, hww⟩ : ∃ w, ws at'.toNat = w := ⟨_, rfl⟩
  rw [hww] at hrd hu
  have hmw : mgAt sh ws c i = w := by unfold mgAt; rw [hat]; exact hww
  cases hz : (w == 0)
  rotate_left
  · simp only [e10, e9, e8, e1, e2, hx1, r0, r1, d1, u_mag, hmg, p0, p1, hrd, hz, wrap_w64, wi, ↓D0, ↓D1, ↓D2, ↓D3, ↓D4, ↓D5, ↓D6, ↓D7, ↓D8, ↓D9, ↓D10, U0, U1, U2, U3, U4, U5, U6, U7, U8, U9, U10, ↓reduceIte, Nat.reduceAdd, Nat.reduceMul, Nat.reduceSub, Nat.reduceEqDiff, Nat.reduceBEq, Nat.reduceLeDiff, Nat.reduceLT, Int.reduceAdd, Int.reduceMul, Int.reduceSub, Int.reduceLT, Int.reduceLE, Int.reduceToNat, Int.reduceEq, Int.reduceNe, Int.reduceBEq, Int.reduceBNe, ne_eq, eq_self]
    exact ⟨⟨i + 1, k, ecap, es, g, E, by omega, by simp [gt, wi], by simp [gt, e9], by simp [gt, e8], hE, hSeen.skip (hmw.trans (beq_iff_eq.1 hz)), by omega, ⟨by simp [gt, e1], by simp [gt, e2]⟩, hS⟩, by simp [gt, iv, e10, wi]; omega⟩
  simp only [e10, e9, e8, e1, e2, hx1, r0, r1, d1, u_mag, hmg, p0, p1, hrd, hz, u_readen sh hu, ↓D0, ↓D1, ↓D2, ↓D3, ↓D4, ↓D5, ↓D6, ↓D7, ↓D8, ↓D9, ↓D10, U0, U1, U2, U3, U4, U5, U6, U7, U8, U9, U10, ↓reduceIte, Nat.reduceAdd, Nat.reduceMul, Nat.reduceSub, Nat.reduceEqDiff, Nat.reduceBEq, Nat.reduceLeDiff, Nat.reduceLT, Int.reduceAdd, Int.reduceMul, Int.reduceSub, Int.reduceLT, Int.reduceLE, Int.reduceToNat, Int.reduceEq, Int.reduceNe, Int.reduceBEq, Int.reduceBNe, ne_eq, eq_self]
  refine newB_intro fun y hy f3 f4 => ?_
  have hS := hS.new f3 (.cells #[.int .i64 0, .int .i64 0, .int .i64 0] 83 (0, 0))
  have hS := hS.set (.cells #[.int .i64 (enP sh w), .int .i64 (enS sh w), .int .i64 (enK sh w)] 83 (0, 0))
  rw [Ev.upd_upd] at hS
  have hyx := hS.neq 0 2 (by decide) rfl rfl
  have hxy := hS.qen 0 2 (by decide) rfl rfl
  have hnz : mgAt sh ws c i ≠ 0 := by rw [hmw]; exact beq_eq_false_iff_ne.1 hz
  have hEn : Snd sh ws → EnB sh ws c w := fun hP => by have h9 := hP.en c i hcl hil hnz; rw [hmw] at h9; exact h9
  cases hok : okEn sh w
  · simp only [e10, e9, e8, e1, e2, hok, Ev.upd_upd, ↓D0, ↓D1, ↓D2, ↓D3, ↓D4, ↓D5, ↓D6, ↓D7, ↓D8, ↓D9, ↓D10, U0, U1, U2, U3, U4, U5, U6, U7, U8, U9, U10, ↓reduceIte, Nat.reduceAdd, Nat.reduceMul, Nat.reduceSub, Nat.reduceEqDiff, Nat.reduceBEq, Nat.reduceLeDiff, Nat.reduceLT, Int.reduceAdd, Int.reduceMul, Int.reduceSub, Int.reduceLT, Int.reduceLE, Int.reduceToNat, Int.reduceEq, Int.reduceNe, Int.reduceBEq, Int.reduceBNe, ne_eq, eq_self]
    exact ⟨_, rfl, ⟨fun hh => (by cases hh), fun hP => (by have h9 := (hEn hP).ok; rw [hok] at h9; cases h9)⟩, hS.tail.tail.tail⟩
  obtain ⟨hep, hes⟩ := okEn_in hm hok
  obtain ⟨ep, hepp⟩ : ∃ ep, enP sh w = ep := ⟨_, rfl⟩
  obtain ⟨e_s, hess⟩ : ∃ e_s, enS sh w = e_s := ⟨_, rfl⟩
  obtain ⟨ek, hekk⟩ : ∃ ek, enK sh w = ek := ⟨_, rfl⟩
  rw [hepp] at hep
  rw [hess] at hes
  rw [hepp, hess, hekk] at hS
  simp only [e10, e9, e8, e1, e2, hok, hepp, hess, hekk, Ev.upd_upd, hx1, r0, r1, hyx, hxy, ↓D0, ↓D1, ↓D2, ↓D3, ↓D4, ↓D5, ↓D6, ↓D7, ↓D8, ↓D9, ↓D10, U0, U1, U2, U3, U4, U5, U6, U7, U8, U9, U10, ↓reduceIte, Nat.reduceAdd, Nat.reduceMul, Nat.reduceSub, Nat.reduceEqDiff, Nat.reduceBEq, Nat.reduceLeDiff, Nat.reduceLT, Int.reduceAdd, Int.reduceMul, Int.reduceSub, Int.reduceLT, Int.reduceLE, Int.reduceToNat, Int.reduceEq, Int.reduceNe, Int.reduceBEq, Int.reduceBNe, ne_eq, eq_self]
  refine callT_of (c_spage ep hm hn hr hU hS.p3) ?_
  rintro v H' ⟨rfl, hS⟩
  have hy1 := hS.lk 1 rfl
  have hx1 := hS.lk 3 rfl
  have r1 := fun o n => rdn_of hx1 o n
  have r0 := fun o => rd_of hx1 o
  have r2 := fun o => rd_of hy1 o
  have r2n := fun o n => rdn_of hy1 o n
  have hyx := hS.neq 1 3 (by decide) rfl rfl
  have hxy := hS.qen 1 3 (by decide) rfl rfl
  have hsl : slot sh.p sh.c sh.m ep e_s = sh.c + sh.p + ep * 16 + e_s := slot_yes hm hep.1 hep.2 hes.1 hes.2
  have q0 : (0 : Int) ≤ sh.c + sh.p + ep * 16 + e_s := by omega
  have q1 : sh.c + sh.p + ep * 16 + e_s < (n : Int) := by omega
  obtain ⟨xb2, xo2, hxe, hrd2⟩ := (hr.sub (hS.sb h (by simp))).at' (i := (sh.c + sh.p + ep * 16 + e_s).toNat) (by omega)
  cases hxe
  simp only [e10, e9, e8, e1, e2, ↓D0, ↓D1, ↓D2, ↓D3, ↓D4, ↓D5, ↓D6, ↓D7, ↓D8, ↓D9, ↓D10, U0, U1, U2, U3, U4, U5, U6, U7, U8, U9, U10, ↓reduceIte, Nat.reduceAdd, Nat.reduceMul, Nat.reduceSub, Nat.reduceEqDiff, Nat.reduceBEq, Nat.reduceLeDiff, Nat.reduceLT, Int.reduceAdd, Int.reduceMul, Int.reduceSub, Int.reduceLT, Int.reduceLE, Int.reduceToNat, Int.reduceEq, Int.reduceNe, Int.reduceBEq, Int.reduceBNe, ne_eq, eq_self]
  refine newB_intro fun z hz2 f5 f6 => ?_
  have nxz : (x = z) = False := f5 x (by rw [hx1]; rfl)
  have nzx : (z = x) = False := f6 x (by rw [hx1]; rfl)
  have nyz : (y = z) = False := f5 y (by rw [hy1]; rfl)
  have nzy : (z = y) = False := f6 y (by rw [hy1]; rfl)
  have nbz : (xb = z) = False := f5 xb (by obtain ⟨c, T, f, hc, -⟩ := cells_of hrd2; rw [hc]; rfl)
  obtain ⟨pK, hpK⟩ : ∃ pK, pgK sh ep (spX sh ws ep) = pK := ⟨_, rfl⟩
  obtain ⟨pA, hpA⟩ : ∃ pA, pgA sh ep (spX sh ws ep) = pA := ⟨_, rfl⟩
  obtain ⟨pB, hpB⟩ : ∃ pB, pgB sh ep (spX sh ws ep) = pB := ⟨_, rfl⟩
  have hS := hS.new f5 (.cells #[.int .i64 0, .int .i64 0, .int .i64 0] 59 (0, 0))
  have hS := hS.set (.cells #[.int .i64 pK, .int .i64 pA, .int .i64 pB] 59 (0, 0))
  rw [Ev.upd_upd] at hS
  have hSt := hS.tail
  cases c1 : (pK != 2)
  rotate_left
  · simp only [e10, e9, e8, e1, e2, hpK, hpA, hpB, Ev.upd_upd, nxz, nzx, nyz, nzy, nbz, hx1, hy1, r0, r1, r2, hyx, hxy, c1, ↓D0, ↓D1, ↓D2, ↓D3, ↓D4, ↓D5, ↓D6, ↓D7, ↓D8, ↓D9, ↓D10, U0, U1, U2, U3, U4, U5, U6, U7, U8, U9, U10, ↓reduceIte, Nat.reduceAdd, Nat.reduceMul, Nat.reduceSub, Nat.reduceEqDiff, Nat.reduceBEq, Nat.reduceLeDiff, Nat.reduceLT, Int.reduceAdd, Int.reduceMul, Int.reduceSub, Int.reduceLT, Int.reduceLE, Int.reduceToNat, Int.reduceEq, Int.reduceNe, Int.reduceBEq, Int.reduceBNe, ne_eq, eq_self]
    exact ⟨_, rfl, ⟨fun hh => (by cases hh), fun hP => (by have h9 := (hEn hP).k; rw [hepp] at h9; rw [← hpK] at c1; have h8 := c1; simp at h8; exact absurd h9 h8)⟩, hSt.p1.tail.p1.tail.p1.tail⟩
  cases c2 : (pA != ek)
  rotate_left
  · simp only [e10, e9, e8, e1, e2, hpK, hpA, hpB, Ev.upd_upd, nxz, nzx, nyz, nzy, nbz, hx1, hy1, r0, r1, r2, hyx, hxy, c1, c2, ↓D0, ↓D1, ↓D2, ↓D3, ↓D4, ↓D5, ↓D6, ↓D7, ↓D8, ↓D9, ↓D10, U0, U1, U2, U3, U4, U5, U6, U7, U8, U9, U10, ↓reduceIte, Nat.reduceAdd, Nat.reduceMul, Nat.reduceSub, Nat.reduceEqDiff, Nat.reduceBEq, Nat.reduceLeDiff, Nat.reduceLT, Int.reduceAdd, Int.reduceMul, Int.reduceSub, Int.reduceLT, Int.reduceLE, Int.reduceToNat, Int.reduceEq, Int.reduceNe, Int.reduceBEq, Int.reduceBNe, ne_eq, eq_self]
    exact ⟨_, rfl, ⟨fun hh => (by cases hh), fun hP => (by have h9 := (hEn hP).a; rw [hepp, hekk] at h9; rw [← hpA] at c2; have h8 := c2; simp at h8; exact absurd h9 h8)⟩, hSt.p1.tail.p1.tail.p1.tail⟩
  cases c3 : (ws (sh.c + sh.p + ep * 16 + e_s).toNat != putSl 2 (c : Int))
  rotate_left
  · simp only [e10, e9, e8, e1, e2, hpK, hpA, hpB, Ev.upd_upd, nxz, nzx, nyz, nzy, nbz, hx1, hy1, r0, r1, r2, hyx, hxy, c1, c2, u_slot, hsl, q0, q1, hrd2, u_putsl, c3, ↓D0, ↓D1, ↓D2, ↓D3, ↓D4, ↓D5, ↓D6, ↓D7, ↓D8, ↓D9, ↓D10, U0, U1, U2, U3, U4, U5, U6, U7, U8, U9, U10, ↓reduceIte, Nat.reduceAdd, Nat.reduceMul, Nat.reduceSub, Nat.reduceEqDiff, Nat.reduceBEq, Nat.reduceLeDiff, Nat.reduceLT, Int.reduceAdd, Int.reduceMul, Int.reduceSub, Int.reduceLT, Int.reduceLE, Int.reduceToNat, Int.reduceEq, Int.reduceNe, Int.reduceBEq, Int.reduceBNe, ne_eq, eq_self]
    exact ⟨_, rfl, ⟨fun hh => (by cases hh), fun hP => (by have h9 := (hEn hP).w; rw [hepp, hess] at h9; have h8 := c3; simp at h8; exact absurd h9 h8)⟩, hSt.p1.tail.p1.tail.p1.tail⟩
  simp only [e10, e9, e8, e1, e2, hpK, hpA, hpB, Ev.upd_upd, nxz, nzx, nyz, nzy, nbz, hx1, hy1, r0, r1, r2, hyx, hxy, c1, c2, u_slot, hsl, q0, q1, hrd2, u_putsl, c3, ↓D0, ↓D1, ↓D2, ↓D3, ↓D4, ↓D5, ↓D6, ↓D7, ↓D8, ↓D9, ↓D10, U0, U1, U2, U3, U4, U5, U6, U7, U8, U9, U10, ↓reduceIte, Nat.reduceAdd, Nat.reduceMul, Nat.reduceSub, Nat.reduceEqDiff, Nat.reduceBEq, Nat.reduceLeDiff, Nat.reduceLT, Int.reduceAdd, Int.reduceMul, Int.reduceSub, Int.reduceLT, Int.reduceLE, Int.reduceToNat, Int.reduceEq, Int.reduceNe, Int.reduceBEq, Int.reduceBNe, ne_eq, eq_self]
  refine loop_intro (vsoD E (ep, e_s) c i k ecap es y n cap (some ⟨xb, xo, none⟩) x (g :: sg y (.cells #[.int .i64 ep, .int .i64 e_s, .int .i64 ek] 83 (0, 0)) :: sg x (.cells #[.int .i64 sh.p, .int .i64 sh.c, .int .i64 sh.m] 23 (0, 0)) :: h :: l)) (fun F' _ => (k - iv (gt F' 16)).toNat)
    ⟨0, by omega, by simp [gt], by simp [gt], by simp [gt, e10], by simp [gt, e9], by simp [gt, e8], ⟨by simp [gt, e1], by simp [gt, e2]⟩, hSt.p3.p2.p3, fun q hq => by omega⟩ ?_
  have e10o := e10
  clear hS hSt hx1 hy1 r0 r1 r2 r2n hrd hrd2 e10 e9 e8 e1 e2 nbz
  rintro F3 H' ⟨j, hj, e16, e12, e10, e9, e8, ⟨e1, e2⟩, hS, hNo⟩
  have hy1 := hS.lk 1 rfl
  have r2 := fun o => rd_of hy1 o
  have r2n := fun o n => rdn_of hy1 o n
  by_cases hjk : j < k
  · have d2 : decide ((j : Int) < (k : Int)) = true := decide_eq_true (by omega)
    have j0 : (0 : Int) ≤ (j : Int) := by omega
    have j1 : (j : Int) < (k : Int) := by omega
    have wj : w64 ((j : Int) + 1) = (j : Int) + 1 := w64_eq (by omega) (by omega)
    obtain ⟨sz, rfl, g1, g2⟩ := hE.rd hS (by simp) hjk
    obtain ⟨v1, hv1⟩ : ∃ v1, (E j).1 = v1 := ⟨_, rfl⟩
    obtain ⟨v2, hv2⟩ : ∃ v2, (E j).2 = v2 := ⟨_, rfl⟩
    rw [hv1] at g1
    rw [hv2] at g2
    cases t1 : (v1 == ep)
    · simp only [e16, e12, e10, e9, e8, e1, e2, hy1, r2, d2, j0, j1, Int.toNat_natCast, Nat.zero_add, Nat.add_zero, g1, g2, t1, wrap_w64, wj, ↓D0, ↓D1, ↓D2, ↓D3, ↓D4, ↓D5, ↓D6, ↓D7, ↓D8, ↓D9, ↓D10, U0, U1, U2, U3, U4, U5, U6, U7, U8, U9, U10, ↓reduceIte, Nat.reduceAdd, Nat.reduceMul, Nat.reduceSub, Nat.reduceEqDiff, Nat.reduceBEq, Nat.reduceLeDiff, Nat.reduceLT, Int.reduceAdd, Int.reduceMul, Int.reduceSub, Int.reduceLT, Int.reduceLE, Int.reduceToNat, Int.reduceEq, Int.reduceNe, Int.reduceBEq, Int.reduceBNe, ne_eq, eq_self]
      exact ⟨⟨j + 1, by omega, by simp [gt, wj], by simp [gt, e12], by simp [gt, e10], by simp [gt, e9], by simp [gt, e8], ⟨by simp [gt, e1], by simp [gt, e2]⟩, hS, fun q hq => (by
          by_cases e : q = j
          · subst e; intro h9; rw [h9] at hv1; rw [← hv1] at t1; simp at t1
          · exact hNo q (by omega))⟩, by simp [gt, iv, e16, wj]; omega⟩
    · cases t2 : (v2 == e_s)
      · simp only [e16, e12, e10, e9, e8, e1, e2, hy1, r2, d2, j0, j1, Int.toNat_natCast, Nat.zero_add, Nat.add_zero, g1, g2, t1, t2, wrap_w64, wj, ↓D0, ↓D1, ↓D2, ↓D3, ↓D4, ↓D5, ↓D6, ↓D7, ↓D8, ↓D9, ↓D10, U0, U1, U2, U3, U4, U5, U6, U7, U8, U9, U10, ↓reduceIte, Nat.reduceAdd, Nat.reduceMul, Nat.reduceSub, Nat.reduceEqDiff, Nat.reduceBEq, Nat.reduceLeDiff, Nat.reduceLT, Int.reduceAdd, Int.reduceMul, Int.reduceSub, Int.reduceLT, Int.reduceLE, Int.reduceToNat, Int.reduceEq, Int.reduceNe, Int.reduceBEq, Int.reduceBNe, ne_eq, eq_self]
        exact ⟨⟨j + 1, by omega, by simp [gt, wj], by simp [gt, e12], by simp [gt, e10], by simp [gt, e9], by simp [gt, e8], ⟨by simp [gt, e1], by simp [gt, e2]⟩, hS, fun q hq => (by
          by_cases e : q = j
          · subst e; intro h9; rw [h9] at hv2; rw [← hv2] at t2; simp at t2
          · exact hNo q (by omega))⟩, by simp [gt, iv, e16, wj]; omega⟩
      · simp only [e16, e12, e10, e9, e8, e1, e2, hy1, r2, d2, j0, j1, Int.toNat_natCast, Nat.zero_add, Nat.add_zero, g1, g2, t1, t2, ↓D0, ↓D1, ↓D2, ↓D3, ↓D4, ↓D5, ↓D6, ↓D7, ↓D8, ↓D9, ↓D10, U0, U1, U2, U3, U4, U5, U6, U7, U8, U9, U10, ↓reduceIte, Nat.reduceAdd, Nat.reduceMul, Nat.reduceSub, Nat.reduceEqDiff, Nat.reduceBEq, Nat.reduceLeDiff, Nat.reduceLT, Int.reduceAdd, Int.reduceMul, Int.reduceSub, Int.reduceLT, Int.reduceLE, Int.reduceToNat, Int.reduceEq, Int.reduceNe, Int.reduceBEq, Int.reduceBNe, ne_eq, eq_self]
        exact ⟨_, rfl, ⟨fun hh => (by cases hh), fun hP => (hP.once hSeen hcl hil hnz hjk (by rw [hmw]; unfold enE; rw [hepp, hess]; exact Prod.ext (hv1.trans (beq_iff_eq.1 t1)) (hv2.trans (beq_iff_eq.1 t2)))).elim⟩, hS.tail.tail.tail⟩
  have d2 : decide ((j : Int) < (k : Int)) = false := decide_eq_false (by omega)
  simp only [e16, e12, e10, e9, e8, e1, e2, hy1, r2n, d2, ↓D0, ↓D1, ↓D2, ↓D3, ↓D4, ↓D5, ↓D6, ↓D7, ↓D8, ↓D9, ↓D10, U0, U1, U2, U3, U4, U5, U6, U7, U8, U9, U10, ↓reduceIte, Nat.reduceAdd, Nat.reduceMul, Nat.reduceSub, Nat.reduceEqDiff, Nat.reduceBEq, Nat.reduceLeDiff, Nat.reduceLT, Int.reduceAdd, Int.reduceMul, Int.reduceSub, Int.reduceLT, Int.reduceLE, Int.reduceToNat, Int.reduceEq, Int.reduceNe, Int.reduceBEq, Int.reduceBNe, ne_eq, eq_self]
  refine newB_intro fun u hu2 f7 f8 => ?_
  have hS2 := hS.new f7 (.cells #[.int .i64 ep, .int .i64 e_s, .int .i64 ek] 83 (0, 0))
  have ha : rds (upd H' u (.cells #[.int .i64 ep, .int .i64 e_s, .int .i64 ek] 83 (0, 0))) (some ⟨u, 0, none⟩) 3 = some #[.int .i64 ep, .int .i64 e_s, .int .i64 ek] := by
    simp only [rds, ↓D0, ↓D1, ↓D2, ↓D3, ↓D4, ↓D5, ↓D6, ↓D7, ↓D8, ↓D9, ↓D10, U0, U1, U2, U3, U4, U5, U6, U7, U8, U9, U10, ↓reduceIte, Nat.reduceAdd, Nat.reduceMul, Nat.reduceSub, Nat.reduceEqDiff, Nat.reduceBEq, Nat.reduceLeDiff, Nat.reduceLT, Int.reduceAdd, Int.reduceMul, Int.reduceSub, Int.reduceLT, Int.reduceLE, Int.reduceToNat, Int.reduceEq, Int.reduceNe, Int.reduceBEq, Int.reduceBNe, ne_eq, eq_self]
  simp only [ha, e8, ↓D0, ↓D1, ↓D2, ↓D3, ↓D4, ↓D5, ↓D6, ↓D7, ↓D8, ↓D9, ↓D10, U0, U1, U2, U3, U4, U5, U6, U7, U8, U9, U10, ↓reduceIte, Nat.reduceAdd, Nat.reduceMul, Nat.reduceSub, Nat.reduceEqDiff, Nat.reduceBEq, Nat.reduceLeDiff, Nat.reduceLT, Int.reduceAdd, Int.reduceMul, Int.reduceSub, Int.reduceLT, Int.reduceLE, Int.reduceToNat, Int.reduceEq, Int.reduceNe, Int.reduceBEq, Int.reduceBNe, ne_eq, eq_self]
  refine grow3V hE (by omega) hS2.p1 (fun g2 H2 hG2 hS3 => ?_) (fun old cap2 b2 hG2 hS3 => ?_)
  all_goals
    have hEB : EnB sh ws c (mgAt sh ws c i) := by
      rw [hmw]
      refine ⟨hok, ?_, ?_, ?_⟩
      · rw [hepp]; have h8 := c1; simp at h8; exact hpK.trans h8
      · rw [hepp, hekk]; have h8 := c2; simp at h8; exact hpA.trans h8
      · rw [hepp, hess]; have h8 := c3; simp at h8; exact h8
    have hee : enE sh (mgAt sh ws c i) = (ep, e_s) := by rw [hmw]; unfold enE; rw [hepp, hess]
    have hSA := hSeen.add hcl hil hnz hEB (fun q hq => by rw [hee]; exact hNo q (by omega))
    rw [hee] at hSA
    simp only [e16, e12, e10, e9, e8, e1, e2, wrap_w64, wi, ↓D0, ↓D1, ↓D2, ↓D3, ↓D4, ↓D5, ↓D6, ↓D7, ↓D8, ↓D9, ↓D10, U0, U1, U2, U3, U4, U5, U6, U7, U8, U9, U10, ↓reduceIte, Nat.reduceAdd, Nat.reduceMul, Nat.reduceSub, Nat.reduceEqDiff, Nat.reduceBEq, Nat.reduceLeDiff, Nat.reduceLT, Int.reduceAdd, Int.reduceMul, Int.reduceSub, Int.reduceLT, Int.reduceLE, Int.reduceToNat, Int.reduceEq, Int.reduceNe, Int.reduceBEq, Int.reduceBNe, ne_eq, eq_self]
    exact ⟨⟨i + 1, k + 1, _, _, _, _, by omega, by simp [gt, wi], by simp [gt, e9], by simp [gt], hG2, hSA, by omega, ⟨by simp [gt, e1], by simp [gt, e2]⟩, hS3.p1.tail.p1.tail⟩, by simp [gt, iv, e10o, e10, wi]; omega⟩
end
end Go.Proofs.Ytfopnendmcpglaa
