/-
Rows of blocks: a part of one, and what is appended. Conditions: none.
The document's model of a memory: a new one; a block is taken, given, looked for. Conditions: none.
-/
import Derived.Test.YtfdhilnaagpecaaGreatSep
import Derived.Test.YtfdhilnaagpecaaGreatSoundA
import Derived.Test.YtfdhilnaagpecaaGreatAlt
open Nat renaming reduceAdd → xA, reduceMul → xB, reduceSub → xC, reduceEqDiff → xD, reduceBEq → xE, reduceLeDiff → xF, reduceLT → xG
open Int renaming reduceAdd → xH, reduceMul → xI, reduceSub → xJ, reduceLT → xK, reduceLE → xL, reduceToNat → xM, reduceEq → xN, reduceNe → xO, reduceBEq → xP, reduceBNe → xQ
set_option linter.unusedVariables false
set_option linter.unusedSimpArgs false
namespace Go.Ev
/-- Cells say pairs from o on. -/
def Prs (c : Array Value) (o : Nat) (ml : List (Int × Int)) : Prop := ∀ j, j < ml.length → c[o + j * 2]? = some (.int .i64 (ml.getD j (0, 0)).1) ∧ c[o + j * 2 + 1]? = some (.int .i64 (ml.getD j (0, 0)).2)
def MdR (T : TypeId) (a : Option Addr) (cap : Nat) (ml : List (Int × Int)) (g : Hp) : Prop :=
  (a = none ∧ ml = [] ∧ cap = 0 ∧ g = fun _ => none) ∨ ∃ z c, a = some ⟨z, 0, none⟩ ∧ g = sg z (.cells c T (0, 0)) ∧ ml.length ≤ cap ∧ cap * 2 ≤ c.size ∧ Prs c 0 ml
theorem getD_drop (ml : List (Int × Int)) (k j : Nat) : (ml.drop k).getD j (0, 0) = ml.getD (k + j) (0, 0) := by
  simp [List.getD_eq_getElem?_getD]
theorem getD_take {ml : List (Int × Int)} {k j : Nat} (h : j < k) : (ml.take k).getD j (0, 0) = ml.getD j (0, 0) := by
  simp [List.getD_eq_getElem?_getD, List.getElem?_take, h]
theorem getD_app {ml nl : List (Int × Int)} {j : Nat} : (ml ++ nl).getD j (0, 0) = if j < ml.length then ml.getD j (0, 0) else nl.getD (j - ml.length) (0, 0) := by
  simp only [List.getD_eq_getElem?_getD]
  split
  · rename_i h; rw [List.getElem?_append_left h]
  · rename_i h; rw [List.getElem?_append_right (by omega)]
/-- Where a part begins. -/
def adr (a : Option Addr) (cap k : Nat) : Option Addr := if cap = k then a else a.map (·.add (k * 2))
theorem MdR.len {T : TypeId} {a : Option Addr} {cap : Nat} {ml : List (Int × Int)} {g : Hp} (h : MdR T a cap ml g) : ml.length ≤ cap := by
  rcases h with ⟨-, rfl, rfl, -⟩ | ⟨z, c, -, -, h, -⟩
  · exact Nat.le_refl _
  · exact h
theorem MdR.part {T : TypeId} {H g : Hp} {l : List Hp} {a : Option Addr} {cap : Nat} {ml : List (Int × Int)} (h : MdR T a cap ml g) (hS : Sep l H) (hm : g ∈ l) (k m : Nat) (hk : k + m ≤ ml.length) :
    ∃ new, rds H (adr a cap k) (m * 2) = some new ∧ new.size = m * 2 ∧ Prs new 0 ((ml.drop k).take m) := by
  cases hmm : m with
  | zero => exact ⟨#[], by cases h0 : adr a cap k <;> rfl, rfl, fun j hj => by simp at hj⟩
  | succ m' =>
    rw [← hmm]
    rcases h with ⟨-, rfl, -, -⟩ | ⟨z, c, rfl, rfl, h1, h2, h3⟩
    · simp at hk; omega
    · have hz := hS.sb _ hm z _ (sg_at _ _)
      have ha : adr (some ⟨z, 0, none⟩) cap k = some ⟨z, 0 + k * 2, none⟩ := by
        unfold adr
        rw [if_neg (by omega)]
        show some (Addr.add _ _) = _
        rw [Addr_add]
      refine ⟨c.extract (k * 2) (k * 2 + m * 2), ?_, by rw [Array.size_extract]; omega, fun j hj => ?_⟩
      · rw [ha, show m * 2 = (m * 2 - 1) + 1 by omega]
        show rdn H z (0 + k * 2) (m * 2 - 1 + 1) = _
        rw [rdn_of hz, if_pos (by omega), Nat.zero_add]
      · have hj : j < m := by simp at hj; omega
        have h4 := h3 (k + j) (by omega)
        rw [getD_take hj, getD_drop]
        rw [Array.getElem?_extract, if_pos (by omega), Array.getElem?_extract, if_pos (by omega)]
        rw [show k * 2 + (0 + j * 2) = 0 + (k + j) * 2 by omega, show k * 2 + (0 + j * 2 + 1) = 0 + (k + j) * 2 + 1 by omega]
        exact h4
theorem get_setN : ∀ (vs : List Value) (c : Array Value) (o i : Nat), o + vs.length ≤ c.size → (setN c o vs)[i]? = if o ≤ i ∧ i < o + vs.length then vs[i - o]? else c[i]?
  | [], c, o, i, _ => by
    rw [if_neg (by show ¬ (o ≤ i ∧ i < o + 0); omega)]; rfl
  | v :: r, c, o, i, h => by
    have h : o + (r.length + 1) ≤ c.size := h
    show (setN (c.setIfInBounds o v) (o + 1) r)[i]? = _
    rw [get_setN r _ _ _ (by simp; omega)]
    by_cases h1 : o + 1 ≤ i ∧ i < o + 1 + r.length
    · rw [if_pos h1, if_pos (by simp; omega), show i - o = (i - (o + 1)) + 1 by omega]; rfl
    · rw [if_neg h1]
      by_cases h2 : i = o
      · subst h2
        rw [if_pos (by simp), Array.getElem?_setIfInBounds_self_of_lt (by omega), Nat.sub_self]; rfl
      · rw [Array.getElem?_setIfInBounds_ne (by omega), if_neg (by simp; omega)]
theorem Prs.one {new : Array Value} {nl : List (Int × Int)} (hn : new.size = nl.length * 2) (hp : Prs new 0 nl) : new.toList.all Value.oneCell' = true := by
  rw [List.all_eq_true]
  intro v hv
  obtain ⟨i, hi, rfl⟩ := List.getElem_of_mem hv
  have hi' : i < new.size := by simpa using hi
  have h1 := hp (i / 2) (by omega)
  rcases (by omega : i = 0 + i / 2 * 2 ∨ i = 0 + i / 2 * 2 + 1) with e | e
  · have h := h1.1
    rw [← e, Array.getElem?_eq_getElem hi'] at h
    injection h with h
    have : new.toList[i] = new[i] := by simp
    rw [this, h]; rfl
  · have h := h1.2
    rw [← e, Array.getElem?_eq_getElem hi'] at h
    injection h with h
    have : new.toList[i] = new[i] := by simp
    rw [this, h]; rfl
/-- Append of a row to a row. -/
theorem md_app {W : World} {H g : Hp} {l : List Hp} {T : TypeId} {a : Option Addr} {cap L n : Nat} {ml nl : List (Int × Int)} {new : Array Value} {K1 : Hp → Prop} {K2 : Array Value → Nat → Nat → Prop}
    (hL : L = ml.length) (hN : n = nl.length) (hG : MdR T a cap ml g) (hn : new.size = nl.length * 2) (hp : Prs new 0 nl) (hl : L + n ≤ 1000000) (hS : Sep (g :: l) H)
    (h1 : ∀ g2 H', MdR T a cap (ml ++ nl) g2 → Sep (g2 :: l) H' → K1 H')
    (h2 : ∀ old cap2 b, MdR T (some ⟨b, 0, none⟩) cap2 (ml ++ nl) (sg b (.cells (old ++ new ++ Builtin.zeroCells #[.int .i64 0, .int .i64 0] (cap2 - (L + n))) T (0, 0))) →
      Sep (sg b (.cells (old ++ new ++ Builtin.zeroCells #[.int .i64 0, .int .i64 0] (cap2 - (L + n))) T (0, 0)) :: l) (upd H b (.cells (old ++ new ++ Builtin.zeroCells #[.int .i64 0, .int .i64 0] (cap2 - (L + n))) T (0, 0))) → K2 old cap2 b) :
    if L + n ≤ cap then stow H a (L * 2) new K1
    else Builtin.nextslicecap (L + n) cap * 16 ≤ 281474976710656 ∧ L + n ≤ 9223372036854775807 ∧ onSome (rds H a (L * 2)) fun old => allCap (L + n) fun cap => newB W H fun b => K2 old cap b := by
  subst hL hN
  split
  · rename_i hroom
    unfold stow
    by_cases h0 : new.size = 0
    · rw [if_pos h0]
      have : nl = [] := List.length_eq_zero_iff.1 (by omega)
      subst this
      exact h1 g H (by rw [List.append_nil]; exact hG) hS
    · rw [if_neg h0]
      rcases hG with ⟨rfl, rfl, rfl, rfl⟩ | ⟨z, c, rfl, rfl, h4, h5, h3⟩
      · have h9 : ([] : List (Int × Int)).length = 0 := rfl
        omega
      show onCells (H z) _
      rw [hS.look]
      refine ⟨by omega, hp.one hn, ?_⟩
      have hsz : 0 + ml.length * 2 + new.toList.length ≤ c.size := by simp; omega
      refine h1 _ _ (.inr ⟨z, setN c (0 + ml.length * 2) new.toList, rfl, rfl, by simp; omega, by rw [size_setN]; omega, fun j hj => ?_⟩) (hS.set _)
      have hj : j < ml.length + nl.length := by simpa using hj
      rw [get_setN _ _ _ _ hsz, get_setN _ _ _ _ hsz, getD_app]
      by_cases hjm : j < ml.length
      · rw [if_pos hjm, if_neg (by omega), if_neg (by omega)]; exact h3 j hjm
      · have hp2 := hp (j - ml.length) (by omega)
        have hln : new.toList.length = nl.length * 2 := by simp [hn]
        rw [if_neg hjm, if_pos (by omega), if_pos (by omega)]
        rw [show 0 + j * 2 - (0 + ml.length * 2) = 0 + (j - ml.length) * 2 by omega, show 0 + j * 2 + 1 - (0 + ml.length * 2) = 0 + (j - ml.length) * 2 + 1 by omega]
        simpa using hp2
  · rename_i hroom
    obtain ⟨old, hold, hsz, hat⟩ : ∃ old : Array Value, rds H a (ml.length * 2) = some old ∧ old.size = ml.length * 2 ∧ Prs old 0 ml := by
      obtain ⟨old, e1, e2, e3⟩ := hG.part hS (List.mem_cons_self ..) 0 ml.length (by omega)
      rw [List.drop_zero, List.take_length] at e3
      refine ⟨old, ?_, e2, e3⟩
      rw [← e1]
      unfold adr
      split
      · rfl
      · rcases hG with ⟨rfl, -⟩ | ⟨z, c, rfl, -⟩
        · rfl
        · show _ = rds H (some (Addr.add _ _)) _
          rw [Addr_add]
    have hc := nextslicecap_le (need := ml.length + nl.length) (old := cap) (by omega)
    refine ⟨by omega, by omega, ?_⟩
    rw [hold]
    intro cap2 hc2
    refine newB_intro fun b hb0 f1 f2 => ?_
    have e : (Builtin.zeroCells #[Value.int .i64 0, Value.int .i64 0] (cap2 - (ml.length + nl.length))).size = (cap2 - (ml.length + nl.length)) * 2 := by simp [Builtin.zeroCells]
    refine h2 _ _ _ (.inr ⟨b, _, rfl, rfl, by simp; omega, ?_, fun j hj => ?_⟩) ((hS.tail.new f1 _))
    · simp only [Array.size_append, hsz, e, hn]; omega
    · have hj : j < ml.length + nl.length := by simpa using hj
      rw [Array.append_assoc, getD_app]
      by_cases hjm : j < ml.length
      · rw [if_pos hjm, Array.getElem?_append_left (by omega), Array.getElem?_append_left (by omega)]; exact hat j hjm
      · have hp2 := hp (j - ml.length) (by omega)
        rw [if_neg hjm]
        refine ⟨?_, ?_⟩
        · rw [Array.getElem?_append_right (by omega), hsz, Array.getElem?_append_left (by omega), show 0 + j * 2 - ml.length * 2 = 0 + (j - ml.length) * 2 by omega]; exact hp2.1
        · rw [Array.getElem?_append_right (by omega), hsz, Array.getElem?_append_left (by omega), show 0 + j * 2 + 1 - ml.length * 2 = 0 + (j - ml.length) * 2 + 1 by omega]; exact hp2.2
/-- One block more. -/
theorem md_app1 {W : World} {H g : Hp} {l : List Hp} {T : TypeId} {a : Option Addr} {cap L : Nat} {ml : List (Int × Int)} {v : Int × Int} {new : Array Value} {K1 : Hp → Prop} {K2 : Array Value → Nat → Nat → Prop}
    (hL : L = ml.length) (hG : MdR T a cap ml g) (hn : new.size = 2) (hp : Prs new 0 [v]) (hl : L ≤ 900000) (hS : Sep (g :: l) H)
    (h1 : ∀ g2 H', MdR T a cap (ml ++ [v]) g2 → Sep (g2 :: l) H' → K1 H')
    (h2 : ∀ old cap2 b, MdR T (some ⟨b, 0, none⟩) cap2 (ml ++ [v]) (sg b (.cells (old ++ new ++ Builtin.zeroCells #[.int .i64 0, .int .i64 0] (cap2 - (L + 1))) T (0, 0))) →
      Sep (sg b (.cells (old ++ new ++ Builtin.zeroCells #[.int .i64 0, .int .i64 0] (cap2 - (L + 1))) T (0, 0)) :: l) (upd H b (.cells (old ++ new ++ Builtin.zeroCells #[.int .i64 0, .int .i64 0] (cap2 - (L + 1))) T (0, 0))) → K2 old cap2 b) :
    if L + 1 ≤ cap then stow H a (L * 2) new K1
    else Builtin.nextslicecap (L + 1) cap * 16 ≤ 281474976710656 ∧ L ≤ 9223372036854775806 ∧ onSome (rds H a (L * 2)) fun old => allCap (L + 1) fun cap => newB W H fun b => K2 old cap b := by
  have h := md_app (W := W) (T := T) (L := L) (n := 1) (nl := [v]) (K1 := K1) (K2 := K2) hL rfl hG hn hp (by omega) hS h1 h2
  by_cases e : L + 1 ≤ cap
  · rw [if_pos e] at h ⊢; exact h
  · rw [if_neg e] at h ⊢; exact ⟨h.1, by omega, h.2.2⟩
theorem md_app0 {W : World} {H g : Hp} {l : List Hp} {T : TypeId} {a : Option Addr} {L : Nat} {ml : List (Int × Int)} {v : Int × Int} {new : Array Value} {K2 : Array Value → Nat → Nat → Prop}
    (hL : L = ml.length) (hG : MdR T a 0 ml g) (hn : new.size = 2) (hp : Prs new 0 [v]) (hl : L ≤ 900000) (hS : Sep (g :: l) H)
    (h2 : ∀ old cap2 b, MdR T (some ⟨b, 0, none⟩) cap2 (ml ++ [v]) (sg b (.cells (old ++ new ++ Builtin.zeroCells #[.int .i64 0, .int .i64 0] (cap2 - (L + 1))) T (0, 0))) →
      Sep (sg b (.cells (old ++ new ++ Builtin.zeroCells #[.int .i64 0, .int .i64 0] (cap2 - (L + 1))) T (0, 0)) :: l) (upd H b (.cells (old ++ new ++ Builtin.zeroCells #[.int .i64 0, .int .i64 0] (cap2 - (L + 1))) T (0, 0))) → K2 old cap2 b) :
    Builtin.nextslicecap (L + 1) 0 * 16 ≤ 281474976710656 ∧ L ≤ 9223372036854775806 ∧ onSome (rds H a (L * 2)) fun old => allCap (L + 1) fun cap => newB W H fun b => K2 old cap b := by
  have h := md_app1 (W := W) (T := T) (K1 := fun _ => True) (K2 := K2) hL hG hn hp hl hS (fun _ _ _ _ => trivial) h2
  rw [if_neg (by omega)] at h
  exact h
theorem md_appZ {W : World} {H : Hp} {l : List Hp} {T : TypeId} {n : Nat} {nl : List (Int × Int)} {new : Array Value} {K1 : Hp → Prop} {K2 : Array Value → Nat → Nat → Prop}
    (hN : n = nl.length) (hn : new.size = nl.length * 2) (hp : Prs new 0 nl) (hl : n ≤ 900000) (hS : Sep l H)
    (h1 : ∀ g2 H', MdR T none 0 nl g2 → Sep (g2 :: l) H' → K1 H')
    (h2 : ∀ old cap2 b, MdR T (some ⟨b, 0, none⟩) cap2 nl (sg b (.cells (old ++ new ++ Builtin.zeroCells #[.int .i64 0, .int .i64 0] (cap2 - (0 + n))) T (0, 0))) →
      Sep (sg b (.cells (old ++ new ++ Builtin.zeroCells #[.int .i64 0, .int .i64 0] (cap2 - (0 + n))) T (0, 0)) :: l) (upd H b (.cells (old ++ new ++ Builtin.zeroCells #[.int .i64 0, .int .i64 0] (cap2 - (0 + n))) T (0, 0))) → K2 old cap2 b) :
    if n ≤ 0 then stow H none 0 new K1
    else Builtin.nextslicecap n 0 * 16 ≤ 281474976710656 ∧ n ≤ 9223372036854775807 ∧ onSome (rds H none 0) fun old => allCap (0 + n) fun cap => newB W H fun b => K2 old cap b := by
  have h := md_app (W := W) (T := T) (ml := []) (L := 0) (n := n) (K1 := K1) (K2 := K2) rfl hN (.inl ⟨rfl, rfl, rfl, rfl⟩) hn hp (by omega) hS.nothing h1 h2
  have e : 0 + n = n := Nat.zero_add n
  by_cases c : n ≤ 0
  · rw [if_pos c]; rw [if_pos (by omega)] at h; exact h
  · rw [if_neg c]; rw [if_neg (by omega)] at h
    exact ⟨by have := h.1; rw [e] at this; exact this, by omega, h.2.2⟩
end Go.Ev
set_option maxRecDepth 8000
namespace Go.Ev
theorem MdR.cell {T : TypeId} {l : List Hp} {H g : Hp} {a : Option Addr} {cap : Nat} {ml : List (Int × Int)} (h : MdR T a cap ml g) (hS : Sep l H) (hm : g ∈ l) {j : Nat} (hj : j < ml.length) :
    ∃ z, a = some ⟨z, 0, none⟩ ∧ rd H z (j * 2) = some (.int .i64 (ml.getD j (0, 0)).1) ∧ rd H z (j * 2 + 1) = some (.int .i64 (ml.getD j (0, 0)).2) ∧ rdn H z (j * 2) 2 = some #[.int .i64 (ml.getD j (0, 0)).1, .int .i64 (ml.getD j (0, 0)).2] := by
  rcases h with ⟨-, rfl, -, -⟩ | ⟨z, c, rfl, rfl, h1, h2, h3⟩
  · simp at hj
  · have hz := hS.sb _ hm z _ (sg_at _ _)
    obtain ⟨e1, e2⟩ := h3 j hj
    rw [Nat.zero_add] at e1 e2
    refine ⟨z, rfl, by rw [rd_of hz, e1], by rw [rd_of hz, e2], ?_⟩
    have hsz : j * 2 + 2 ≤ c.size := by
      have := (Array.getElem?_eq_some_iff.1 e2).1; omega
    rw [rdn_of hz, if_pos hsz]
    congr 1
    apply Array.ext
    · simp
      omega
    · intro i i1 i2
      have hi : i = 0 ∨ i = 1 := by simp at i2; omega
      simp only [Array.getElem_extract]
      rcases hi with rfl | rfl
      · have := (Array.getElem?_eq_some_iff.1 e1).2; simpa using this
      · have := (Array.getElem?_eq_some_iff.1 e2).2; simpa using this
section
variable {P : Program} {W : World} {L : Fr → Hp → Prop} {F : Fr} {H : Hp} {R : List (Nat × Array Value × List Nat)}
end
end Go.Ev
namespace Go.Proofs.YtfdhilnaagpecaaGreat
open Go Go.Ev Go.Pl
def mjB (k : Nat) (a : Option Addr) (n cap : Nat) (words : Int) : Hp := sg k (.cells #[.slice a n cap, .int .i64 words] 58 (0, 0))
abbrev mdR (a : Option Addr) (cap : Nat) (ml : List (Int × Int)) (g : Hp) : Prop := MdR 55 a cap ml g
section
variable {W : World} {H h g : Hp} {l : List Hp} {k cap : Nat} {a : Option Addr} {words : Int}
theorem c_mnew (h0 : 0 ≤ words) (h1 : words ≤ 4096) (hS : Sep l H) :
    CallP Tryz.prog W 13 #[.int .i64 words] H fun v H' => ∃ k, v = .pointer (some ⟨k, 0, none⟩) ∧ Sep (mjB k none 0 0 words :: (fun _ => none) :: l) H' := by
  refine CallP.of mixed Tryz.func13 tr13 (by show 1 ≤ _; decide) fun W _ => ?_
  have d1 : decide (words < 0) = false := decide_eq_false (by omega)
  have d2 : decide (4096 < words) = false := decide_eq_false (by omega)
  simp only [d1, d2, ↓DD, UU, ↓reduceIte, xA, xB, xC, xD, xE, xF, xG, xH, xI, xJ, xK, xL, xM, xN, xO, xP, xQ, ne_eq, eq_self]
  refine newB_intro fun x hx f1 f2 => ?_
  have hS := hS.nothing.new f1 (.cells #[.slice none 0 0, .int .i64 words] 58 (0, 0))
  simp only [↓DD, UU, ↓reduceIte, xA, xB, xC, xD, xE, xF, xG, xH, xI, xJ, xK, xL, xM, xN, xO, xP, xQ, ne_eq, eq_self]
  exact ⟨x, rfl, hS⟩
theorem rds_one {H : Hp} {y : Nat} {T : TypeId} {v1 v2 : Value} (h : H y = some (.cells #[v1, v2] T (0, 0))) : rds H (some ⟨y, 0, none⟩) (1 * 2) = some #[v1, v2] := by
  show rdn H y 0 2 = _
  rw [rdn_of h]; rfl
def mtI (k : Nat) (a : Option Addr) (cap : Nat) (words at' n : Int) (pl L : Nat) (g : Hp) (l : List Hp) (F' : Fr) (H' : Hp) : Prop :=
  ∃ i : Nat, i ≤ L ∧ gt F' 8 = .int .i64 (i : Int) ∧ gt F' 7 = .int .i64 ((min i pl : Nat) : Int) ∧ (gt F' 0 = .pointer (some ⟨k, 0, none⟩) ∧ gt F' 1 = .int .i64 at' ∧ gt F' 2 = .int .i64 n ∧ gt F' 6 = .bool false) ∧ Sep (mjB k a L cap words :: g :: l) H'
theorem c_mtake {at' n : Int} {pre post : List (Int × Int)} (hm : mdR a cap (pre ++ post) g) (hw : words ≤ 4096) (hL : (pre ++ post).length ≤ 2000)
    (h0 : 0 ≤ at') (h1 : 1 ≤ n) (h2 : at' + n ≤ words) (hpre : ∀ b ∈ pre, 0 ≤ b.1 ∧ 1 ≤ b.2 ∧ b.1 + b.2 ≤ at') (hpost : ∀ b ∈ post, at' + n ≤ b.1 ∧ 1 ≤ b.2 ∧ b.1 + b.2 ≤ words) (hS : Sep (mjB k a (pre ++ post).length cap words :: g :: l) H) :
    CallP Tryz.prog W 17 #[.pointer (some ⟨k, 0, none⟩), .int .i64 at', .int .i64 n] H fun v H' => v = .bool true ∧ ∃ a' cap' g', mdR a' cap' (pre ++ [(at', n)] ++ post) g' ∧ Sep (mjB k a' (pre ++ [(at', n)] ++ post).length cap' words :: g' :: l) H' := by
  refine CallP.of mixed Tryz.func17 tr17 (by show 3 ≤ _; decide) fun W _ => ?_
  have hk := hS.look
  have rk := fun o => rd_of hk o
  have d1 : decide (n < 1) = false := decide_eq_false (by omega)
  have d2 : decide (at' < 0) = false := decide_eq_false (by omega)
  have d3 : decide (words < at') = false := decide_eq_false (by omega)
  have w1 : w64 (words - at') = words - at' := w64_eq (by omega) (by omega)
  have d4 : decide (words - at' < n) = false := decide_eq_false (by omega)
  simp only [hk, rk, d1, d2, d3, w1, wrap_w64, d4, ↓DD, UU, ↓reduceIte, xA, xB, xC, xD, xE, xF, xG, xH, xI, xJ, xK, xL, xM, xN, xO, xP, xQ, ne_eq, eq_self]
  obtain ⟨L, hLL⟩ : ∃ L, (pre ++ post).length = L := ⟨_, rfl⟩
  have hlen : pre.length + post.length = L := by rw [← hLL, List.length_append]
  rw [hLL] at hS hL
  refine loop_intro (mtI k a cap words at' n pre.length L g l) (fun F' _ => (L - iv (gt F' 8)).toNat)
    ⟨0, by omega, by simp [gt], by simp [gt], ⟨by simp [gt], by simp [gt], by simp [gt], by simp [gt]⟩, hS⟩ ?_
  clear hS hk rk
  rintro F' H' ⟨i, hi, e8, e7, ⟨e0, e1, e2, e6⟩, hS⟩
  have hk := hS.look
  have rk := fun o => rd_of hk o
  have i0 : (0 : Int) ≤ (i : Int) := by omega
  by_cases hlt : (i : Int) < (L : Int)
  · have dl : decide ((i : Int) < (L : Int)) = true := decide_eq_true hlt
    obtain ⟨z, rfl, hr1, hr2, hr3⟩ := hm.cell hS (by simp) (j := i) (by omega)
    obtain ⟨b, hb⟩ : ∃ b, (pre ++ post).getD i (0, 0) = b := ⟨_, rfl⟩
    rw [hb] at hr1 hr2 hr3
    simp only [e8, e7, e0, e1, e2, hk, rk, dl, i0, hlt, Int.toNat_natCast, hr3, ↓DD, UU, ↓reduceIte, xA, xB, xC, xD, xE, xF, xG, xH, xI, xJ, xK, xL, xM, xN, xO, xP, xQ, ne_eq, eq_self]
    refine newB_intro fun y hy f1 f2 => ?_
    have hS2 := hS.new f1 (.cells #[.int .i64 b.1, .int .i64 b.2] 55 (0, 0))
    have hy1 := hS2.look
    have ry := fun o => rd_of hy1 o
    have wi : w64 ((i : Int) + 1) = (i : Int) + 1 := w64_eq (by omega) (by omega)
    have w2 : w64 (at' + n) = at' + n := w64_eq (by omega) (by omega)
    have hbm : b ∈ pre ++ post := by
      rw [← hb, List.getD_eq_getElem?_getD, List.getElem?_eq_getElem (by omega)]
      exact List.getElem_mem _
    have hbb : 0 ≤ b.1 ∧ b.1 ≤ 4096 ∧ 1 ≤ b.2 ∧ b.2 ≤ 4096 := by
      rcases List.mem_append.1 hbm with h | h
      · have := hpre b h; omega
      · have := hpost b h; omega
    have w3 : w64 (b.1 + b.2) = b.1 + b.2 := w64_eq (by omega) (by omega)
    have hS2 := hS2.tail
    by_cases hip : i < pre.length
    · have hbp : b ∈ pre := by
        rw [← hb, getD_app, if_pos hip, List.getD_eq_getElem?_getD, List.getElem?_eq_getElem hip]
        exact List.getElem_mem _
      have hx := hpre b hbp
      have d5 : decide (b.1 < at' + n) = true := decide_eq_true (by omega)
      have d6 : decide (at' < b.1 + b.2) = false := decide_eq_false (by omega)
      have d7 : decide (b.1 < at') = true := decide_eq_true (by omega)
      have em : ((min (i + 1) pre.length : Nat) : Int) = (i : Int) + 1 := by omega
      simp only [Ev.upd_upd, e8, e7, e0, e1, e2, hy1, ry, wrap_w64, w2, w3, wi, d5, d6, d7, ↓DD, UU, ↓reduceIte, xA, xB, xC, xD, xE, xF, xG, xH, xI, xJ, xK, xL, xM, xN, xO, xP, xQ, ne_eq, eq_self]
      exact ⟨⟨i + 1, by omega, by simp [gt], by rw [em]; simp [gt], ⟨by simp [gt, e0], by simp [gt, e1], by simp [gt, e2], by simp [gt, e6]⟩, hS2⟩, by simp [gt, iv, e8]; omega⟩
    · have hbp : b ∈ post := by
        rw [← hb, getD_app, if_neg hip, List.getD_eq_getElem?_getD, List.getElem?_eq_getElem (by omega)]
        exact List.getElem_mem _
      have hx := hpost b hbp
      have d5 : decide (b.1 < at' + n) = false := decide_eq_false (by omega)
      have d7 : decide (b.1 < at') = false := decide_eq_false (by omega)
      have em : min (i + 1) pre.length = min i pre.length := by omega
      simp only [Ev.upd_upd, e8, e7, e0, e1, e2, hy1, ry, wrap_w64, w2, w3, wi, d5, d7, ↓DD, UU, ↓reduceIte, xA, xB, xC, xD, xE, xF, xG, xH, xI, xJ, xK, xL, xM, xN, xO, xP, xQ, ne_eq, eq_self]
      exact ⟨⟨i + 1, by omega, by simp [gt], by rw [em]; simp [gt, e7], ⟨by simp [gt, e0], by simp [gt, e1], by simp [gt, e2], by simp [gt, e6]⟩, hS2⟩, by simp [gt, iv, e8]; omega⟩
  have dl : decide ((i : Int) < (L : Int)) = false := decide_eq_false hlt
  have hmin : min i pre.length = pre.length := by omega
  rw [hmin] at e7
  simp only [e8, e7, e0, e1, e2, hk, rk, dl, ↓DD, UU, ↓reduceIte, xA, xB, xC, xD, xE, xF, xG, xH, xI, xJ, xK, xL, xM, xN, xO, xP, xQ, ne_eq, eq_self]
  obtain ⟨pl, hpl⟩ : ∃ pl, pre.length = pl := ⟨_, rfl⟩
  obtain ⟨ql, hql⟩ : ∃ ql, post.length = ql := ⟨_, rfl⟩
  have hcap := hm.len
  rw [hpl] at e7 hlen
  rw [hql] at hlen
  rw [hLL] at hcap
  have q0 : (0 : Int) ≤ (pl : Int) := by omega
  have q1 : (pl : Int) ≤ (cap : Int) := by omega
  have q2 : (pl : Int) ≤ (L : Int) := by omega
  have q3 : (L : Int) ≤ (cap : Int) := by omega
  have q4 : L - pl = ql := by omega
  obtain ⟨new1, hr1, hs1, hp1⟩ := hm.part hS (by simp) 0 pl (by omega)
  obtain ⟨new2, hr2, hs2, hp2⟩ := hm.part hS (by simp) pl ql (by omega)
  have z0 : (0 : Int) ≤ 0 := Int.le_refl _
  refine draw_cut [(k, #[.slice a L cap, .int .i64 words], [])] (fun F' H' => gt F' 6 = .bool false ∧ ∃ a' cap' g', mdR a' cap' (pre ++ [(at', n)] ++ post) g' ∧ Sep (mjB k a' (pre ++ [(at', n)] ++ post).length cap' words :: g' :: l) H') (by simp only [hk, ↓DD, UU, ↓reduceIte, xA, xB, xC, xD, xE, xF, xG, xH, xI, xJ, xK, xL, xM, xN, xO, xP, xQ, ne_eq, eq_self]) ?_ ?_
  · simp only [e8, e7, e0, e1, e2, hk, rk, q0, q1, q2, q3, q4, z0, Int.toNat_natCast, ↓e_dalt2, ↓DD, UU, ↓reduceIte, xA, xB, xC, xD, xE, xF, xG, xH, xI, xJ, xK, xL, xM, xN, xO, xP, xQ, ne_eq, eq_self]
    have e1' : ((pre ++ post).drop 0).take pl = pre := by rw [← hpl]; simp
    have e2' : ((pre ++ post).drop pl).take ql = post := by rw [← hpl, ← hql]; simp
    rw [e1'] at hp1
    have e3 : pl - 0 + 1 + ql = (pre ++ [(at', n)] ++ post).length := by simp; omega
    have hp0 : Prs #[.int .i64 at', .int .i64 n] 0 [(at', n)] := fun j hj => by
      have hj : j < 1 := hj
      have : j = 0 := by omega
      subst this; exact ⟨rfl, rfl⟩
    have hr1' : rds H' (if cap = 0 then a else Option.map (fun x => x.add 0) a) ((pl - 0) * 2) = some new1 := hr1
    refine ⟨?_, ?_⟩
    · rw [hr1']
      refine md_app (T := 55) (ml := []) (nl := pre) (L := 0) (n := pl - 0) rfl (by omega) (.inl ⟨rfl, rfl, rfl, rfl⟩) (by rw [hs1, hpl]) hp1 (by omega) hS.nothing (fun g1 H1 hG1 hS => ?_) (fun old1 c1 b1 hG1 hS => ?_)
      · clear hk
        have hk := hS.tail.look
        simp only [hk, ↓DD, UU, ↓reduceIte, xA, xB, xC, xD, xE, xF, xG, xH, xI, xJ, xK, xL, xM, xN, xO, xP, xQ, ne_eq, eq_self]
        refine newB_intro fun y hy f1 f2 => ?_
        have hS := hS.new f1 (.cells #[.int .i64 at', .int .i64 n] 55 (0, 0))
        have hry := rds_one hS.look
        obtain ⟨Hy, hHy⟩ : ∃ HH, upd H1 y (.cells #[.int .i64 at', .int .i64 n] 55 (0, 0)) = HH := ⟨_, rfl⟩
        rw [hHy] at hS hry ⊢
        have hk := hS.tail.tail.look
        simp only [hk, hry, ↓DD, UU, ↓reduceIte, xA, xB, xC, xD, xE, xF, xG, xH, xI, xJ, xK, xL, xM, xN, xO, xP, xQ, ne_eq, eq_self]
        refine md_app0 (T := 55) (ml := pre) (L := pl - 0) (v := (at', n)) (by omega) hG1 rfl hp0 (by omega) hS.p1 (fun old2 c2 b2 hG2 hS => ?_)
        clear hk
        obtain ⟨H2, hH2⟩ : ∃ HH, upd Hy b2 (.cells (old2 ++ #[.int .i64 at', .int .i64 n] ++ Builtin.zeroCells #[.int .i64 0, .int .i64 0] (c2 - (pl - 0 + 1))) 55 (0, 0)) = HH := ⟨_, rfl⟩
        rw [hH2] at hS ⊢
        have hk := hS.tail.tail.look
        obtain ⟨new3, hr3, hs3, hp3⟩ := hm.part hS (by simp) pl ql (by omega)
        rw [e2'] at hp3
        have hr3' : rds H2 (if cap = pl then a else Option.map (fun x => x.add (pl * 2)) a) (ql * 2) = some new3 := hr3
        simp only [hk, hr3', ↓DD, UU, ↓reduceIte, xA, xB, xC, xD, xE, xF, xG, xH, xI, xJ, xK, xL, xM, xN, xO, xP, xQ, ne_eq, eq_self]
        refine md_app (T := 55) (ml := pre ++ [(at', n)]) (nl := post) (by rw [List.length_append, hpl]; show _ = pl + 1; omega) hql.symm hG2 (by rw [hs3, hql]) hp3 (by omega) hS (fun g3 H3 hG3 hS => ?_) (fun old3 c3 b3 hG3 hS => ?_)
        · clear hk
          have hk := hS.tail.tail.look
          simp only [hk, e3, ↓DD, UU, ↓reduceIte, xA, xB, xC, xD, xE, xF, xG, xH, xI, xJ, xK, xL, xM, xN, xO, xP, xQ, ne_eq, eq_self]
          exact ⟨by simp [gt, e6], _, _, _, hG3, (hS.p2.set _).p2.tail.p2.tail⟩
        · clear hk
          obtain ⟨H3, hH3⟩ : ∃ HH, upd H2 b3 (.cells (old3 ++ new3 ++ Builtin.zeroCells #[.int .i64 0, .int .i64 0] (c3 - (pl - 0 + 1 + ql))) 55 (0, 0)) = HH := ⟨_, rfl⟩
          rw [hH3] at hS ⊢
          have hk := hS.tail.tail.look
          simp only [hk, e3, ↓DD, UU, ↓reduceIte, xA, xB, xC, xD, xE, xF, xG, xH, xI, xJ, xK, xL, xM, xN, xO, xP, xQ, ne_eq, eq_self]
          exact ⟨by simp [gt, e6], _, _, _, hG3, (hS.p2.set _).p2.tail.p2.tail⟩
      · clear hk
        obtain ⟨H1, hH1⟩ : ∃ HH, upd H' b1 (.cells (old1 ++ new1 ++ Builtin.zeroCells #[.int .i64 0, .int .i64 0] (c1 - (0 + (pl - 0)))) 55 (0, 0)) = HH := ⟨_, rfl⟩
        rw [hH1] at hS ⊢
        have hk := hS.tail.look
        simp only [hk, ↓DD, UU, ↓reduceIte, xA, xB, xC, xD, xE, xF, xG, xH, xI, xJ, xK, xL, xM, xN, xO, xP, xQ, ne_eq, eq_self]
        refine newB_intro fun y hy f1 f2 => ?_
        have hS := hS.new f1 (.cells #[.int .i64 at', .int .i64 n] 55 (0, 0))
        have hry := rds_one hS.look
        obtain ⟨Hy, hHy⟩ : ∃ HH, upd H1 y (.cells #[.int .i64 at', .int .i64 n] 55 (0, 0)) = HH := ⟨_, rfl⟩
        rw [hHy] at hS hry ⊢
        have hk := hS.tail.tail.look
        simp only [hk, hry, ↓DD, UU, ↓reduceIte, xA, xB, xC, xD, xE, xF, xG, xH, xI, xJ, xK, xL, xM, xN, xO, xP, xQ, ne_eq, eq_self]
        refine md_app1 (T := 55) (ml := pre) (L := pl - 0) (v := (at', n)) (by omega) hG1 rfl hp0 (by omega) hS.p1 (fun g2 H2 hG2 hS => ?_) (fun old2 c2 b2 hG2 hS => ?_)
        · clear hk
          have hk := hS.tail.tail.look
          obtain ⟨new3, hr3, hs3, hp3⟩ := hm.part hS (by simp) pl ql (by omega)
          rw [e2'] at hp3
          have hr3' : rds H2 (if cap = pl then a else Option.map (fun x => x.add (pl * 2)) a) (ql * 2) = some new3 := hr3
          simp only [hk, hr3', ↓DD, UU, ↓reduceIte, xA, xB, xC, xD, xE, xF, xG, xH, xI, xJ, xK, xL, xM, xN, xO, xP, xQ, ne_eq, eq_self]
          refine md_app (T := 55) (ml := pre ++ [(at', n)]) (nl := post) (by rw [List.length_append, hpl]; show _ = pl + 1; omega) hql.symm hG2 (by rw [hs3, hql]) hp3 (by omega) hS (fun g3 H3 hG3 hS => ?_) (fun old3 c3 b3 hG3 hS => ?_)
          · clear hk
            have hk := hS.tail.tail.look
            simp only [hk, e3, ↓DD, UU, ↓reduceIte, xA, xB, xC, xD, xE, xF, xG, xH, xI, xJ, xK, xL, xM, xN, xO, xP, xQ, ne_eq, eq_self]
            exact ⟨by simp [gt, e6], _, _, _, hG3, (hS.p2.set _).p2.tail.p2.tail⟩
          · clear hk
            obtain ⟨H3, hH3⟩ : ∃ HH, upd H2 b3 (.cells (old3 ++ new3 ++ Builtin.zeroCells #[.int .i64 0, .int .i64 0] (c3 - (pl - 0 + 1 + ql))) 55 (0, 0)) = HH := ⟨_, rfl⟩
            rw [hH3] at hS ⊢
            have hk := hS.tail.tail.look
            simp only [hk, e3, ↓DD, UU, ↓reduceIte, xA, xB, xC, xD, xE, xF, xG, xH, xI, xJ, xK, xL, xM, xN, xO, xP, xQ, ne_eq, eq_self]
            exact ⟨by simp [gt, e6], _, _, _, hG3, (hS.p2.set _).p2.tail.p2.tail⟩
        · clear hk
          obtain ⟨H2, hH2⟩ : ∃ HH, upd Hy b2 (.cells (old2 ++ #[.int .i64 at', .int .i64 n] ++ Builtin.zeroCells #[.int .i64 0, .int .i64 0] (c2 - (pl - 0 + 1))) 55 (0, 0)) = HH := ⟨_, rfl⟩
          rw [hH2] at hS ⊢
          have hk := hS.tail.tail.look
          obtain ⟨new3, hr3, hs3, hp3⟩ := hm.part hS (by simp) pl ql (by omega)
          rw [e2'] at hp3
          have hr3' : rds H2 (if cap = pl then a else Option.map (fun x => x.add (pl * 2)) a) (ql * 2) = some new3 := hr3
          simp only [hk, hr3', ↓DD, UU, ↓reduceIte, xA, xB, xC, xD, xE, xF, xG, xH, xI, xJ, xK, xL, xM, xN, xO, xP, xQ, ne_eq, eq_self]
          refine md_app (T := 55) (ml := pre ++ [(at', n)]) (nl := post) (by rw [List.length_append, hpl]; show _ = pl + 1; omega) hql.symm hG2 (by rw [hs3, hql]) hp3 (by omega) hS (fun g3 H3 hG3 hS => ?_) (fun old3 c3 b3 hG3 hS => ?_)
          · clear hk
            have hk := hS.tail.tail.look
            simp only [hk, e3, ↓DD, UU, ↓reduceIte, xA, xB, xC, xD, xE, xF, xG, xH, xI, xJ, xK, xL, xM, xN, xO, xP, xQ, ne_eq, eq_self]
            exact ⟨by simp [gt, e6], _, _, _, hG3, (hS.p2.set _).p2.tail.p2.tail⟩
          · clear hk
            obtain ⟨H3, hH3⟩ : ∃ HH, upd H2 b3 (.cells (old3 ++ new3 ++ Builtin.zeroCells #[.int .i64 0, .int .i64 0] (c3 - (pl - 0 + 1 + ql))) 55 (0, 0)) = HH := ⟨_, rfl⟩
            rw [hH3] at hS ⊢
            have hk := hS.tail.tail.look
            simp only [hk, e3, ↓DD, UU, ↓reduceIte, xA, xB, xC, xD, xE, xF, xG, xH, xI, xJ, xK, xL, xM, xN, xO, xP, xQ, ne_eq, eq_self]
            exact ⟨by simp [gt, e6], _, _, _, hG3, (hS.p2.set _).p2.tail.p2.tail⟩
    · refine newB_intro fun y hy f1 f2 => ?_
      have hS := hS.new f1 (.cells #[.int .i64 at', .int .i64 n] 55 (0, 0))
      have hry := rds_one hS.look
      obtain ⟨Hy, hHy⟩ : ∃ HH, upd H' y (.cells #[.int .i64 at', .int .i64 n] 55 (0, 0)) = HH := ⟨_, rfl⟩
      rw [hHy] at hS hry ⊢
      have hk := hS.tail.look
      obtain ⟨new4, hr4, hs4, hp4⟩ := hm.part hS (by simp) 0 pl (by omega)
      rw [e1'] at hp4
      have hr4' : rds Hy (if cap = 0 then a else Option.map (fun x => x.add 0) a) ((pl - 0) * 2) = some new4 := hr4
      simp only [hk, hr4', ↓DD, UU, ↓reduceIte, xA, xB, xC, xD, xE, xF, xG, xH, xI, xJ, xK, xL, xM, xN, xO, xP, xQ, ne_eq, eq_self]
      refine md_appZ (T := 55) (nl := pre) (n := pl - 0) (by omega) (by rw [hs4, hpl]) hp4 (by omega) hS (fun g1 H1 hG1 hS => ?_) (fun old1 c1 b1 hG1 hS => ?_)
      · clear hk
        have hk := hS.tail.tail.look
        have hry := rds_one hS.tail.look
        simp only [hk, hry, ↓DD, UU, ↓reduceIte, xA, xB, xC, xD, xE, xF, xG, xH, xI, xJ, xK, xL, xM, xN, xO, xP, xQ, ne_eq, eq_self]
        refine md_app0 (T := 55) (ml := pre) (L := pl - 0) (v := (at', n)) (by omega) hG1 rfl hp0 (by omega) hS (fun old2 c2 b2 hG2 hS => ?_)
        clear hk
        obtain ⟨H2, hH2⟩ : ∃ HH, upd H1 b2 (.cells (old2 ++ #[.int .i64 at', .int .i64 n] ++ Builtin.zeroCells #[.int .i64 0, .int .i64 0] (c2 - (pl - 0 + 1))) 55 (0, 0)) = HH := ⟨_, rfl⟩
        rw [hH2] at hS ⊢
        have hk := hS.tail.tail.look
        obtain ⟨new3, hr3, hs3, hp3⟩ := hm.part hS (by simp) pl ql (by omega)
        rw [e2'] at hp3
        have hr3' : rds H2 (if cap = pl then a else Option.map (fun x => x.add (pl * 2)) a) (ql * 2) = some new3 := hr3
        simp only [hk, hr3', ↓DD, UU, ↓reduceIte, xA, xB, xC, xD, xE, xF, xG, xH, xI, xJ, xK, xL, xM, xN, xO, xP, xQ, ne_eq, eq_self]
        refine md_app (T := 55) (ml := pre ++ [(at', n)]) (nl := post) (by rw [List.length_append, hpl]; show _ = pl + 1; omega) hql.symm hG2 (by rw [hs3, hql]) hp3 (by omega) hS (fun g3 H3 hG3 hS => ?_) (fun old3 c3 b3 hG3 hS => ?_)
        · clear hk
          have hk := hS.tail.tail.look
          simp only [hk, e3, ↓DD, UU, ↓reduceIte, xA, xB, xC, xD, xE, xF, xG, xH, xI, xJ, xK, xL, xM, xN, xO, xP, xQ, ne_eq, eq_self]
          exact ⟨by simp [gt, e6], _, _, _, hG3, (hS.p2.set _).p2.tail.p2.tail⟩
        · clear hk
          obtain ⟨H3, hH3⟩ : ∃ HH, upd H2 b3 (.cells (old3 ++ new3 ++ Builtin.zeroCells #[.int .i64 0, .int .i64 0] (c3 - (pl - 0 + 1 + ql))) 55 (0, 0)) = HH := ⟨_, rfl⟩
          rw [hH3] at hS ⊢
          have hk := hS.tail.tail.look
          simp only [hk, e3, ↓DD, UU, ↓reduceIte, xA, xB, xC, xD, xE, xF, xG, xH, xI, xJ, xK, xL, xM, xN, xO, xP, xQ, ne_eq, eq_self]
          exact ⟨by simp [gt, e6], _, _, _, hG3, (hS.p2.set _).p2.tail.p2.tail⟩
      · clear hk
        obtain ⟨H1, hH1⟩ : ∃ HH, upd Hy b1 (.cells (old1 ++ new4 ++ Builtin.zeroCells #[.int .i64 0, .int .i64 0] (c1 - (0 + (pl - 0)))) 55 (0, 0)) = HH := ⟨_, rfl⟩
        rw [hH1] at hS ⊢
        have hk := hS.tail.tail.look
        have hry := rds_one hS.tail.look
        simp only [hk, hry, ↓DD, UU, ↓reduceIte, xA, xB, xC, xD, xE, xF, xG, xH, xI, xJ, xK, xL, xM, xN, xO, xP, xQ, ne_eq, eq_self]
        refine md_app1 (T := 55) (ml := pre) (L := pl - 0) (v := (at', n)) (by omega) hG1 rfl hp0 (by omega) hS (fun g2 H2 hG2 hS => ?_) (fun old2 c2 b2 hG2 hS => ?_)
        · clear hk
          have hk := hS.tail.tail.look
          obtain ⟨new3, hr3, hs3, hp3⟩ := hm.part hS (by simp) pl ql (by omega)
          rw [e2'] at hp3
          have hr3' : rds H2 (if cap = pl then a else Option.map (fun x => x.add (pl * 2)) a) (ql * 2) = some new3 := hr3
          simp only [hk, hr3', ↓DD, UU, ↓reduceIte, xA, xB, xC, xD, xE, xF, xG, xH, xI, xJ, xK, xL, xM, xN, xO, xP, xQ, ne_eq, eq_self]
          refine md_app (T := 55) (ml := pre ++ [(at', n)]) (nl := post) (by rw [List.length_append, hpl]; show _ = pl + 1; omega) hql.symm hG2 (by rw [hs3, hql]) hp3 (by omega) hS (fun g3 H3 hG3 hS => ?_) (fun old3 c3 b3 hG3 hS => ?_)
          · clear hk
            have hk := hS.tail.tail.look
            simp only [hk, e3, ↓DD, UU, ↓reduceIte, xA, xB, xC, xD, xE, xF, xG, xH, xI, xJ, xK, xL, xM, xN, xO, xP, xQ, ne_eq, eq_self]
            exact ⟨by simp [gt, e6], _, _, _, hG3, (hS.p2.set _).p2.tail.p2.tail⟩
          · clear hk
            obtain ⟨H3, hH3⟩ : ∃ HH, upd H2 b3 (.cells (old3 ++ new3 ++ Builtin.zeroCells #[.int .i64 0, .int .i64 0] (c3 - (pl - 0 + 1 + ql))) 55 (0, 0)) = HH := ⟨_, rfl⟩
            rw [hH3] at hS ⊢
            have hk := hS.tail.tail.look
            simp only [hk, e3, ↓DD, UU, ↓reduceIte, xA, xB, xC, xD, xE, xF, xG, xH, xI, xJ, xK, xL, xM, xN, xO, xP, xQ, ne_eq, eq_self]
            exact ⟨by simp [gt, e6], _, _, _, hG3, (hS.p2.set _).p2.tail.p2.tail⟩
        · clear hk
          obtain ⟨H2, hH2⟩ : ∃ HH, upd H1 b2 (.cells (old2 ++ #[.int .i64 at', .int .i64 n] ++ Builtin.zeroCells #[.int .i64 0, .int .i64 0] (c2 - (pl - 0 + 1))) 55 (0, 0)) = HH := ⟨_, rfl⟩
          rw [hH2] at hS ⊢
          have hk := hS.tail.tail.look
          obtain ⟨new3, hr3, hs3, hp3⟩ := hm.part hS (by simp) pl ql (by omega)
          rw [e2'] at hp3
          have hr3' : rds H2 (if cap = pl then a else Option.map (fun x => x.add (pl * 2)) a) (ql * 2) = some new3 := hr3
          simp only [hk, hr3', ↓DD, UU, ↓reduceIte, xA, xB, xC, xD, xE, xF, xG, xH, xI, xJ, xK, xL, xM, xN, xO, xP, xQ, ne_eq, eq_self]
          refine md_app (T := 55) (ml := pre ++ [(at', n)]) (nl := post) (by rw [List.length_append, hpl]; show _ = pl + 1; omega) hql.symm hG2 (by rw [hs3, hql]) hp3 (by omega) hS (fun g3 H3 hG3 hS => ?_) (fun old3 c3 b3 hG3 hS => ?_)
          · clear hk
            have hk := hS.tail.tail.look
            simp only [hk, e3, ↓DD, UU, ↓reduceIte, xA, xB, xC, xD, xE, xF, xG, xH, xI, xJ, xK, xL, xM, xN, xO, xP, xQ, ne_eq, eq_self]
            exact ⟨by simp [gt, e6], _, _, _, hG3, (hS.p2.set _).p2.tail.p2.tail⟩
          · clear hk
            obtain ⟨H3, hH3⟩ : ∃ HH, upd H2 b3 (.cells (old3 ++ new3 ++ Builtin.zeroCells #[.int .i64 0, .int .i64 0] (c3 - (pl - 0 + 1 + ql))) 55 (0, 0)) = HH := ⟨_, rfl⟩
            rw [hH3] at hS ⊢
            have hk := hS.tail.tail.look
            simp only [hk, e3, ↓DD, UU, ↓reduceIte, xA, xB, xC, xD, xE, xF, xG, xH, xI, xJ, xK, xL, xM, xN, xO, xP, xQ, ne_eq, eq_self]
            exact ⟨by simp [gt, e6], _, _, _, hG3, (hS.p2.set _).p2.tail.p2.tail⟩
  · rintro F' H' ⟨e6, a', cap', g', hG, hS⟩
    simp only [↓DD, UU, ↓reduceIte, xA, xB, xC, xD, xE, xF, xG, xH, xI, xJ, xK, xL, xM, xN, xO, xP, xQ, ne_eq, eq_self]
    exact ⟨a', cap', g', hG, hS⟩
def mgI (k : Nat) (a : Option Addr) (cap : Nat) (words at' : Int) (pl L : Nat) (r : Value) (g : Hp) (l : List Hp) (F' : Fr) (H' : Hp) : Prop :=
  ∃ i : Nat, i ≤ pl ∧ gt F' 5 = .int .i64 (i : Int) ∧ (gt F' 0 = .pointer (some ⟨k, 0, none⟩) ∧ gt F' 1 = .int .i64 at' ∧ gt F' 4 = r) ∧ Sep (mjB k a L cap words :: g :: l) H'
def maI (k : Nat) (a : Option Addr) (cap : Nat) (words at' : Int) (pl L x : Nat) (g : Hp) (l : List Hp) (F' : Fr) (H' : Hp) : Prop :=
  ∃ i : Nat, i ≤ pl ∧ gt F' 6 = .int .i64 (i : Int) ∧ (gt F' 0 = .pointer (some ⟨k, 0, none⟩) ∧ gt F' 1 = .int .i64 at' ∧ gt F' 4 = .pointer (some ⟨x, 0, none⟩)) ∧ Sep (sg x (.cells #[.int .i64 0, .int .i64 0] 55 (0, 0)) :: mjB k a L cap words :: g :: l) H'
end
end Go.Proofs.YtfdhilnaagpecaaGreat
