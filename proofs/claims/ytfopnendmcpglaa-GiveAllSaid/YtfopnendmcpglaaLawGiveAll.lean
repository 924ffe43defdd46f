/-
  GiveAll, walked: in a sound heap any address is given just if a block begins there. Conditions: none.
-/
import Derived.Test.YtfopnendmcpglaaCodeAllotmentlaw16
import Derived.Test.YtfopnendmcpglaaGiveK
import Derived.Test.YtfopnendmcpglaaSoundV
import Derived.Test.YtfopnendmcpglaaBlk
import Derived.Test.YtfopnendmcpglaaMaGiveC
import Derived.Test.YtfopnendmcpglaaRowV
set_option linter.unusedVariables false
set_option linter.unusedSectionVars false
set_option linter.unusedSimpArgs false
set_option maxRecDepth 8000
namespace Go.Proofs.Ytfopnendmcpglaa
open Go Go.Ev Go.Pl Go.Ma

theorem BsL.cell {l : List Hp} {H g : Hp} {a : Option Addr} {cap : Nat} {bl : List (Int × Int)} (h : BsL a cap bl g) (hS : Sep l H) (hm : g ∈ l) {j : Nat} (hj : j < bl.length) :
    ∃ z, a = some ⟨z, 0, none⟩ ∧ rd H z (j * 2) = some (.int .i64 (bl.getD j (0, 0)).1) ∧ rdn H z (j * 2) 2 = some #[.int .i64 (bl.getD j (0, 0)).1, .int .i64 (bl.getD j (0, 0)).2] := by
  rcases h with ⟨-, h, -, -⟩ | ⟨z, c, rfl, rfl, h1, h2, h3⟩
  · omega
  · have hz := hS.sb _ hm z _ (sg_at _ _)
    obtain ⟨e1, e2⟩ := h3 j hj
    refine ⟨z, rfl, by rw [rd_of hz, e1], ?_⟩
    have hsz : j * 2 + 2 ≤ c.size := by
      have := (Array.getElem?_eq_some_iff.1 e2).1; omega
    rw [rdn_of hz, if_pos hsz]
    congr 1
    apply Array.ext
    · simp
      omega
    · intro i i1 i2
      have hi : i = 0 ∨ i = 1 := by simp at i2; omega
      simp only [Array.getElem_extract]
      rcases hi with rfl | rfl
      · have := (Array.getElem?_eq_some_iff.1 e1).2; simpa using this
      · have := (Array.getElem?_eq_some_iff.1 e2).2; simpa using this
theorem eq_pair (u v : Int) : eqL [(0, false), (1, false)] #[.int .i64 u, .int .i64 v] #[.int .i64 u, .int .i64 v] = some true := by simp [eqL, eqS]
/-- The last one that begins there, among the first ones. -/
def ThI (bl : List (Int × Int)) (a : Int) (i : Nat) (th : Int) : Prop := (th = -1 ∧ ∀ j, j < i → (bl.getD j (0, 0)).1 ≠ a) ∨ (0 ≤ th ∧ th < i ∧ (bl.getD th.toNat (0, 0)).1 = a ∧ ∀ j : Nat, th < j → j < i → (bl.getD j (0, 0)).1 ≠ a)
theorem out_at {bl bl' : List (Int × Int)} {a : Int} (h : Out bl bl' a) : ∃ p : Nat, p < bl.length ∧ bl'.length + 1 = bl.length ∧ (∀ j, j < bl.length → ((bl.getD j (0, 0)).1 = a ↔ j = p)) ∧ ∀ j, j < bl'.length → bl'.getD j (0, 0) = bl.getD (if p ≤ j then j + 1 else j) (0, 0) := by
  obtain ⟨pre, post, y, rfl, rfl, hy, h1, h2⟩ := h
  refine ⟨pre.length, by simp, by simp; omega, fun j hj => ?_, fun j hj => ?_⟩
  · simp only [List.getD_eq_getElem?_getD, List.append_assoc]
    rcases Nat.lt_trichotomy j pre.length with g | g | g
    · rw [List.getElem?_append_left g]
      have hm : pre[j] ∈ pre := List.getElem_mem g
      rw [List.getElem?_eq_getElem g]
      constructor
      · intro e; exact absurd e (h1 _ hm)
      · intro e; omega
    · subst g
      rw [List.getElem?_append_right (Nat.le_refl _)]
      simp [hy]
    · rw [List.getElem?_append_right (by omega)]
      obtain ⟨k, hk⟩ : ∃ k, j - pre.length = k + 1 := ⟨j - pre.length - 1, by omega⟩
      rw [hk]
      have hkl : k < post.length := by simp at hj; omega
      have hm : post[k] ∈ post := List.getElem_mem hkl
      simp only [List.cons_append, List.nil_append, List.getElem?_cons_succ, List.getElem?_eq_getElem hkl, Option.getD_some]
      constructor
      · intro e; exact absurd e (h2 _ hm)
      · intro e; omega
  · simp only [List.getD_eq_getElem?_getD, List.append_assoc]
    by_cases g : pre.length ≤ j
    · rw [if_pos g, List.getElem?_append_right g, List.getElem?_append_right (by omega), show j + 1 - pre.length = (j - pre.length) + 1 by omega]
      simp
    · rw [if_neg g, List.getElem?_append_left (by omega), List.getElem?_append_left (by omega)]
theorem snd_row' {sh : Sh} {n : Nat} {ws : Nat → Int} (hm : may sh.p sh.c sh.m = true) (hn : (n : Int) = words sh.p sh.c sh.m) (h : Snd sh ws) : Snd sh (rowW n ws).ws := by
  have hb := (may_iff _ _ _).1 hm
  have hw := words_ge hm hn
  have key : ∀ j : Nat, j < n → (rowW n ws).ws j = ws j := fun j hj => if_pos hj
  refine h.congr hm (fun q q0 q1 => ?_) (fun q i q0 q1 i0 i1 => ?_) (fun c i c0 c1 i0 i1 => ?_)
  · unfold pgAt; rw [page_yes hm q0 q1]; exact key _ (by omega)
  · unfold slAt; exact key _ (by omega)
  · have := Int.mul_le_mul_of_nonneg_right (by omega : c + 1 ≤ sh.c) (by omega : 0 ≤ sh.m)
    rw [Int.add_mul] at this
    have := Int.mul_nonneg c0 (by omega : 0 ≤ sh.m)
    unfold mgAt; exact key _ (by omega)
theorem blks_row' {sh : Sh} {n : Nat} {ws : Nat → Int} (hm : may sh.p sh.c sh.m = true) (hn : (n : Int) = words sh.p sh.c sh.m) {k : Nat} (hk : (k : Int) ≤ sh.p) : blks sh (rowW n ws).ws k = blks sh ws k := by
  have hb := (may_iff _ _ _).1 hm
  have hw := words_ge hm hn
  have key : ∀ j : Nat, j < n → (rowW n ws).ws j = ws j := fun j hj => if_pos hj
  have hp : ∀ q : Nat, (q : Int) < sh.p → pgAt sh (rowW n ws).ws q = pgAt sh ws q := fun q hq => by unfold pgAt; rw [page_yes hm (by omega) hq]; exact key _ (by omega)
  refine blks_congr fun p hp' => blkPg_congr (by rw [hp p (by omega)]) (fun _ => by rw [hp p (by omega)]) fun _ i hi => ?_
  rw [show slAt sh (rowW n ws).ws p i = slAt sh ws p i from key _ (by omega)]
theorem RowU.congr' {h : Hp} {a : Option Addr} {n : Nat} {ws ws' : Nat → Int} (hr : RowU h a n ws) (he : ∀ i, i < n → ws i = ws' i) : RowU h a n ws' := by
  rcases hr with hr | ⟨b, o, rfl, hr⟩
  · exact .inl hr
  · exact .inr ⟨b, o, rfl, fun i hi => by rw [hr i hi, he i hi]⟩
theorem gv_left_new (s : Sh) (c a : Int) (hm : 0 ≤ s.m) : (Gv.new s c a).left ≤ s.m + 13 := by
  unfold Gv.left
  split
  · omega
  · show (if (0 : Int) = 0 then s.m + 13 else _) ≤ _
    rw [if_pos (Eq.refl (0 : Int))]; exact Int.le_refl _
theorem gv_left {t : Gv} {w : Wd} {m : Int} (h : t.wf) (hu : ∀ i, U (w.ws i)) (hl : t.left ≤ max 0 m) : (t.step w).1.left ≤ max 0 (m - 1) := by
  cases hd : t.dn
  · have := Gv.step_left (w := w) h hd; omega
  · rw [Gv.step_dn hd]
    show t.left ≤ _
    have : t.left = 0 := by unfold Gv.left; rw [hd]; rfl
    omega
section
variable {W : World} {H h : Hp} {l : List Hp} {n cap : Nat} {a : Option Addr} {ws : Nat → Int}
def gaG (x z b k n cap bc len : Nat) (a ba : Option Addr) (F' : Fr) : Prop := gt F' 1 = .slice a n cap ∧ gt F' 3 = .pointer (some ⟨x, 0, none⟩) ∧ gt F' 5 = .pointer (some ⟨z, 0, none⟩) ∧ gt F' 7 = .pointer (some ⟨b, 0, none⟩) ∧ gt F' 8 = .pointer (some ⟨k, 0, none⟩) ∧ gt F' 9 = .slice ba len bc
def gaA (bl : List (Int × Int)) (ad : Int) (x z b k n cap bc : Nat) (a ba : Option Addr) (L : List Hp) (F' : Fr) (H' : Hp) : Prop :=
  ∃ (i : Nat) (th : Int), i ≤ bl.length ∧ gt F' 11 = .int .i64 (i : Int) ∧ gt F' 10 = .int .i64 th ∧ gaG x z b k n cap bc bl.length a ba F' ∧ ThI bl ad i th ∧ Sep L H'
def gaB (sh : Sh) (ws0 : Nat → Int) (c ad th : Int) (len : Nat) (x z b k s n cap bc : Nat) (a ba : Option Addr) (L : List Hp) (F' : Fr) (H' : Hp) : Prop :=
  ∃ (i : Int) (kp : Nat) (t : Gv) (w : Wd), 0 ≤ i ∧ i ≤ sh.m + 20 ∧ gt F' 12 = .int .i64 i ∧ gt F' 10 = .int .i64 th ∧ gaG x z b k n cap bc len a ba F' ∧ w.n = n ∧ Gv.Al sh ws0 c ad t w ∧ t.left ≤ max 0 (sh.m + 20 - i) ∧ Sep (gvB k kp t :: puO kp t.put :: wB b s w :: wR s w :: L) H'
def gaC (th : Int) (len len2 : Nat) (x z b k n cap bc bc2 : Nat) (a ba ba2 : Option Addr) (L : List Hp) (F' : Fr) (H' : Hp) : Prop :=
  ∃ i : Nat, i ≤ len2 ∧ gt F' 14 = .int .i64 (i : Int) ∧ gt F' 13 = .slice ba2 len2 bc2 ∧ gt F' 10 = .int .i64 th ∧ gaG x z b k n cap bc len a ba F' ∧ Sep L H'
theorem c_giveall (sh : Sh) (c ad : Int) (hr : RowU h a n ws) (hU : ∀ i, i < n → U (ws i)) (hS : Sep (h :: l) H) :
    CallP Try.prog W 4 #[.agg #[.int .i64 sh.p, .int .i64 sh.c, .int .i64 sh.m], .slice a n cap, .agg #[.int .i64 c, .int .i64 ad]] H fun v H' => v = .bool true ∧ Sep (h :: l) H' := by
  refine CallP.of mixed Try.func4 tr4 (by show 3 ≤ _; decide) fun W _ => ?_
  simp only [↓D0, ↓D1, ↓D2, ↓D3, ↓D4, ↓D5, ↓D6, ↓D7, ↓D8, ↓D9, ↓D10, U0, U1, U2, U3, U4, U5, U6, U7, U8, U9, U10, ↓reduceIte, Nat.reduceAdd, Nat.reduceMul, Nat.reduceSub, Nat.reduceEqDiff, Nat.reduceBEq, Nat.reduceLeDiff, Nat.reduceLT, Int.reduceAdd, Int.reduceMul, Int.reduceSub, Int.reduceLT, Int.reduceLE, Int.reduceToNat, Int.reduceEq, Int.reduceNe, Int.reduceBEq, Int.reduceBNe, ne_eq, eq_self]
  refine newB_intro fun x hx f1 f2 => ?_
  simp only [↓D0, ↓D1, ↓D2, ↓D3, ↓D4, ↓D5, ↓D6, ↓D7, ↓D8, ↓D9, ↓D10, U0, U1, U2, U3, U4, U5, U6, U7, U8, U9, U10, ↓reduceIte, Nat.reduceAdd, Nat.reduceMul, Nat.reduceSub, Nat.reduceEqDiff, Nat.reduceBEq, Nat.reduceLeDiff, Nat.reduceLT, Int.reduceAdd, Int.reduceMul, Int.reduceSub, Int.reduceLT, Int.reduceLE, Int.reduceToNat, Int.reduceEq, Int.reduceNe, Int.reduceBEq, Int.reduceBNe, ne_eq, eq_self]
  refine newB_intro fun z hz f3 f4 => ?_
  simp only [↓D0, ↓D1, ↓D2, ↓D3, ↓D4, ↓D5, ↓D6, ↓D7, ↓D8, ↓D9, ↓D10, U0, U1, U2, U3, U4, U5, U6, U7, U8, U9, U10, ↓reduceIte, Nat.reduceAdd, Nat.reduceMul, Nat.reduceSub, Nat.reduceEqDiff, Nat.reduceBEq, Nat.reduceLeDiff, Nat.reduceLT, Int.reduceAdd, Int.reduceMul, Int.reduceSub, Int.reduceLT, Int.reduceLE, Int.reduceToNat, Int.reduceEq, Int.reduceNe, Int.reduceBEq, Int.reduceBNe, ne_eq, eq_self]
  have hS := (hS.new f1 (.cells #[.int .i64 sh.p, .int .i64 sh.c, .int .i64 sh.m] 23 (0, 0))).new f3 (.cells #[.int .i64 c, .int .i64 ad] 25 (0, 0))
  have nzx := hS.neq 0 1 (by decide) rfl rfl
  have nxz := hS.qen 0 1 (by decide) rfl rfl
  refine callT_of (c_awake16 hS) ?_
  rintro v H' ⟨rfl, hS⟩
  have hx1 := hS.lk 1 rfl
  have r0 := fun o => rd_of hx1 o
  have r1 := fun o n => rdn_of hx1 o n
  simp only [hx1, r1, ↓D0, ↓D1, ↓D2, ↓D3, ↓D4, ↓D5, ↓D6, ↓D7, ↓D8, ↓D9, ↓D10, U0, U1, U2, U3, U4, U5, U6, U7, U8, U9, U10, ↓reduceIte, Nat.reduceAdd, Nat.reduceMul, Nat.reduceSub, Nat.reduceEqDiff, Nat.reduceBEq, Nat.reduceLeDiff, Nat.reduceLT, Int.reduceAdd, Int.reduceMul, Int.reduceSub, Int.reduceLT, Int.reduceLE, Int.reduceToNat, Int.reduceEq, Int.reduceNe, Int.reduceBEq, Int.reduceBNe, ne_eq, eq_self]
  refine callT_of (c_fair (sh := sh) hS) ?_
  rintro v H' ⟨rfl, hS⟩
  have hx1 := hS.lk 1 rfl
  have r0 := fun o => rd_of hx1 o
  have r1 := fun o n => rdn_of hx1 o n
  cases hfair : (may sh.p sh.c sh.m && ((n : Int) == words sh.p sh.c sh.m))
  · simp only [hfair, ↓D0, ↓D1, ↓D2, ↓D3, ↓D4, ↓D5, ↓D6, ↓D7, ↓D8, ↓D9, ↓D10, U0, U1, U2, U3, U4, U5, U6, U7, U8, U9, U10, ↓reduceIte, Nat.reduceAdd, Nat.reduceMul, Nat.reduceSub, Nat.reduceEqDiff, Nat.reduceBEq, Nat.reduceLeDiff, Nat.reduceLT, Int.reduceAdd, Int.reduceMul, Int.reduceSub, Int.reduceLT, Int.reduceLE, Int.reduceToNat, Int.reduceEq, Int.reduceNe, Int.reduceBEq, Int.reduceBNe, ne_eq, eq_self]
    exact hS.tail.tail
  have hfair' := hfair
  simp only [Bool.and_eq_true, beq_iff_eq] at hfair
  obtain ⟨hm, hn⟩ := hfair
  simp only [hfair', hx1, r0, r1, ↓D0, ↓D1, ↓D2, ↓D3, ↓D4, ↓D5, ↓D6, ↓D7, ↓D8, ↓D9, ↓D10, U0, U1, U2, U3, U4, U5, U6, U7, U8, U9, U10, ↓reduceIte, Nat.reduceAdd, Nat.reduceMul, Nat.reduceSub, Nat.reduceEqDiff, Nat.reduceBEq, Nat.reduceLeDiff, Nat.reduceLT, Int.reduceAdd, Int.reduceMul, Int.reduceSub, Int.reduceLT, Int.reduceLE, Int.reduceToNat, Int.reduceEq, Int.reduceNe, Int.reduceBEq, Int.reduceBNe, ne_eq, eq_self]
  refine callT_of (c_soundV hm hn hr hU hS.p2) ?_
  rintro v H' ⟨sb, rfl, hsnd, hS⟩
  cases sb
  · simp only [↓D0, ↓D1, ↓D2, ↓D3, ↓D4, ↓D5, ↓D6, ↓D7, ↓D8, ↓D9, ↓D10, U0, U1, U2, U3, U4, U5, U6, U7, U8, U9, U10, ↓reduceIte, Nat.reduceAdd, Nat.reduceMul, Nat.reduceSub, Nat.reduceEqDiff, Nat.reduceBEq, Nat.reduceLeDiff, Nat.reduceLT, Int.reduceAdd, Int.reduceMul, Int.reduceSub, Int.reduceLT, Int.reduceLE, Int.reduceToNat, Int.reduceEq, Int.reduceNe, Int.reduceBEq, Int.reduceBNe, ne_eq, eq_self]
    exact hS.p1.tail.p1.tail
  have hsnd0 := hsnd.1 rfl
  clear hsnd
  have hx1 := hS.lk 2 rfl
  have hz1 := hS.lk 1 rfl
  have r1 := fun o n => rdn_of hx1 o n
  have r2 := fun o => rd_of hz1 o
  have i0 : (0 : Int) < ((2 : Nat) : Int) := by decide
  have i1 : (1 : Int) < ((2 : Nat) : Int) := by decide
  by_cases hst : status sh.p sh.c sh.m c < 0
  · have g3 : decide (status sh.p sh.c sh.m c < 0) = true := decide_eq_true hst
    simp only [hx1, hz1, r1, r2, i0, u_status, g3, ↓D0, ↓D1, ↓D2, ↓D3, ↓D4, ↓D5, ↓D6, ↓D7, ↓D8, ↓D9, ↓D10, U0, U1, U2, U3, U4, U5, U6, U7, U8, U9, U10, ↓reduceIte, Nat.reduceAdd, Nat.reduceMul, Nat.reduceSub, Nat.reduceEqDiff, Nat.reduceBEq, Nat.reduceLeDiff, Nat.reduceLT, Int.reduceAdd, Int.reduceMul, Int.reduceSub, Int.reduceLT, Int.reduceLE, Int.reduceToNat, Int.reduceEq, Int.reduceNe, Int.reduceBEq, Int.reduceBNe, ne_eq, eq_self]
    exact hS.p1.tail.p1.tail
  have g3 : decide (status sh.p sh.c sh.m c < 0) = false := decide_eq_false hst
  have hcb : 0 ≤ c ∧ c < sh.c := by
    unfold status within at hst
    rw [hm] at hst
    simp at hst
    omega
  have hwl := words_le hm
  have hwg := words_ge hm hn
  have hn2 : n ≤ 2000 := by omega
  have hb := (may_iff _ _ _).1 hm
  simp only [hx1, hz1, r1, r2, i0, u_status, g3, ↓D0, ↓D1, ↓D2, ↓D3, ↓D4, ↓D5, ↓D6, ↓D7, ↓D8, ↓D9, ↓D10, U0, U1, U2, U3, U4, U5, U6, U7, U8, U9, U10, ↓reduceIte, Nat.reduceAdd, Nat.reduceMul, Nat.reduceSub, Nat.reduceEqDiff, Nat.reduceBEq, Nat.reduceLeDiff, Nat.reduceLT, Int.reduceAdd, Int.reduceMul, Int.reduceSub, Int.reduceLT, Int.reduceLE, Int.reduceToNat, Int.reduceEq, Int.reduceNe, Int.reduceBEq, Int.reduceBNe, ne_eq, eq_self]
  refine callT_of (c_fill hn2 hr hS) ?_
  rintro v H' ⟨b, s, rfl, hS⟩
  have hx1 := hS.lk 4 rfl
  have hz1 := hS.lk 3 rfl
  have r1 := fun o n => rdn_of hx1 o n
  have r2 := fun o => rd_of hz1 o
  have hof : (rowW n ws).of sh := rowW_of hn hU
  simp only [hx1, hz1, r1, r2, i0, i1, ↓D0, ↓D1, ↓D2, ↓D3, ↓D4, ↓D5, ↓D6, ↓D7, ↓D8, ↓D9, ↓D10, U0, U1, U2, U3, U4, U5, U6, U7, U8, U9, U10, ↓reduceIte, Nat.reduceAdd, Nat.reduceMul, Nat.reduceSub, Nat.reduceEqDiff, Nat.reduceBEq, Nat.reduceLeDiff, Nat.reduceLT, Int.reduceAdd, Int.reduceMul, Int.reduceSub, Int.reduceLT, Int.reduceLE, Int.reduceToNat, Int.reduceEq, Int.reduceNe, Int.reduceBEq, Int.reduceBNe, ne_eq, eq_self]
  refine callT_of (c_gvnew (sh := sh) hS) ?_
  rintro v H' ⟨k, rfl, hS⟩
  have hx1 := hS.lk 5 rfl
  have r1 := fun o n => rdn_of hx1 o n
  have hAl := Gv.Al.init (a := ad) hm hof hcb.1 hcb.2 (snd_row' hm hn hsnd0)
  simp only [hx1, r1, ↓D0, ↓D1, ↓D2, ↓D3, ↓D4, ↓D5, ↓D6, ↓D7, ↓D8, ↓D9, ↓D10, U0, U1, U2, U3, U4, U5, U6, U7, U8, U9, U10, ↓reduceIte, Nat.reduceAdd, Nat.reduceMul, Nat.reduceSub, Nat.reduceEqDiff, Nat.reduceBEq, Nat.reduceLeDiff, Nat.reduceLT, Int.reduceAdd, Int.reduceMul, Int.reduceSub, Int.reduceLT, Int.reduceLE, Int.reduceToNat, Int.reduceEq, Int.reduceNe, Int.reduceBEq, Int.reduceBNe, ne_eq, eq_self]
  refine callT_of (c_blocks hm hn hr hU hS.p3) ?_
  rintro v H' ⟨ba, bc, g, rfl, hB, hS⟩
  have hx1 := hS.lk 6 rfl
  have hz1 := hS.lk 5 rfl
  have hbl := blks_len (s := sh) (ws := ws) sh.p.toNat
  have hlen : (blks sh ws sh.p.toNat).length ≤ 2000 := by omega
  obtain ⟨bl, hbl'⟩ : ∃ bl, blks sh ws sh.p.toNat = bl := ⟨_, rfl⟩
  rw [hbl'] at hB hlen ⊢
  have r1 := fun o n => rdn_of hx1 o n
  have r2 := fun o => rd_of hz1 o
  simp only [hbl', ↓D0, ↓D1, ↓D2, ↓D3, ↓D4, ↓D5, ↓D6, ↓D7, ↓D8, ↓D9, ↓D10, U0, U1, U2, U3, U4, U5, U6, U7, U8, U9, U10, ↓reduceIte, Nat.reduceAdd, Nat.reduceMul, Nat.reduceSub, Nat.reduceEqDiff, Nat.reduceBEq, Nat.reduceLeDiff, Nat.reduceLT, Int.reduceAdd, Int.reduceMul, Int.reduceSub, Int.reduceLT, Int.reduceLE, Int.reduceToNat, Int.reduceEq, Int.reduceNe, Int.reduceBEq, Int.reduceBNe, ne_eq, eq_self]
  refine loop_intro (gaA bl ad x z b k n cap bc a ba (g :: h :: gvB k 0 (Gv.new sh c ad) :: wB b s (rowW n ws) :: wR s (rowW n ws) :: sg z (.cells #[.int .i64 c, .int .i64 ad] 25 (0, 0)) :: sg x (.cells #[.int .i64 sh.p, .int .i64 sh.c, .int .i64 sh.m] 23 (0, 0)) :: l)) (fun F' _ => (bl.length - iv (gt F' 11)).toNat)
    ⟨0, -1, Nat.zero_le _, by simp [gt], by simp [gt], ⟨by simp [gt], by simp [gt], by simp [gt], by simp [gt], by simp [gt], by simp [gt]⟩, .inl ⟨rfl, fun j hj => by omega⟩, hS⟩ ?_
  clear hS hx1 r1 hz1 r2
  rintro F' H' ⟨i, th, hi, e11, e10, ⟨e1, e3, e5, e7, e8, e9⟩, hth, hS⟩
  by_cases hlt : i < bl.length
  · have d1 : decide ((i : Int) < (bl.length : Int)) = true := decide_eq_true (by omega)
    have p0 : (0 : Int) ≤ (i : Int) := by omega
    have p1 : (i : Int) < (bl.length : Int) := by omega
    have wi : w64 ((i : Int) + 1) = ((i + 1 : Nat) : Int) := by rw [w64_eq (by omega) (by omega)]; omega
    obtain ⟨y, hy, hcl, -⟩ := hB.cell hS (by simp) hlt
    subst hy
    have hz1 := hS.lk 5 rfl
    have r2 := fun o => rd_of hz1 o
    obtain ⟨u, hu⟩ : ∃ u, (bl.getD i (0, 0)).1 = u := ⟨_, rfl⟩
    rw [hu] at hcl
    cases eK : (u == ad)
    all_goals
      simp only [e11, e10, e1, e3, e5, e7, e8, e9, d1, p0, p1, Int.toNat_natCast, hcl, hz1, r2, eK, i1, wrap_w64, wi, ↓D0, ↓D1, ↓D2, ↓D3, ↓D4, ↓D5, ↓D6, ↓D7, ↓D8, ↓D9, ↓D10, U0, U1, U2, U3, U4, U5, U6, U7, U8, U9, U10, ↓reduceIte, Nat.reduceAdd, Nat.reduceMul, Nat.reduceSub, Nat.reduceEqDiff, Nat.reduceBEq, Nat.reduceLeDiff, Nat.reduceLT, Int.reduceAdd, Int.reduceMul, Int.reduceSub, Int.reduceLT, Int.reduceLE, Int.reduceToNat, Int.reduceEq, Int.reduceNe, Int.reduceBEq, Int.reduceBNe, ne_eq, eq_self]
    · have hne : u ≠ ad := by simpa using eK
      refine ⟨⟨i + 1, th, hlt, by simp [gt], by simp [gt, e10], ⟨by simp [gt, e1], by simp [gt, e3], by simp [gt, e5], by simp [gt, e7], by simp [gt, e8], by simp [gt, e9]⟩, ?_, hS⟩, by simp [gt, iv, e11]; omega⟩
      rcases hth with ⟨rfl, hno⟩ | ⟨t0, t1, t2, t3⟩
      · refine .inl ⟨rfl, fun j hj => ?_⟩
        by_cases ej : j = i
        · subst ej; rw [hu]; exact hne
        · exact hno j (by omega)
      · refine .inr ⟨t0, by omega, t2, fun j j0 j1 => ?_⟩
        by_cases ej : j = i
        · subst ej; rw [hu]; exact hne
        · exact t3 j j0 (by omega)
    · have he : u = ad := by simpa using eK
      refine ⟨⟨i + 1, i, hlt, by simp [gt], by simp [gt], ⟨by simp [gt, e1], by simp [gt, e3], by simp [gt, e5], by simp [gt, e7], by simp [gt, e8], by simp [gt, e9]⟩, .inr ⟨by omega, by omega, by rw [Int.toNat_natCast, hu]; exact he, fun j j0 j1 => by omega⟩, hS⟩, by simp [gt, iv, e11]; omega⟩
  have hil : i = bl.length := by omega
  subst hil
  have d1 : decide ((bl.length : Int) < (bl.length : Int)) = false := decide_eq_false (by omega)
  simp only [e11, e10, e1, e3, e5, e7, e8, e9, d1, ↓D0, ↓D1, ↓D2, ↓D3, ↓D4, ↓D5, ↓D6, ↓D7, ↓D8, ↓D9, ↓D10, U0, U1, U2, U3, U4, U5, U6, U7, U8, U9, U10, ↓reduceIte, Nat.reduceAdd, Nat.reduceMul, Nat.reduceSub, Nat.reduceEqDiff, Nat.reduceBEq, Nat.reduceLeDiff, Nat.reduceLT, Int.reduceAdd, Int.reduceMul, Int.reduceSub, Int.reduceLT, Int.reduceLE, Int.reduceToNat, Int.reduceEq, Int.reduceNe, Int.reduceBEq, Int.reduceBNe, ne_eq, eq_self]
  have wm3 : w64 (sh.m + 20) = sh.m + 20 := w64_eq (by omega) (by omega)
  have hl0 := gv_left_new sh c ad (by omega)
  refine loop_intro (gaB sh (rowW n ws).ws c ad th bl.length x z b k s n cap bc a ba (g :: h :: sg z (.cells #[.int .i64 c, .int .i64 ad] 25 (0, 0)) :: sg x (.cells #[.int .i64 sh.p, .int .i64 sh.c, .int .i64 sh.m] 23 (0, 0)) :: l)) (fun F' _ => (sh.m + 20 - iv (gt F' 12)).toNat)
    ⟨0, 0, _, _, by omega, by omega, by simp [gt], by simp [gt, e10], ⟨by simp [gt, e1], by simp [gt, e3], by simp [gt, e5], by simp [gt, e7], by simp [gt, e8], by simp [gt, e9]⟩, rfl, hAl, by omega, hS.p2.p4.p4.nothing.p3⟩ ?_
  clear hS hAl hl0 e11 e10 e1 e3 e5 e7 e8 e9
  rintro F' H' ⟨i, kp, t, w, hi0, hi, e12, e10, ⟨e1, e3, e5, e7, e8, e9⟩, hwn, hAl, hl, hS⟩
  have hx1 := hS.lk 7 rfl
  have r0 := fun o => rd_of hx1 o
  by_cases hlt : i < sh.m + 20
  · have d1 : decide (i < sh.m + 20) = true := decide_eq_true hlt
    have wi : w64 (i + 1) = i + 1 := w64_eq (by omega) (by omega)
    have hws : t.s = sh := hAl.wf.2.1
    simp only [e12, e10, e1, e3, e5, e7, e8, e9, hx1, r0, wrap_w64, wm3, d1, ↓D0, ↓D1, ↓D2, ↓D3, ↓D4, ↓D5, ↓D6, ↓D7, ↓D8, ↓D9, ↓D10, U0, U1, U2, U3, U4, U5, U6, U7, U8, U9, U10, ↓reduceIte, Nat.reduceAdd, Nat.reduceMul, Nat.reduceSub, Nat.reduceEqDiff, Nat.reduceBEq, Nat.reduceLeDiff, Nat.reduceLT, Int.reduceAdd, Int.reduceMul, Int.reduceSub, Int.reduceLT, Int.reduceLE, Int.reduceToNat, Int.reduceEq, Int.reduceNe, Int.reduceBEq, Int.reduceBNe, ne_eq, eq_self]
    refine callT_of (c_gvstep hAl.wf.1 (fun _ => by rw [hws]; exact hAl.of) hS) ?_
    rintro v H' ⟨rfl, kp2, hS⟩
    have hx1 := hS.lk 7 rfl
    have r1 := fun o n => rdn_of hx1 o n
    have hAl2 := hAl.step
    have hof2 := Gv.step_of hAl.wf.1 hAl.of
    have hn2' : (t.step w).2.n = n := by
      have h5 := hAl2.of.n; have := hn; omega
    have hU2 : ∀ i, i < n → U ((t.step w).2.ws i) := fun i hi => hAl2.of.u i
    refine draw_intro [(x, #[.int .i64 sh.p, .int .i64 sh.c, .int .i64 sh.m], [])] (by simp only [hx1, ↓D0, ↓D1, ↓D2, ↓D3, ↓D4, ↓D5, ↓D6, ↓D7, ↓D8, ↓D9, ↓D10, U0, U1, U2, U3, U4, U5, U6, U7, U8, U9, U10, ↓reduceIte, Nat.reduceAdd, Nat.reduceMul, Nat.reduceSub, Nat.reduceEqDiff, Nat.reduceBEq, Nat.reduceLeDiff, Nat.reduceLT, Int.reduceAdd, Int.reduceMul, Int.reduceSub, Int.reduceLT, Int.reduceLE, Int.reduceToNat, Int.reduceEq, Int.reduceNe, Int.reduceBEq, Int.reduceBNe, ne_eq, eq_self]) ?_
    simp only [e12, e10, e1, e3, e5, e7, e8, e9, hx1, r1, ↓D0, ↓D1, ↓D2, ↓D3, ↓D4, ↓D5, ↓D6, ↓D7, ↓D8, ↓D9, ↓D10, U0, U1, U2, U3, U4, U5, U6, U7, U8, U9, U10, ↓reduceIte, Nat.reduceAdd, Nat.reduceMul, Nat.reduceSub, Nat.reduceEqDiff, Nat.reduceBEq, Nat.reduceLeDiff, Nat.reduceLT, Int.reduceAdd, Int.reduceMul, Int.reduceSub, Int.reduceLT, Int.reduceLE, Int.reduceToNat, Int.reduceEq, Int.reduceNe, Int.reduceBEq, Int.reduceBNe, ne_eq, eq_self]
    refine callT_of (c_all (w := (t.step w).2) (by omega) hS.p3.p3) ?_
    rintro v H' ⟨a3, cap3, h3, rfl, hr3, hS⟩
    rw [hn2'] at hr3
    have hx1 := hS.lk 8 rfl
    have r1 := fun o n => rdn_of hx1 o n
    simp only [e12, e10, e1, e3, e5, e7, e8, e9, hn2', hx1, r1, ↓D0, ↓D1, ↓D2, ↓D3, ↓D4, ↓D5, ↓D6, ↓D7, ↓D8, ↓D9, ↓D10, U0, U1, U2, U3, U4, U5, U6, U7, U8, U9, U10, ↓reduceIte, Nat.reduceAdd, Nat.reduceMul, Nat.reduceSub, Nat.reduceEqDiff, Nat.reduceBEq, Nat.reduceLeDiff, Nat.reduceLT, Int.reduceAdd, Int.reduceMul, Int.reduceSub, Int.reduceLT, Int.reduceLE, Int.reduceToNat, Int.reduceEq, Int.reduceNe, Int.reduceBEq, Int.reduceBNe, ne_eq, eq_self]
    refine callT_of (c_soundV hm hn hr3 hU2 hS) ?_
    rintro v H' ⟨sb, rfl, hsb, hS⟩
    have hsb := hsb.2 hAl2.sound
    subst hsb
    have hx1 := hS.lk 8 rfl
    have r1 := fun o n => rdn_of hx1 o n
    simp only [hx1, r1, e12, e10, e1, e3, e5, e7, e8, e9, wrap_w64, wi, ↓D0, ↓D1, ↓D2, ↓D3, ↓D4, ↓D5, ↓D6, ↓D7, ↓D8, ↓D9, ↓D10, U0, U1, U2, U3, U4, U5, U6, U7, U8, U9, U10, ↓reduceIte, Nat.reduceAdd, Nat.reduceMul, Nat.reduceSub, Nat.reduceEqDiff, Nat.reduceBEq, Nat.reduceLeDiff, Nat.reduceLT, Int.reduceAdd, Int.reduceMul, Int.reduceSub, Int.reduceLT, Int.reduceLE, Int.reduceToNat, Int.reduceEq, Int.reduceNe, Int.reduceBEq, Int.reduceBNe, ne_eq, eq_self]
    refine ⟨⟨i + 1, kp2, _, _, by omega, by omega, by simp [gt], by simp [gt, e10], ⟨by simp [gt, e1], by simp [gt, e3], by simp [gt, e5], by simp [gt, e7], by simp [gt, e8], by simp [gt, e9]⟩, hn2', hAl2, ?_, hS.tail.p2.p3.p1⟩, by simp [gt, iv, e12]; omega⟩
    have := gv_left hAl.wf.1 hAl.of.u hl; omega
  have d1 : decide (i < sh.m + 20) = false := decide_eq_false hlt
  have hii : i = sh.m + 20 := by omega
  have hd : t.dn = true := Gv.left_dn hAl.wf.1 (by omega)
  have hU2 : ∀ i, i < n → U (w.ws i) := fun i hi => hAl.of.u i
  simp only [e12, e10, e1, e3, e5, e7, e8, e9, hx1, r0, wrap_w64, wm3, d1, ↓D0, ↓D1, ↓D2, ↓D3, ↓D4, ↓D5, ↓D6, ↓D7, ↓D8, ↓D9, ↓D10, U0, U1, U2, U3, U4, U5, U6, U7, U8, U9, U10, ↓reduceIte, Nat.reduceAdd, Nat.reduceMul, Nat.reduceSub, Nat.reduceEqDiff, Nat.reduceBEq, Nat.reduceLeDiff, Nat.reduceLT, Int.reduceAdd, Int.reduceMul, Int.reduceSub, Int.reduceLT, Int.reduceLE, Int.reduceToNat, Int.reduceEq, Int.reduceNe, Int.reduceBEq, Int.reduceBNe, ne_eq, eq_self]
  have r1 := fun o n => rdn_of hx1 o n
  refine draw_intro [(x, #[.int .i64 sh.p, .int .i64 sh.c, .int .i64 sh.m], [])] (by simp only [hx1, ↓D0, ↓D1, ↓D2, ↓D3, ↓D4, ↓D5, ↓D6, ↓D7, ↓D8, ↓D9, ↓D10, U0, U1, U2, U3, U4, U5, U6, U7, U8, U9, U10, ↓reduceIte, Nat.reduceAdd, Nat.reduceMul, Nat.reduceSub, Nat.reduceEqDiff, Nat.reduceBEq, Nat.reduceLeDiff, Nat.reduceLT, Int.reduceAdd, Int.reduceMul, Int.reduceSub, Int.reduceLT, Int.reduceLE, Int.reduceToNat, Int.reduceEq, Int.reduceNe, Int.reduceBEq, Int.reduceBNe, ne_eq, eq_self]) ?_
  simp only [e12, e10, e1, e3, e5, e7, e8, e9, hx1, r1, ↓D0, ↓D1, ↓D2, ↓D3, ↓D4, ↓D5, ↓D6, ↓D7, ↓D8, ↓D9, ↓D10, U0, U1, U2, U3, U4, U5, U6, U7, U8, U9, U10, ↓reduceIte, Nat.reduceAdd, Nat.reduceMul, Nat.reduceSub, Nat.reduceEqDiff, Nat.reduceBEq, Nat.reduceLeDiff, Nat.reduceLT, Int.reduceAdd, Int.reduceMul, Int.reduceSub, Int.reduceLT, Int.reduceLE, Int.reduceToNat, Int.reduceEq, Int.reduceNe, Int.reduceBEq, Int.reduceBNe, ne_eq, eq_self]
  refine callT_of (c_all (w := w) (by omega) hS.p3.p3) ?_
  rintro v H' ⟨a3, cap3, h3, rfl, hr3, hS⟩
  rw [hwn] at hr3
  have hx1 := hS.lk 8 rfl
  have r1 := fun o n => rdn_of hx1 o n
  simp only [e12, e10, e1, e3, e5, e7, e8, e9, hwn, hx1, r1, ↓D0, ↓D1, ↓D2, ↓D3, ↓D4, ↓D5, ↓D6, ↓D7, ↓D8, ↓D9, ↓D10, U0, U1, U2, U3, U4, U5, U6, U7, U8, U9, U10, ↓reduceIte, Nat.reduceAdd, Nat.reduceMul, Nat.reduceSub, Nat.reduceEqDiff, Nat.reduceBEq, Nat.reduceLeDiff, Nat.reduceLT, Int.reduceAdd, Int.reduceMul, Int.reduceSub, Int.reduceLT, Int.reduceLE, Int.reduceToNat, Int.reduceEq, Int.reduceNe, Int.reduceBEq, Int.reduceBNe, ne_eq, eq_self]
  refine callT_of (c_blocks hm hn hr3 hU2 hS) ?_
  rintro v H' ⟨ba2, bc2, g2, rfl, hB2, hS⟩
  have hx1 := hS.lk 9 rfl
  have r1 := fun o n => rdn_of hx1 o n
  simp only [hx1, r1, e12, e10, e1, e3, e5, e7, e8, e9, ↓D0, ↓D1, ↓D2, ↓D3, ↓D4, ↓D5, ↓D6, ↓D7, ↓D8, ↓D9, ↓D10, U0, U1, U2, U3, U4, U5, U6, U7, U8, U9, U10, ↓reduceIte, Nat.reduceAdd, Nat.reduceMul, Nat.reduceSub, Nat.reduceEqDiff, Nat.reduceBEq, Nat.reduceLeDiff, Nat.reduceLT, Int.reduceAdd, Int.reduceMul, Int.reduceSub, Int.reduceLT, Int.reduceLE, Int.reduceToNat, Int.reduceEq, Int.reduceNe, Int.reduceBEq, Int.reduceBNe, ne_eq, eq_self]
  refine callT_of (c_gvdone hS.p4) ?_
  rintro v H' ⟨rfl, hS⟩
  simp only [hd, e12, e10, e1, e3, e5, e7, e8, e9, ↓D0, ↓D1, ↓D2, ↓D3, ↓D4, ↓D5, ↓D6, ↓D7, ↓D8, ↓D9, ↓D10, U0, U1, U2, U3, U4, U5, U6, U7, U8, U9, U10, ↓reduceIte, Nat.reduceAdd, Nat.reduceMul, Nat.reduceSub, Nat.reduceEqDiff, Nat.reduceBEq, Nat.reduceLeDiff, Nat.reduceLT, Int.reduceAdd, Int.reduceMul, Int.reduceSub, Int.reduceLT, Int.reduceLE, Int.reduceToNat, Int.reduceEq, Int.reduceNe, Int.reduceBEq, Int.reduceBNe, ne_eq, eq_self]
  refine callT_of (c_gvgave hS) ?_
  rintro v H' ⟨rfl, hS⟩
  have hblw : blks sh (rowW n ws).ws sh.p.toNat = bl := by rw [blks_row' hm hn (by omega)]; exact hbl'
  obtain ⟨bl2, hbl2⟩ : ∃ bl2, blks sh w.ws sh.p.toNat = bl2 := ⟨_, rfl⟩
  have hbn2 := blks_len (s := sh) (ws := w.ws) sh.p.toNat
  rw [hbl2] at hB2 hbn2
  have hfin : (t.gv = false ∧ th = -1 ∧ w.ws = (rowW n ws).ws) ∨ (t.gv = true ∧ 0 ≤ th ∧ th < bl.length ∧ bl2.length + 1 = bl.length ∧ ∀ j, j < bl2.length → bl2.getD j (0, 0) = bl.getD (if th.toNat ≤ j then j + 1 else j) (0, 0)) := by
    cases hAl.ph with
    | a hd' => rw [hd] at hd'; cases hd'
    | l1 hd' => rw [hd] at hd'; cases hd'
    | l2 hd' => rw [hd] at hd'; cases hd'
    | s1 hd' => rw [hd] at hd'; cases hd'
    | s2 p hd' => rw [hd] at hd'; cases hd'
    | s3 hd' => rw [hd] at hd'; cases hd'
    | n hd' hg hw hno =>
      refine .inl ⟨hg, ?_, hw⟩
      rcases hth with ⟨rfl, -⟩ | ⟨t0, t1, t2, -⟩
      · rfl
      · refine absurd t2 (hno sh.p.toNat (by omega) _ ?_)
        have ht : th.toNat < bl.length := by omega
        rw [hblw, List.getD_eq_getElem?_getD, List.getElem?_eq_getElem ht]
        exact List.getElem_mem ht
    | e hd' hg hp hs ho =>
      have hpn : 0 ≤ t.pg ∨ t.pg < 0 := by omega
      obtain ⟨p, hp, hl2, hat, hsh⟩ := out_at (ho sh.p.toNat (by omega) (by omega))
      rw [hblw] at hp hl2 hat hsh
      rw [hbl2] at hl2 hsh
      rcases hth with ⟨rfl, hno⟩ | ⟨t0, t1, t2, -⟩
      · exact absurd ((hat p hp).2 rfl) (hno p hp)
      · have := (hat th.toNat (by omega)).1 t2
        subst this
        exact .inr ⟨hg, t0, t1, hl2, hsh⟩
  rcases hfin with ⟨hg, rfl, hws⟩ | ⟨hg, t0, t1, hl2, hsh⟩
  · have dl : decide ((0 : Int) ≤ -1) = false := by decide
    have dl2 : decide ((-1 : Int) < 0) = true := by decide
    simp only [hg, dl, dl2, e12, e10, e1, e3, e5, e7, e8, e9, ↓D0, ↓D1, ↓D2, ↓D3, ↓D4, ↓D5, ↓D6, ↓D7, ↓D8, ↓D9, ↓D10, U0, U1, U2, U3, U4, U5, U6, U7, U8, U9, U10, ↓reduceIte, Nat.reduceAdd, Nat.reduceMul, Nat.reduceSub, Nat.reduceEqDiff, Nat.reduceBEq, Nat.reduceLeDiff, Nat.reduceLT, Int.reduceAdd, Int.reduceMul, Int.reduceSub, Int.reduceLT, Int.reduceLE, Int.reduceToNat, Int.reduceEq, Int.reduceNe, Int.reduceBEq, Int.reduceBNe, ne_eq, eq_self]
    refine callT_of (c_all (w := w) (by omega) hS.p4.p4) ?_
    rintro v H' ⟨a4, cap4, h4, rfl, hr4, hS⟩
    rw [hwn] at hr4
    have hr5 := RowU.congr' hr4 (ws' := ws) fun i hi => by rw [hws]; exact if_pos hi
    simp only [hwn, e12, e10, e1, e3, e5, e7, e8, e9, ↓D0, ↓D1, ↓D2, ↓D3, ↓D4, ↓D5, ↓D6, ↓D7, ↓D8, ↓D9, ↓D10, U0, U1, U2, U3, U4, U5, U6, U7, U8, U9, U10, ↓reduceIte, Nat.reduceAdd, Nat.reduceMul, Nat.reduceSub, Nat.reduceEqDiff, Nat.reduceBEq, Nat.reduceLeDiff, Nat.reduceLT, Int.reduceAdd, Int.reduceMul, Int.reduceSub, Int.reduceLT, Int.reduceLE, Int.reduceToNat, Int.reduceEq, Int.reduceNe, Int.reduceBEq, Int.reduceBNe, ne_eq, eq_self]
    refine callT_of (c_same hr5 hr hn2 hS (by simp) (by simp)) ?_
    rintro v H' ⟨rfl, hS⟩
    simp only [e12, e10, e1, e3, e5, e7, e8, e9, ↓D0, ↓D1, ↓D2, ↓D3, ↓D4, ↓D5, ↓D6, ↓D7, ↓D8, ↓D9, ↓D10, U0, U1, U2, U3, U4, U5, U6, U7, U8, U9, U10, ↓reduceIte, Nat.reduceAdd, Nat.reduceMul, Nat.reduceSub, Nat.reduceEqDiff, Nat.reduceBEq, Nat.reduceLeDiff, Nat.reduceLT, Int.reduceAdd, Int.reduceMul, Int.reduceSub, Int.reduceLT, Int.reduceLE, Int.reduceToNat, Int.reduceEq, Int.reduceNe, Int.reduceBEq, Int.reduceBNe, ne_eq, eq_self]
    exact hS.tail.tail.tail.tail.tail.tail.tail.tail.p1.tail.p1.tail
  · have dl : decide ((0 : Int) ≤ th) = true := decide_eq_true t0
    have dl2 : decide (th < 0) = false := decide_eq_false (by omega)
    have wl : w64 ((bl.length : Int) - 1) = (bl2.length : Int) := by rw [w64_eq (by omega) (by omega)]; omega
    have wb : ((bl2.length : Int) != (bl2.length : Int)) = false := by simp
    simp only [hg, dl, dl2, hbl2, wrap_w64, wl, wb, e12, e10, e1, e3, e5, e7, e8, e9, ↓D0, ↓D1, ↓D2, ↓D3, ↓D4, ↓D5, ↓D6, ↓D7, ↓D8, ↓D9, ↓D10, U0, U1, U2, U3, U4, U5, U6, U7, U8, U9, U10, ↓reduceIte, Nat.reduceAdd, Nat.reduceMul, Nat.reduceSub, Nat.reduceEqDiff, Nat.reduceBEq, Nat.reduceLeDiff, Nat.reduceLT, Int.reduceAdd, Int.reduceMul, Int.reduceSub, Int.reduceLT, Int.reduceLE, Int.reduceToNat, Int.reduceEq, Int.reduceNe, Int.reduceBEq, Int.reduceBNe, ne_eq, eq_self]
    obtain ⟨L, hL⟩ : ∃ L, gvB k kp t :: g2 :: h3 :: wB b s w :: wR s w :: puO kp t.put :: g :: h :: sg z (.cells #[.int .i64 c, .int .i64 ad] 25 (0, 0)) :: sg x (.cells #[.int .i64 sh.p, .int .i64 sh.c, .int .i64 sh.m] 23 (0, 0)) :: l = L := ⟨_, rfl⟩
    have mg : g ∈ L := by subst hL; simp
    have mg2 : g2 ∈ L := by subst hL; simp
    have fin : ∀ H', Sep L H' → Sep (h :: l) H' := fun H' hS => by subst hL; exact hS.tail.tail.tail.tail.tail.tail.tail.p1.tail.p1.tail
    rw [hL] at hS
    clear hL hx1 r1 hAl hl r0 hr3 hr hU hU2
    refine loop_intro (gaC th bl.length bl2.length x z b k n cap bc bc2 a ba ba2 L) (fun F' _ => (bl2.length - iv (gt F' 14)).toNat)
      ⟨0, Nat.zero_le _, by simp [gt], by simp [gt], by simp [gt, e10], ⟨by simp [gt, e1], by simp [gt, e3], by simp [gt, e5], by simp [gt, e7], by simp [gt, e8], by simp [gt, e9]⟩, hS⟩ ?_
    clear hS e12 e10 e1 e3 e5 e7 e8 e9
    rintro F' H' ⟨i, hi, e14, e13, e10, ⟨e1, e3, e5, e7, e8, e9⟩, hS⟩
    by_cases hlt : i < bl2.length
    · have d1 : decide ((i : Int) < (bl2.length : Int)) = true := decide_eq_true (by omega)
      have p0 : (0 : Int) ≤ (i : Int) := by omega
      have p1 : (i : Int) < (bl2.length : Int) := by omega
      have wi : w64 ((i : Int) + 1) = ((i + 1 : Nat) : Int) := by rw [w64_eq (by omega) (by omega)]; omega
      obtain ⟨y2, hy2, -, hcl2⟩ := hB2.cell hS mg2 hlt
      subst hy2
      have hv := hsh i hlt
      by_cases hti : th ≤ (i : Int)
      · have dt : decide (th ≤ (i : Int)) = true := decide_eq_true hti
        rw [if_pos (by omega)] at hv
        have q0 : (0 : Int) ≤ ((i + 1 : Nat) : Int) := by omega
        have q1 : ((i + 1 : Nat) : Int) < (bl.length : Int) := by omega
        obtain ⟨y, hy, -, hcl⟩ := hB.cell hS mg (show i + 1 < bl.length by omega)
        subst hy
        rw [hv] at hcl2
        simp only [e14, e13, e10, e1, e3, e5, e7, e8, e9, d1, dt, p0, p1, q0, q1, Int.toNat_natCast, hcl, hcl2, wrap_w64, wi, eq_pair, ↓D0, ↓D1, ↓D2, ↓D3, ↓D4, ↓D5, ↓D6, ↓D7, ↓D8, ↓D9, ↓D10, U0, U1, U2, U3, U4, U5, U6, U7, U8, U9, U10, ↓reduceIte, Nat.reduceAdd, Nat.reduceMul, Nat.reduceSub, Nat.reduceEqDiff, Nat.reduceBEq, Nat.reduceLeDiff, Nat.reduceLT, Int.reduceAdd, Int.reduceMul, Int.reduceSub, Int.reduceLT, Int.reduceLE, Int.reduceToNat, Int.reduceEq, Int.reduceNe, Int.reduceBEq, Int.reduceBNe, ne_eq, eq_self]
        exact ⟨⟨i + 1, hlt, by simp [gt], by simp [gt, e13], by simp [gt, e10], ⟨by simp [gt, e1], by simp [gt, e3], by simp [gt, e5], by simp [gt, e7], by simp [gt, e8], by simp [gt, e9]⟩, hS⟩, by simp [gt, iv, e14]; omega⟩
      · have dt : decide (th ≤ (i : Int)) = false := decide_eq_false hti
        rw [if_neg (by omega)] at hv
        have q1 : (i : Int) < (bl.length : Int) := by omega
        obtain ⟨y, hy, -, hcl⟩ := hB.cell hS mg (show i < bl.length by omega)
        subst hy
        rw [hv] at hcl2
        simp only [e14, e13, e10, e1, e3, e5, e7, e8, e9, d1, dt, p0, p1, q1, Int.toNat_natCast, hcl, hcl2, wrap_w64, wi, eq_pair, ↓D0, ↓D1, ↓D2, ↓D3, ↓D4, ↓D5, ↓D6, ↓D7, ↓D8, ↓D9, ↓D10, U0, U1, U2, U3, U4, U5, U6, U7, U8, U9, U10, ↓reduceIte, Nat.reduceAdd, Nat.reduceMul, Nat.reduceSub, Nat.reduceEqDiff, Nat.reduceBEq, Nat.reduceLeDiff, Nat.reduceLT, Int.reduceAdd, Int.reduceMul, Int.reduceSub, Int.reduceLT, Int.reduceLE, Int.reduceToNat, Int.reduceEq, Int.reduceNe, Int.reduceBEq, Int.reduceBNe, ne_eq, eq_self]
        exact ⟨⟨i + 1, hlt, by simp [gt], by simp [gt, e13], by simp [gt, e10], ⟨by simp [gt, e1], by simp [gt, e3], by simp [gt, e5], by simp [gt, e7], by simp [gt, e8], by simp [gt, e9]⟩, hS⟩, by simp [gt, iv, e14]; omega⟩
    have hil : i = bl2.length := by omega
    subst hil
    have d1 : decide ((bl2.length : Int) < (bl2.length : Int)) = false := decide_eq_false (by omega)
    simp only [e14, e13, e10, e1, e3, e5, e7, e8, e9, d1, ↓D0, ↓D1, ↓D2, ↓D3, ↓D4, ↓D5, ↓D6, ↓D7, ↓D8, ↓D9, ↓D10, U0, U1, U2, U3, U4, U5, U6, U7, U8, U9, U10, ↓reduceIte, Nat.reduceAdd, Nat.reduceMul, Nat.reduceSub, Nat.reduceEqDiff, Nat.reduceBEq, Nat.reduceLeDiff, Nat.reduceLT, Int.reduceAdd, Int.reduceMul, Int.reduceSub, Int.reduceLT, Int.reduceLE, Int.reduceToNat, Int.reduceEq, Int.reduceNe, Int.reduceBEq, Int.reduceBNe, ne_eq, eq_self]
    exact fin _ hS
end

theorem l_giveall {W : World} {a : Option Addr} {n cap : Nat} {ws : Nat → Int} (p q m : Int) (hp : -9223372036854775808 ≤ p ∧ p ≤ 9223372036854775807) (hq : -9223372036854775808 ≤ q ∧ q ≤ 9223372036854775807) (hm : -9223372036854775808 ≤ m ∧ m ≤ 9223372036854775807)
    (hn : n ≤ 9223372036854775807) (hr : RowU (memOf W) a n ws) (hU : ∀ i, i < n → IntKind.u64.has (ws i)) (c ad : Int) (hc : -9223372036854775808 ≤ c ∧ c ≤ 9223372036854775807) (ha : -9223372036854775808 ≤ ad ∧ ad ≤ 9223372036854775807) :
    CallP Try.prog W 4 #[.agg #[.int .i64 p, .int .i64 q, .int .i64 m], .slice a n cap, .agg #[.int .i64 c, .int .i64 ad]] (memOf W) fun v H' => v = .bool true ∧ Sub (memOf W) H' :=
  (c_giveall ⟨p, q, m⟩ c ad hr (fun i hi => u64_bd (hU i hi)) (Sep.one _)).mono fun v H' ⟨h1, h2⟩ => ⟨h1, h2.head⟩
end Go.Proofs.Ytfopnendmcpglaa
