/-
  SeekFirst, walked: one that seeks a slot alone in a sound heap. Conditions: none.
-/
import Derived.Test.YtfopnendmcpglaaCodeAllotmentlaw13
import Derived.Test.YtfopnendmcpglaaSeekK
import Derived.Test.YtfopnendmcpglaaSoundV
import Derived.Test.YtfopnendmcpglaaRoom
import Derived.Test.YtfopnendmcpglaaRowV
import Derived.Test.YtfopnendmcpglaaMaSeekSnd
import Derived.Test.YtfopnendmcpglaaCut
set_option linter.unusedVariables false
set_option linter.unusedSectionVars false
set_option linter.unusedSimpArgs false
set_option maxRecDepth 8000
namespace Go.Proofs.Ytfopnendmcpglaa
open Go Go.Ev Go.Pl Go.Ma

theorem snd_row' {sh : Sh} {n : Nat} {ws : Nat → Int} (hm : may sh.p sh.c sh.m = true) (hn : (n : Int) = words sh.p sh.c sh.m) (h : Snd sh ws) : Snd sh (rowW n ws).ws := by
  have hb := (may_iff _ _ _).1 hm
  have hw := words_ge hm hn
  have key : ∀ j : Nat, j < n → (rowW n ws).ws j = ws j := fun j hj => if_pos hj
  refine h.congr hm (fun q q0 q1 => ?_) (fun q i q0 q1 i0 i1 => ?_) (fun c i c0 c1 i0 i1 => ?_)
  · unfold pgAt; rw [page_yes hm q0 q1]; exact key _ (by omega)
  · unfold slAt; exact key _ (by omega)
  · have := Int.mul_le_mul_of_nonneg_right (by omega : c + 1 ≤ sh.c) (by omega : 0 ≤ sh.m)
    rw [Int.add_mul] at this
    have := Int.mul_nonneg c0 (by omega : 0 ≤ sh.m)
    unfold mgAt; exact key _ (by omega)
theorem blks_row' {sh : Sh} {n : Nat} {ws : Nat → Int} (hm : may sh.p sh.c sh.m = true) (hn : (n : Int) = words sh.p sh.c sh.m) {k : Nat} (hk : (k : Int) ≤ sh.p) : blks sh (rowW n ws).ws k = blks sh ws k := by
  have hb := (may_iff _ _ _).1 hm
  have hw := words_ge hm hn
  have key : ∀ j : Nat, j < n → (rowW n ws).ws j = ws j := fun j hj => if_pos hj
  have hp : ∀ q : Nat, (q : Int) < sh.p → pgAt sh (rowW n ws).ws q = pgAt sh ws q := fun q hq => by unfold pgAt; rw [page_yes hm (by omega) hq]; exact key _ (by omega)
  refine blks_congr fun p hp' => blkPg_congr (by rw [hp p (by omega)]) (fun _ => by rw [hp p (by omega)]) fun _ i hi => ?_
  rw [show slAt sh (rowW n ws).ws p i = slAt sh ws p i from key _ (by omega)]
theorem RowU.congr' {h : Hp} {a : Option Addr} {n : Nat} {ws ws' : Nat → Int} (hr : RowU h a n ws) (he : ∀ i, i < n → ws i = ws' i) : RowU h a n ws' := by
  rcases hr with hr | ⟨b, o, rfl, hr⟩
  · exact .inl hr
  · exact .inr ⟨b, o, rfl, fun i hi => by rw [hr i hi, he i hi]⟩
theorem free_row {sh : Sh} {n : Nat} {ws : Nat → Int} (hm : may sh.p sh.c sh.m = true) (hn : (n : Int) = words sh.p sh.c sh.m) {q : Int} (q0 : 0 ≤ q) (q1 : q < sh.p) : Rw.Free sh (rowW n ws).ws q ↔ Rw.Free sh ws q := by
  have hb := (may_iff _ _ _).1 hm
  have hw := words_ge hm hn
  have key : ∀ j : Nat, j < n → (rowW n ws).ws j = ws j := fun j hj => if_pos hj
  have hp : pgAt sh (rowW n ws).ws q = pgAt sh ws q := by unfold pgAt; rw [page_yes hm q0 q1]; exact key _ (by omega)
  have hs : ∀ i, 0 ≤ i → i < 16 → slAt sh (rowW n ws).ws q i = slAt sh ws q i := fun i i0 i1 => key _ (by omega)
  unfold Rw.Free
  rw [hp]
  refine or_congr Iff.rfl (and_congr_right fun _ => ?_)
  have hsb := slots_bd (pgA sh q (pgAt sh ws q))
  exact ⟨fun g i i0 i1 => by rw [← hs i i0 (by omega)]; exact g i i0 i1, fun g i i0 i1 => by rw [hs i i0 (by omega)]; exact g i i0 i1⟩
/-- A slot of the class that is open. -/
def Hq (sh : Sh) (ws : Nat → Int) (K p i : Int) : Prop := pgK sh p (pgAt sh ws p) = 2 ∧ slK (slAt sh ws p i) = 1 ∧ slA (slAt sh ws p i) = K
def Wp (R : Prop) (sh : Sh) (ws : Nat → Int) (K : Int) (p i : Nat) : Prop := R ∨ ∃ p' i' : Nat, i' < 16 ∧ (p' < p ∨ (p' = p ∧ i' < i)) ∧ Hq sh ws K p' i'
theorem Wp.zero {R : Prop} {sh : Sh} {ws : Nat → Int} {K : Int} : Wp R sh ws K 0 0 ↔ R := ⟨fun h => by
  rcases h with h | ⟨p, i, h1, h2, -⟩
  · exact h
  · omega, .inl⟩
theorem Wp.next {R : Prop} {sh : Sh} {ws : Nat → Int} {K : Int} {p i : Nat} (hi : i < 16) : Wp R sh ws K p (i + 1) ↔ Wp R sh ws K p i ∨ Hq sh ws K p i := by
  constructor
  · rintro (h | ⟨p', i', h1, h2, h3⟩)
    · exact .inl (.inl h)
    · by_cases e : p' = p ∧ i' = i
      · obtain ⟨rfl, rfl⟩ := e; exact .inr h3
      · exact .inl (.inr ⟨p', i', h1, by omega, h3⟩)
  · rintro ((h | ⟨p', i', h1, h2, h3⟩) | h)
    · exact .inl h
    · exact .inr ⟨p', i', h1, by omega, h3⟩
    · exact .inr ⟨p, i, hi, by omega, h⟩
theorem Wp.row {R : Prop} {sh : Sh} {ws : Nat → Int} {K : Int} {p : Nat} : Wp R sh ws K (p + 1) 0 ↔ Wp R sh ws K p 16 := by
  constructor
  · rintro (h | ⟨p', i', h1, h2, h3⟩)
    · exact .inl h
    · exact .inr ⟨p', i', h1, by omega, h3⟩
  · rintro (h | ⟨p', i', h1, h2, h3⟩)
    · exact .inl h
    · exact .inr ⟨p', i', h1, by omega, h3⟩
def Wm (R : Prop) (sh : Sh) (ws : Nat → Int) (c K : Int) (i : Nat) : Prop := R ∨ ∃ j : Nat, j < i ∧ okEn sh (mgAt sh ws c j) = true ∧ enK sh (mgAt sh ws c j) = K
theorem Wm.zero {R : Prop} {sh : Sh} {ws : Nat → Int} {c K : Int} : Wm R sh ws c K 0 ↔ R := ⟨fun h => by
  rcases h with h | ⟨i, h1, -⟩
  · exact h
  · omega, .inl⟩
theorem Wm.next {R : Prop} {sh : Sh} {ws : Nat → Int} {c K : Int} {i : Nat} : Wm R sh ws c K (i + 1) ↔ Wm R sh ws c K i ∨ (okEn sh (mgAt sh ws c i) = true ∧ enK sh (mgAt sh ws c i) = K) := by
  constructor
  · rintro (h | ⟨j, h1, h2⟩)
    · exact .inl (.inl h)
    · by_cases e : j = i
      · subst e; exact .inr h2
      · exact .inl (.inr ⟨j, by omega, h2⟩)
  · rintro ((h | ⟨j, h1, h2⟩) | h)
    · exact .inl h
    · exact .inr ⟨j, by omega, h2⟩
    · exact .inr ⟨i, by omega, h⟩
/-- What the law wants is what the seeker finds. -/
theorem want_of {sh : Sh} {ws : Nat → Int} {c K : Int} {p i : Nat} (hm : may sh.p sh.c sh.m = true) (hsn : Snd sh ws) (k0 : 0 ≤ K) (k1 : K ≤ 3) (hp : (p : Int) = sh.p) (hi : (i : Int) = sh.m) :
    Wm (Wp (∃ g, 0 ≤ g ∧ g + 1 ≤ sh.p ∧ ∀ q, g ≤ q → q < g + 1 → Rw.Free sh ws q) sh ws K p 0) sh ws c K i ↔ Sa.Want sh ws c K := by
  have hb := (may_iff _ _ _).1 hm
  have hs4 := slots_four k0 k1
  have on := opn_ne K k0 (by omega)
  constructor
  · rintro ((⟨g, g0, g1, g2⟩ | ⟨p', i', h1, h2, h3, h4, h5⟩) | ⟨j, h1, h2⟩)
    · exact .inr (.inr ⟨g, g0, by omega, g2 g (Int.le_refl _) (by omega)⟩)
    · have hsup := (hsn.pg p' (by omega)).2.sup (by rw [h3]; rfl) i' h1
      have hA := Gv.ok_super (pgK_ne (s := sh) (x := pgAt sh ws p') (by rw [h3]; decide)) h3
      unfold slB at hsup
      by_cases hl : (i' : Int) < slots (pgA sh p' (pgAt sh ws p'))
      · rw [decide_eq_true hl, h4] at hsup
        have hA2 : slA (slAt sh ws p' i') = pgA sh p' (pgAt sh ws p') := by simpa using hsup
        have hop := is_opn h4
        rw [h5] at hop hA2
        exact .inr (.inl ⟨p', i', by omega, by omega, h3, hA2.symm, by omega, by rw [hA2]; exact hl, hop⟩)
      · rw [decide_eq_false hl] at hsup
        have hz : slAt sh ws p' i' = 0 := by simpa using hsup
        rw [hz] at h4; cases h4
    · exact .inl ⟨j, by omega, by omega, h2⟩
  · rintro (⟨j, j0, j1, h2⟩ | ⟨q, j, q0, q1, h1, h2, h3, h4, h5⟩ | ⟨q, q0, q1, h⟩)
    · exact .inr ⟨j.toNat, by omega, by rw [show ((j.toNat : Nat) : Int) = j by omega]; exact h2⟩
    · refine .inl (.inr ⟨q.toNat, j.toNat, by omega, by omega, ?_⟩)
      rw [show ((j.toNat : Nat) : Int) = j by omega, show ((q.toNat : Nat) : Int) = q by omega]
      exact ⟨h1, by rw [h5]; exact on.2.1, by rw [h5]; exact on.2.2⟩
    · exact .inl (.inl ⟨q, q0, by omega, fun q' a0 a1 => by rw [show q' = q by omega]; exact h⟩)
theorem want_row {sh : Sh} {n : Nat} {ws : Nat → Int} {c K : Int} (hm : may sh.p sh.c sh.m = true) (hn : (n : Int) = words sh.p sh.c sh.m) (c0 : 0 ≤ c) (c1 : c < sh.c) (k0 : 0 ≤ K) (k1 : K ≤ 3) : Sa.Want sh (rowW n ws).ws c K ↔ Sa.Want sh ws c K := by
  have hb := (may_iff _ _ _).1 hm
  have hw : (n : Int) = sh.c + sh.p + sh.p * 16 + sh.c * sh.m := by rw [hn]; unfold words; rw [if_pos hm]
  have hs4 := slots_four k0 k1
  have key : ∀ j : Nat, j < n → (rowW n ws).ws j = ws j := fun j hj => if_pos hj
  have hmul : 0 ≤ c * sh.m := Int.mul_nonneg c0 (by omega)
  have hmul2 : c * sh.m + sh.m ≤ sh.c * sh.m := by
    have := Int.mul_le_mul_of_nonneg_right (by omega : c + 1 ≤ sh.c) (by omega : 0 ≤ sh.m)
    rw [Int.add_mul] at this; omega
  have hp : ∀ q, 0 ≤ q → q < sh.p → pgAt sh (rowW n ws).ws q = pgAt sh ws q := fun q q0 q1 => by unfold pgAt; rw [page_yes hm q0 q1]; exact key _ (by omega)
  have hs : ∀ q i, 0 ≤ q → q < sh.p → 0 ≤ i → i < 16 → slAt sh (rowW n ws).ws q i = slAt sh ws q i := fun q i q0 q1 i0 i1 => key _ (by omega)
  have hg : ∀ i, 0 ≤ i → i < sh.m → mgAt sh (rowW n ws).ws c i = mgAt sh ws c i := fun i i0 i1 => key _ (by omega)
  unfold Sa.Want Sa.Has
  refine or_congr (exists_congr fun i => and_congr_right fun i0 => and_congr_right fun i1 => by rw [hg i i0 i1]) (or_congr (exists_congr fun q => exists_congr fun i => and_congr_right fun q0 => and_congr_right fun q1 => ?_) (exists_congr fun q => and_congr_right fun q0 => and_congr_right fun q1 => free_row hm hn q0 q1))
  rw [hp q q0 q1]
  exact and_congr_right fun _ => and_congr_right fun _ => and_congr_right fun i0 => and_congr_right fun i1 => by rw [hs q i q0 q1 i0 (by omega)]
section
variable {W : World} {H h : Hp} {l : List Hp} {n cap : Nat} {a : Option Addr} {ws : Nat → Int}
def sfG (K : Int) (x z n cap : Nat) (a : Option Addr) (F' : Fr) : Prop := gt F' 1 = .slice a n cap ∧ gt F' 3 = .pointer (some ⟨x, 0, none⟩) ∧ gt F' 5 = .pointer (some ⟨z, 0, none⟩) ∧ gt F' 7 = .int .i64 K
def sfA (R : Prop) (sh : Sh) (ws : Nat → Int) (K : Int) (x z n cap : Nat) (a : Option Addr) (L : List Hp) (F' : Fr) (H' : Hp) : Prop :=
  ∃ (p : Nat) (wb : Bool), (p : Int) ≤ sh.p ∧ gt F' 9 = .int .i64 (p : Int) ∧ gt F' 8 = .bool wb ∧ sfG K x z n cap a F' ∧ (wb = true ↔ Wp R sh ws K p 0) ∧ Sep L H'
def sfB (p : Nat) (R : Prop) (sh : Sh) (ws : Nat → Int) (K : Int) (x z n cap : Nat) (a : Option Addr) (L : List Hp) (F' : Fr) (H' : Hp) : Prop :=
  ∃ (i : Nat) (wb : Bool), i ≤ 16 ∧ gt F' 10 = .int .i64 (i : Int) ∧ gt F' 9 = .int .i64 (p : Int) ∧ gt F' 8 = .bool wb ∧ sfG K x z n cap a F' ∧ (wb = true ↔ Wp R sh ws K p i) ∧ Sep L H'
def sfC (p i : Nat) (wb : Bool) (sh : Sh) (ws : Nat → Int) (K : Int) (x z n cap : Nat) (a : Option Addr) (L : List Hp) (F' : Fr) (H' : Hp) : Prop :=
  gt F' 10 = .int .i64 (i : Int) ∧ gt F' 9 = .int .i64 (p : Int) ∧ gt F' 8 = .bool wb ∧ sfG K x z n cap a F' ∧ ∃ y, gt F' 11 = .pointer (some ⟨y, 0, none⟩) ∧ Sep (sg y (.cells #[.int .i64 (pgK sh p (pgAt sh ws p)), .int .i64 (pgA sh p (pgAt sh ws p)), .int .i64 (pgB sh p (pgAt sh ws p))] 59 (0, 0)) :: L) H'
def sfD (R : Prop) (sh : Sh) (ws : Nat → Int) (c K : Int) (x z n cap : Nat) (a : Option Addr) (L : List Hp) (F' : Fr) (H' : Hp) : Prop :=
  ∃ (i : Nat) (wb : Bool), (i : Int) ≤ sh.m ∧ gt F' 14 = .int .i64 (i : Int) ∧ gt F' 8 = .bool wb ∧ sfG K x z n cap a F' ∧ (wb = true ↔ Wm R sh ws c K i) ∧ Sep L H'
def sfE (i : Nat) (wb ok : Bool) (vs : Array Value) (K : Int) (x z n cap : Nat) (a : Option Addr) (L : List Hp) (F' : Fr) (H' : Hp) : Prop :=
  gt F' 14 = .int .i64 (i : Int) ∧ gt F' 8 = .bool wb ∧ gt F' 16 = .bool ok ∧ sfG K x z n cap a F' ∧ ∃ y, gt F' 15 = .pointer (some ⟨y, 0, none⟩) ∧ Sep (sg y (.cells vs 83 (0, 0)) :: L) H'
def sfF (wb : Bool) (sh : Sh) (K : Int) (x z n cap : Nat) (a : Option Addr) (L : List Hp) (F' : Fr) (H' : Hp) : Prop :=
  ∃ f : Nat, (f : Int) ≤ sh.p ∧ gt F' 17 = .int .i64 (f : Int) ∧ gt F' 8 = .bool wb ∧ sfG K x z n cap a F' ∧ Sep L H'
def sfI (f : Nat) (wb : Bool) (sh : Sh) (ws0 : Nat → Int) (c K B : Int) (b k s x z n cap : Nat) (a : Option Addr) (L : List Hp) (F' : Fr) (H' : Hp) : Prop :=
  ∃ (i : Int) (kn : Nat) (t : Sk) (w : Wd), 0 ≤ i ∧ i ≤ B ∧ gt F' 20 = .int .i64 i ∧ gt F' 18 = .pointer (some ⟨b, 0, none⟩) ∧ gt F' 19 = .pointer (some ⟨k, 0, none⟩) ∧ gt F' 17 = .int .i64 (f : Int) ∧ gt F' 8 = .bool wb ∧ sfG K x z n cap a F' ∧ w.n = n ∧ Sa.Al sh ws0 c K f t w ∧ t.left ≤ max 0 (B - i) ∧ Sep (skB k kn t :: nwB kn t.nw :: wB b s w :: wR s w :: L) H'
def sfH (f : Nat) (wb fd : Bool) (pg sl v : Int) (w : Wd) (sh : Sh) (K : Int) (b s x z n cap : Nat) (a : Option Addr) (L : List Hp) (F' : Fr) (H' : Hp) : Prop :=
  gt F' 18 = .pointer (some ⟨b, 0, none⟩) ∧ gt F' 17 = .int .i64 (f : Int) ∧ gt F' 8 = .bool wb ∧ gt F' 21 = .int .i64 pg ∧ gt F' 22 = .int .i64 sl ∧ gt F' 23 = .bool fd ∧ sfG K x z n cap a F' ∧
    ∃ y, gt F' 24 = .pointer (some ⟨y, 0, none⟩) ∧ Sep (wB b s w :: wR s w :: sg y (.cells #[.int .i64 (pgK sh pg v), .int .i64 (pgA sh pg v), .int .i64 (pgB sh pg v)] 59 (0, 0)) :: L) H'
set_option maxHeartbeats 8000000 in
theorem c_seekfirst (sh : Sh) (c n1 n2 : Int) (hr : RowU h a n ws) (hU : ∀ i, i < n → U (ws i)) (hS : Sep (h :: l) H) :
    CallP Try.prog W 10 #[.agg #[.int .i64 sh.p, .int .i64 sh.c, .int .i64 sh.m], .slice a n cap, .agg #[.int .i64 c, .int .i64 n1, .int .i64 n2]] H fun v H' => v = .bool true ∧ Sep (h :: l) H' := by
  refine CallP.of mixed Try.func10 tr10 (by show 3 ≤ _; decide) fun W _ => ?_
  simp only [↓D0, ↓D1, ↓D2, ↓D3, ↓D4, ↓D5, ↓D6, ↓D7, ↓D8, ↓D9, ↓D10, U0, U1, U2, U3, U4, U5, U6, U7, U8, U9, U10, ↓reduceIte, Nat.reduceAdd, Nat.reduceMul, Nat.reduceSub, Nat.reduceEqDiff, Nat.reduceBEq, Nat.reduceLeDiff, Nat.reduceLT, Int.reduceAdd, Int.reduceMul, Int.reduceSub, Int.reduceLT, Int.reduceLE, Int.reduceToNat, Int.reduceEq, Int.reduceNe, Int.reduceBEq, Int.reduceBNe, ne_eq, eq_self]
  refine newB_intro fun x hx f1 f2 => ?_
  simp only [↓D0, ↓D1, ↓D2, ↓D3, ↓D4, ↓D5, ↓D6, ↓D7, ↓D8, ↓D9, ↓D10, U0, U1, U2, U3, U4, U5, U6, U7, U8, U9, U10, ↓reduceIte, Nat.reduceAdd, Nat.reduceMul, Nat.reduceSub, Nat.reduceEqDiff, Nat.reduceBEq, Nat.reduceLeDiff, Nat.reduceLT, Int.reduceAdd, Int.reduceMul, Int.reduceSub, Int.reduceLT, Int.reduceLE, Int.reduceToNat, Int.reduceEq, Int.reduceNe, Int.reduceBEq, Int.reduceBNe, ne_eq, eq_self]
  refine newB_intro fun z hz f3 f4 => ?_
  simp only [↓D0, ↓D1, ↓D2, ↓D3, ↓D4, ↓D5, ↓D6, ↓D7, ↓D8, ↓D9, ↓D10, U0, U1, U2, U3, U4, U5, U6, U7, U8, U9, U10, ↓reduceIte, Nat.reduceAdd, Nat.reduceMul, Nat.reduceSub, Nat.reduceEqDiff, Nat.reduceBEq, Nat.reduceLeDiff, Nat.reduceLT, Int.reduceAdd, Int.reduceMul, Int.reduceSub, Int.reduceLT, Int.reduceLE, Int.reduceToNat, Int.reduceEq, Int.reduceNe, Int.reduceBEq, Int.reduceBNe, ne_eq, eq_self]
  have hS := (hS.new f1 (.cells #[.int .i64 sh.p, .int .i64 sh.c, .int .i64 sh.m] 23 (0, 0))).new f3 (.cells #[.int .i64 c, .int .i64 n1, .int .i64 n2] 86 (0, 0))
  have nzx := hS.neq 0 1 (by decide) rfl rfl
  have nxz := hS.qen 0 1 (by decide) rfl rfl
  refine callT_of (c_awake13 hS) ?_
  rintro v H' ⟨rfl, hS⟩
  have hx1 := hS.lk 1 rfl
  have r0 := fun o => rd_of hx1 o
  have r1 := fun o n => rdn_of hx1 o n
  simp only [hx1, r1, ↓D0, ↓D1, ↓D2, ↓D3, ↓D4, ↓D5, ↓D6, ↓D7, ↓D8, ↓D9, ↓D10, U0, U1, U2, U3, U4, U5, U6, U7, U8, U9, U10, ↓reduceIte, Nat.reduceAdd, Nat.reduceMul, Nat.reduceSub, Nat.reduceEqDiff, Nat.reduceBEq, Nat.reduceLeDiff, Nat.reduceLT, Int.reduceAdd, Int.reduceMul, Int.reduceSub, Int.reduceLT, Int.reduceLE, Int.reduceToNat, Int.reduceEq, Int.reduceNe, Int.reduceBEq, Int.reduceBNe, ne_eq, eq_self]
  refine callT_of (c_fair (sh := sh) hS) ?_
  rintro v H' ⟨rfl, hS⟩
  have hx1 := hS.lk 1 rfl
  have r0 := fun o => rd_of hx1 o
  have r1 := fun o n => rdn_of hx1 o n
  cases hfair : (may sh.p sh.c sh.m && ((n : Int) == words sh.p sh.c sh.m))
  · simp only [hfair, ↓D0, ↓D1, ↓D2, ↓D3, ↓D4, ↓D5, ↓D6, ↓D7, ↓D8, ↓D9, ↓D10, U0, U1, U2, U3, U4, U5, U6, U7, U8, U9, U10, ↓reduceIte, Nat.reduceAdd, Nat.reduceMul, Nat.reduceSub, Nat.reduceEqDiff, Nat.reduceBEq, Nat.reduceLeDiff, Nat.reduceLT, Int.reduceAdd, Int.reduceMul, Int.reduceSub, Int.reduceLT, Int.reduceLE, Int.reduceToNat, Int.reduceEq, Int.reduceNe, Int.reduceBEq, Int.reduceBNe, ne_eq, eq_self]
    exact hS.tail.tail
  have hfair' := hfair
  simp only [Bool.and_eq_true, beq_iff_eq] at hfair
  obtain ⟨hm, hn⟩ := hfair
  simp only [hfair', hx1, r0, r1, ↓D0, ↓D1, ↓D2, ↓D3, ↓D4, ↓D5, ↓D6, ↓D7, ↓D8, ↓D9, ↓D10, U0, U1, U2, U3, U4, U5, U6, U7, U8, U9, U10, ↓reduceIte, Nat.reduceAdd, Nat.reduceMul, Nat.reduceSub, Nat.reduceEqDiff, Nat.reduceBEq, Nat.reduceLeDiff, Nat.reduceLT, Int.reduceAdd, Int.reduceMul, Int.reduceSub, Int.reduceLT, Int.reduceLE, Int.reduceToNat, Int.reduceEq, Int.reduceNe, Int.reduceBEq, Int.reduceBNe, ne_eq, eq_self]
  refine callT_of (c_soundV hm hn hr hU hS.p2) ?_
  rintro v H' ⟨sb, rfl, hsnd, hS⟩
  cases sb
  · simp only [↓D0, ↓D1, ↓D2, ↓D3, ↓D4, ↓D5, ↓D6, ↓D7, ↓D8, ↓D9, ↓D10, U0, U1, U2, U3, U4, U5, U6, U7, U8, U9, U10, ↓reduceIte, Nat.reduceAdd, Nat.reduceMul, Nat.reduceSub, Nat.reduceEqDiff, Nat.reduceBEq, Nat.reduceLeDiff, Nat.reduceLT, Int.reduceAdd, Int.reduceMul, Int.reduceSub, Int.reduceLT, Int.reduceLE, Int.reduceToNat, Int.reduceEq, Int.reduceNe, Int.reduceBEq, Int.reduceBNe, ne_eq, eq_self]
    exact hS.p1.tail.p1.tail
  have hsnd0 := hsnd.1 rfl
  clear hsnd
  have hx1 := hS.lk 2 rfl
  have hz1 := hS.lk 1 rfl
  have r1 := fun o n => rdn_of hx1 o n
  have r2 := fun o => rd_of hz1 o
  have i0 : (0 : Int) < ((3 : Nat) : Int) := by decide
  have i1 : (1 : Int) < ((3 : Nat) : Int) := by decide
  by_cases hst : status sh.p sh.c sh.m c < 0
  · have g3 : decide (status sh.p sh.c sh.m c < 0) = true := decide_eq_true hst
    simp only [hx1, hz1, r1, r2, i0, u_status, g3, ↓D0, ↓D1, ↓D2, ↓D3, ↓D4, ↓D5, ↓D6, ↓D7, ↓D8, ↓D9, ↓D10, U0, U1, U2, U3, U4, U5, U6, U7, U8, U9, U10, ↓reduceIte, Nat.reduceAdd, Nat.reduceMul, Nat.reduceSub, Nat.reduceEqDiff, Nat.reduceBEq, Nat.reduceLeDiff, Nat.reduceLT, Int.reduceAdd, Int.reduceMul, Int.reduceSub, Int.reduceLT, Int.reduceLE, Int.reduceToNat, Int.reduceEq, Int.reduceNe, Int.reduceBEq, Int.reduceBNe, ne_eq, eq_self]
    exact hS.p1.tail.p1.tail
  have g3 : decide (status sh.p sh.c sh.m c < 0) = false := decide_eq_false hst
  have hcb : 0 ≤ c ∧ c < sh.c := by
    unfold status within at hst
    rw [hm] at hst
    simp at hst
    omega
  have hwl := words_le hm
  have hwg := words_ge hm hn
  have hn2 : n ≤ 2000 := by omega
  have hb := (may_iff _ _ _).1 hm
  have t0 : -4 < n1.tmod 4 := Int.lt_tmod_of_pos n1 (by decide)
  have t1 : n1.tmod 4 < 4 := Int.tmod_lt_of_pos n1 (by decide)
  have t2 : (n1.tmod 4 + 4).tmod 4 = (n1.tmod 4 + 4) % 4 := Int.tmod_eq_emod_of_nonneg (by omega)
  have t3 : w64 (n1.tmod 4 + 4) = n1.tmod 4 + 4 := w64_eq (by omega) (by omega)
  obtain ⟨K, hK⟩ : ∃ K, (n1.tmod 4 + 4) % 4 = K := ⟨_, rfl⟩
  have hKb : 0 ≤ K ∧ K ≤ 3 := by omega
  have hKK : (w64 (n1.tmod 4 + 4)).tmod 4 = K := by rw [t3, t2, hK]
  have hok : ∀ q : Nat, (q : Int) < sh.p → okPg sh q (pgAt sh ws q) = true := fun q hq => (hsnd0.pg q hq).1
  simp only [hx1, hz1, r1, r2, i0, i1, u_status, g3, wrap_w64, t2, t3, hK, ↓D0, ↓D1, ↓D2, ↓D3, ↓D4, ↓D5, ↓D6, ↓D7, ↓D8, ↓D9, ↓D10, U0, U1, U2, U3, U4, U5, U6, U7, U8, U9, U10, ↓reduceIte, Nat.reduceAdd, Nat.reduceMul, Nat.reduceSub, Nat.reduceEqDiff, Nat.reduceBEq, Nat.reduceLeDiff, Nat.reduceLT, Int.reduceAdd, Int.reduceMul, Int.reduceSub, Int.reduceLT, Int.reduceLE, Int.reduceToNat, Int.reduceEq, Int.reduceNe, Int.reduceBEq, Int.reduceBNe, ne_eq, eq_self]
  refine callT_of (c_room 1 1 (.inr ⟨by decide, by decide, rfl⟩) (by decide) hm hn hr hU hok hS) ?_
  rintro v H' ⟨rb, rfl, hrb, hS⟩
  have hx1 := hS.lk 2 rfl
  have r1 := fun o n => rdn_of hx1 o n
  obtain ⟨R, hR⟩ : ∃ R : Prop, R = (∃ g, 0 ≤ g ∧ g + 1 ≤ sh.p ∧ ∀ q, g ≤ q → q < g + 1 → Rw.Free sh ws q) := ⟨_, rfl⟩
  rw [← hR] at hrb
  obtain ⟨L, hL⟩ : ∃ L, h :: sg z (.cells #[.int .i64 c, .int .i64 n1, .int .i64 n2] 86 (0, 0)) :: sg x (.cells #[.int .i64 sh.p, .int .i64 sh.c, .int .i64 sh.m] 23 (0, 0)) :: l = L := ⟨_, rfl⟩
  have L0 : L[0]? = some h := by subst hL; rfl
  have L1 : L[1]? = some (sg z (.cells #[.int .i64 c, .int .i64 n1, .int .i64 n2] 86 (0, 0))) := by subst hL; rfl
  have L2 : L[2]? = some (sg x (.cells #[.int .i64 sh.p, .int .i64 sh.c, .int .i64 sh.m] 23 (0, 0))) := by subst hL; rfl
  have fin : ∀ H', Sep L H' → Sep (h :: l) H' := fun H' hS => by subst hL; exact hS.p1.tail.p1.tail
  rw [hL] at hS
  have hr0 := hr
  rcases hr with hr1 | ⟨b1, o1, rfl, hq1⟩
  · omega
  simp only [↓D0, ↓D1, ↓D2, ↓D3, ↓D4, ↓D5, ↓D6, ↓D7, ↓D8, ↓D9, ↓D10, U0, U1, U2, U3, U4, U5, U6, U7, U8, U9, U10, ↓reduceIte, Nat.reduceAdd, Nat.reduceMul, Nat.reduceSub, Nat.reduceEqDiff, Nat.reduceBEq, Nat.reduceLeDiff, Nat.reduceLT, Int.reduceAdd, Int.reduceMul, Int.reduceSub, Int.reduceLT, Int.reduceLE, Int.reduceToNat, Int.reduceEq, Int.reduceNe, Int.reduceBEq, Int.reduceBNe, ne_eq, eq_self]
  refine loop_intro (sfA R sh ws K x z n cap (some ⟨b1, o1, none⟩) L) (fun F' _ => (sh.p - iv (gt F' 9)).toNat)
    ⟨0, rb, by omega, by simp [gt], by simp [gt], ⟨by simp [gt], by simp [gt], by simp [gt], by simp [gt, hKK]⟩, hrb.trans Wp.zero.symm, hS⟩ ?_
  clear hS hx1 r1 hrb
  rintro F' H' ⟨p, wb, hp, e9, e8, ⟨e1, e3, e5, e7⟩, hwb, hS⟩
  have hx1 := hS.lk 2 L2
  have r0 := fun o => rd_of hx1 o
  by_cases hlt : (p : Int) < sh.p
  · have d1 : decide ((p : Int) < sh.p) = true := decide_eq_true hlt
    have wi : w64 ((p : Int) + 1) = ((p + 1 : Nat) : Int) := by rw [w64_eq (by omega) (by omega)]; omega
    simp only [e9, e8, e1, e3, e5, e7, hx1, r0, d1, ↓D0, ↓D1, ↓D2, ↓D3, ↓D4, ↓D5, ↓D6, ↓D7, ↓D8, ↓D9, ↓D10, U0, U1, U2, U3, U4, U5, U6, U7, U8, U9, U10, ↓reduceIte, Nat.reduceAdd, Nat.reduceMul, Nat.reduceSub, Nat.reduceEqDiff, Nat.reduceBEq, Nat.reduceLeDiff, Nat.reduceLT, Int.reduceAdd, Int.reduceMul, Int.reduceSub, Int.reduceLT, Int.reduceLE, Int.reduceToNat, Int.reduceEq, Int.reduceNe, Int.reduceBEq, Int.reduceBNe, ne_eq, eq_self]
    refine loop_intro (sfB p R sh ws K x z n cap (some ⟨b1, o1, none⟩) L) (fun F' _ => (16 - iv (gt F' 10)).toNat)
      ⟨0, wb, by omega, by simp [gt], by simp [gt, e9], by simp [gt, e8], ⟨by simp [gt, e1], by simp [gt, e3], by simp [gt, e5], by simp [gt, e7]⟩, hwb, hS⟩ ?_
    clear hS hx1 r0 hwb e8 e1 e3 e5 e7
    have e9o := e9
    clear e9
    rintro F'' H' ⟨i, wb, hi, e10, e9, e8, ⟨e1, e3, e5, e7⟩, hwb, hS⟩
    have hx1 := hS.lk 2 L2
    have r1 := fun o n => rdn_of hx1 o n
    by_cases hil : i < 16
    rotate_left
    · have hi16 : i = 16 := by omega
      subst hi16
      have d2 : decide (((16 : Nat) : Int) < 16) = false := by decide
      simp only [e10, e9, e8, e1, e3, e5, e7, d2, wrap_w64, wi, ↓D0, ↓D1, ↓D2, ↓D3, ↓D4, ↓D5, ↓D6, ↓D7, ↓D8, ↓D9, ↓D10, U0, U1, U2, U3, U4, U5, U6, U7, U8, U9, U10, ↓reduceIte, Nat.reduceAdd, Nat.reduceMul, Nat.reduceSub, Nat.reduceEqDiff, Nat.reduceBEq, Nat.reduceLeDiff, Nat.reduceLT, Int.reduceAdd, Int.reduceMul, Int.reduceSub, Int.reduceLT, Int.reduceLE, Int.reduceToNat, Int.reduceEq, Int.reduceNe, Int.reduceBEq, Int.reduceBNe, ne_eq, eq_self]
      exact ⟨⟨p + 1, wb, by omega, by simp [gt], by simp [gt, e8], ⟨by simp [gt, e1], by simp [gt, e3], by simp [gt, e5], by simp [gt, e7]⟩, hwb.trans Wp.row.symm, hS⟩, by simp [gt, iv, e9o]; omega⟩
    have d2 : decide ((i : Int) < 16) = true := decide_eq_true (by omega)
    have wj : w64 ((i : Int) + 1) = ((i + 1 : Nat) : Int) := by rw [w64_eq (by omega) (by omega)]; omega
    have hpg : page sh.p sh.c sh.m p = sh.c + p := page_yes hm (by omega) hlt
    have p0 : (0 : Int) ≤ sh.c + p := by omega
    have p1 : sh.c + p < (n : Int) := by omega
    have hat : ws (sh.c + (p : Int)).toNat = pgAt sh ws p := by unfold pgAt; rw [hpg]
    have hu : U (pgAt sh ws p) := by rw [← hat]; exact hU _ (by omega)
    obtain ⟨cc, T, ff, hc, hco, hfar⟩ := part_cell hS 0 L0 (hq1 (sh.c + (p : Int)).toNat (by omega))
    rw [hat] at hco
    obtain ⟨m1, m2⟩ := hfar 2 x _ (by decide) L2
    have r2 := fun o => rd_of hc o
    simp only [e10, e9, e8, e1, e3, e5, e7, d2, ↓D0, ↓D1, ↓D2, ↓D3, ↓D4, ↓D5, ↓D6, ↓D7, ↓D8, ↓D9, ↓D10, U0, U1, U2, U3, U4, U5, U6, U7, U8, U9, U10, ↓reduceIte, Nat.reduceAdd, Nat.reduceMul, Nat.reduceSub, Nat.reduceEqDiff, Nat.reduceBEq, Nat.reduceLeDiff, Nat.reduceLT, Int.reduceAdd, Int.reduceMul, Int.reduceSub, Int.reduceLT, Int.reduceLE, Int.reduceToNat, Int.reduceEq, Int.reduceNe, Int.reduceBEq, Int.reduceBNe, ne_eq, eq_self]
    refine draw_cut [(x, #[.int .i64 sh.p, .int .i64 sh.c, .int .i64 sh.m], []), (b1, cc, [])] (sfC p i wb sh ws K x z n cap (some ⟨b1, o1, none⟩) L) (by simp only [hx1, hc, ↓D0, ↓D1, ↓D2, ↓D3, ↓D4, ↓D5, ↓D6, ↓D7, ↓D8, ↓D9, ↓D10, U0, U1, U2, U3, U4, U5, U6, U7, U8, U9, U10, ↓reduceIte, Nat.reduceAdd, Nat.reduceMul, Nat.reduceSub, Nat.reduceEqDiff, Nat.reduceBEq, Nat.reduceLeDiff, Nat.reduceLT, Int.reduceAdd, Int.reduceMul, Int.reduceSub, Int.reduceLT, Int.reduceLE, Int.reduceToNat, Int.reduceEq, Int.reduceNe, Int.reduceBEq, Int.reduceBNe, ne_eq, eq_self]) ?_ ?_
    · simp only [e10, e9, e8, e1, e3, e5, e7, hx1, r1, p0, p1, hc, r2, hco, m1, m2, u_page, hpg, u_readpg sh p hu, ↓e_dalt2, ↓D0, ↓D1, ↓D2, ↓D3, ↓D4, ↓D5, ↓D6, ↓D7, ↓D8, ↓D9, ↓D10, U0, U1, U2, U3, U4, U5, U6, U7, U8, U9, U10, ↓reduceIte, Nat.reduceAdd, Nat.reduceMul, Nat.reduceSub, Nat.reduceEqDiff, Nat.reduceBEq, Nat.reduceLeDiff, Nat.reduceLT, Int.reduceAdd, Int.reduceMul, Int.reduceSub, Int.reduceLT, Int.reduceLE, Int.reduceToNat, Int.reduceEq, Int.reduceNe, Int.reduceBEq, Int.reduceBNe, ne_eq, eq_self]
      refine ⟨⟨?_, ?_⟩, ?_⟩
      all_goals
        refine newB_intro fun y hy f3 f4 => ?_
        have nxy : (x = y) = False := f3 x (by rw [hx1]; rfl)
        have nyx : (y = x) = False := f4 x (by rw [hx1]; rfl)
        have nby : (b1 = y) = False := f3 b1 (by rw [hc]; rfl)
        have nyb : (y = b1) = False := f4 b1 (by rw [hc]; rfl)
        have hS := hS.new f3 (.cells #[.int .i64 (pgK sh p (pgAt sh ws p)), .int .i64 (pgA sh p (pgAt sh ws p)), .int .i64 (pgB sh p (pgAt sh ws p))] 59 (0, 0))
        simp only [e10, e9, e8, e1, e3, e5, e7, hx1, r1, p0, p1, hc, r2, hco, m1, m2, nxy, nyx, nby, nyb, u_page, hpg, u_readpg sh p hu, Ev.upd_upd, ↓D0, ↓D1, ↓D2, ↓D3, ↓D4, ↓D5, ↓D6, ↓D7, ↓D8, ↓D9, ↓D10, U0, U1, U2, U3, U4, U5, U6, U7, U8, U9, U10, ↓reduceIte, Nat.reduceAdd, Nat.reduceMul, Nat.reduceSub, Nat.reduceEqDiff, Nat.reduceBEq, Nat.reduceLeDiff, Nat.reduceLT, Int.reduceAdd, Int.reduceMul, Int.reduceSub, Int.reduceLT, Int.reduceLE, Int.reduceToNat, Int.reduceEq, Int.reduceNe, Int.reduceBEq, Int.reduceBNe, ne_eq, eq_self]
        exact ⟨by simp [gt, e10], by simp [gt, e9], by simp [gt, e8], ⟨by simp [gt, e1], by simp [gt, e3], by simp [gt, e5], by simp [gt, e7]⟩, y, by simp [gt], hS⟩
    clear hx1 r1 hc r2 hco m1 m2 hfar hS hat hu
    have e10o := e10
    clear e10 e9 e8 e1 e3 e5 e7
    rintro F3 H' ⟨e10, e9, e8, ⟨e1, e3, e5, e7⟩, y, e11, hS⟩
    have hx1 := hS.lk 3 L2
    have r1 := fun o n => rdn_of hx1 o n
    have hy1 := hS.look
    have r0 := fun o => rd_of hy1 o
    have hsl : slot sh.p sh.c sh.m p i = sh.c + sh.p + (p : Int) * 16 + i := slot_yes hm (by omega) hlt (by omega) (by omega)
    obtain ⟨v, hv⟩ : ∃ v, slAt sh ws p i = v := ⟨_, rfl⟩
    have hat : ws (sh.c + sh.p + (p : Int) * 16 + (i : Int)).toNat = v := hv
    have s0 : (0 : Int) ≤ sh.c + sh.p + (p : Int) * 16 + i := by omega
    have s1 : sh.c + sh.p + (p : Int) * 16 + (i : Int) < (n : Int) := by omega
    have hu : U v := by rw [← hat]; exact hU _ (by omega)
    obtain ⟨cc, T, ff, hc, hco, hfar⟩ := part_cell hS 1 L0 (hq1 (sh.c + sh.p + (p : Int) * 16 + (i : Int)).toNat (by omega))
    rw [hat] at hco
    obtain ⟨m1, m2⟩ := hfar 3 x _ (by decide) L2
    obtain ⟨m3, m4⟩ := hfar 0 y _ (by decide) rfl
    have r2 := fun o => rd_of hc o
    obtain ⟨ix, hix⟩ : ∃ ix, sh.c + sh.p + (p : Int) * 16 + (i : Int) = ix := ⟨_, rfl⟩
    rw [hix] at hsl s0 s1 hco
    have hHq : Hq sh ws K p i ↔ pgK sh p (pgAt sh ws p) = 2 ∧ slK v = 1 ∧ slA v = K := by unfold Hq; rw [hv]
    have hnx := (Wp.next (R := R) (sh := sh) (ws := ws) (K := K) (p := p) (i := i) hil)
    rw [hHq] at hnx
    simp only [e10, e9, e8, e1, e3, e5, e7, e11, hx1, r1, s0, s1, hc, r2, hco, m1, m2, u_slot, hsl, u_readsl hu, ↓D0, ↓D1, ↓D2, ↓D3, ↓D4, ↓D5, ↓D6, ↓D7, ↓D8, ↓D9, ↓D10, U0, U1, U2, U3, U4, U5, U6, U7, U8, U9, U10, ↓reduceIte, Nat.reduceAdd, Nat.reduceMul, Nat.reduceSub, Nat.reduceEqDiff, Nat.reduceBEq, Nat.reduceLeDiff, Nat.reduceLT, Int.reduceAdd, Int.reduceMul, Int.reduceSub, Int.reduceLT, Int.reduceLE, Int.reduceToNat, Int.reduceEq, Int.reduceNe, Int.reduceBEq, Int.reduceBNe, ne_eq, eq_self]
    refine newB_intro fun u hu2 f5 f6 => ?_
    have nyu : (y = u) = False := f5 y (by rw [hy1]; rfl)
    have nuy : (u = y) = False := f6 y (by rw [hy1]; rfl)
    have hS := hS.new f5 (.cells #[.int .i64 (slK v), .int .i64 (slA v)] 64 (0, 0))
    obtain ⟨a1, ha1⟩ : ∃ a1, (pgK sh p (pgAt sh ws p) == 2) = a1 := ⟨_, rfl⟩
    obtain ⟨a2, ha2⟩ : ∃ a2, (slK v == 1) = a2 := ⟨_, rfl⟩
    obtain ⟨a3, ha3⟩ : ∃ a3, (slA v == K) = a3 := ⟨_, rfl⟩
    have hwb2 : ((wb || (a1 && a2 && a3)) = true ↔ Wp R sh ws K p (i + 1)) := by
      rw [hnx, ← hwb, ← ha1, ← ha2, ← ha3]; simp [and_assoc]
    simp only [e10, e9, e8, e1, e3, e5, e7, e11, nyu, nuy, hy1, r0, Ev.upd_upd, ↓D0, ↓D1, ↓D2, ↓D3, ↓D4, ↓D5, ↓D6, ↓D7, ↓D8, ↓D9, ↓D10, U0, U1, U2, U3, U4, U5, U6, U7, U8, U9, U10, ↓reduceIte, Nat.reduceAdd, Nat.reduceMul, Nat.reduceSub, Nat.reduceEqDiff, Nat.reduceBEq, Nat.reduceLeDiff, Nat.reduceLT, Int.reduceAdd, Int.reduceMul, Int.reduceSub, Int.reduceLT, Int.reduceLE, Int.reduceToNat, Int.reduceEq, Int.reduceNe, Int.reduceBEq, Int.reduceBNe, ne_eq, eq_self]
    rw [Ev.upd_upd]
    cases wb <;> cases a1 <;> cases a2 <;> cases a3
    all_goals
      simp only [e10, e9, e8, e1, e3, e5, e7, e11, nyu, nuy, hy1, r0, ha1, ha2, ha3, wrap_w64, wj, Ev.upd_upd, ↓D0, ↓D1, ↓D2, ↓D3, ↓D4, ↓D5, ↓D6, ↓D7, ↓D8, ↓D9, ↓D10, U0, U1, U2, U3, U4, U5, U6, U7, U8, U9, U10, ↓reduceIte, Nat.reduceAdd, Nat.reduceMul, Nat.reduceSub, Nat.reduceEqDiff, Nat.reduceBEq, Nat.reduceLeDiff, Nat.reduceLT, Int.reduceAdd, Int.reduceMul, Int.reduceSub, Int.reduceLT, Int.reduceLE, Int.reduceToNat, Int.reduceEq, Int.reduceNe, Int.reduceBEq, Int.reduceBNe, ne_eq, eq_self]
      exact ⟨⟨i + 1, _, by omega, by simp [gt], by simp [gt, e9], by simp [gt, e8], ⟨by simp [gt, e1], by simp [gt, e3], by simp [gt, e5], by simp [gt, e7]⟩, hwb2, hS.tail.tail⟩, by simp [gt, iv, e10o, e10]; omega⟩
  have hpp : (p : Int) = sh.p := by omega
  have d1 : decide ((p : Int) < sh.p) = false := decide_eq_false hlt
  simp only [e9, e8, e1, e3, e5, e7, hx1, r0, d1, ↓D0, ↓D1, ↓D2, ↓D3, ↓D4, ↓D5, ↓D6, ↓D7, ↓D8, ↓D9, ↓D10, U0, U1, U2, U3, U4, U5, U6, U7, U8, U9, U10, ↓reduceIte, Nat.reduceAdd, Nat.reduceMul, Nat.reduceSub, Nat.reduceEqDiff, Nat.reduceBEq, Nat.reduceLeDiff, Nat.reduceLT, Int.reduceAdd, Int.reduceMul, Int.reduceSub, Int.reduceLT, Int.reduceLE, Int.reduceToNat, Int.reduceEq, Int.reduceNe, Int.reduceBEq, Int.reduceBNe, ne_eq, eq_self]
  have hmul : 0 ≤ c * sh.m := Int.mul_nonneg hcb.1 (by omega)
  have hmul2 : c * sh.m + sh.m ≤ sh.c * sh.m := by
    have := Int.mul_le_mul_of_nonneg_right (by omega : c + 1 ≤ sh.c) (by omega : 0 ≤ sh.m)
    rw [Int.add_mul] at this; omega
  have hnw : (n : Int) = sh.c + sh.p + sh.p * 16 + sh.c * sh.m := by rw [hn]; unfold words; rw [if_pos hm]
  refine loop_intro (sfD (Wp R sh ws K p 0) sh ws c K x z n cap (some ⟨b1, o1, none⟩) L) (fun F' _ => (sh.m - iv (gt F' 14)).toNat)
    ⟨0, wb, by omega, by simp [gt], by simp [gt, e8], ⟨by simp [gt, e1], by simp [gt, e3], by simp [gt, e5], by simp [gt, e7]⟩, hwb.trans Wm.zero.symm, hS⟩ ?_
  clear hS hx1 r0 hwb e9 e8 e1 e3 e5 e7
  rintro F' H' ⟨i, wb, hi, e14, e8, ⟨e1, e3, e5, e7⟩, hwb, hS⟩
  have hx1 := hS.lk 2 L2
  have r0 := fun o => rd_of hx1 o
  have r1 := fun o n => rdn_of hx1 o n
  by_cases hlt2 : (i : Int) < sh.m
  · have d2 : decide ((i : Int) < sh.m) = true := decide_eq_true hlt2
    have wj : w64 ((i : Int) + 1) = ((i + 1 : Nat) : Int) := by rw [w64_eq (by omega) (by omega)]; omega
    have hz1 := hS.lk 1 L1
    have r3 := fun o => rd_of hz1 o
    have hmg : mag sh.p sh.c sh.m c i = sh.c + sh.p + sh.p * 16 + c * sh.m + i := mag_yes hm hcb.1 hcb.2 (by omega) hlt2
    obtain ⟨v, hv⟩ : ∃ v, mgAt sh ws c i = v := ⟨_, rfl⟩
    have hat : ws (sh.c + sh.p + sh.p * 16 + c * sh.m + (i : Int)).toNat = v := hv
    have s0 : (0 : Int) ≤ sh.c + sh.p + sh.p * 16 + c * sh.m + i := by omega
    have s1 : sh.c + sh.p + sh.p * 16 + c * sh.m + (i : Int) < (n : Int) := by omega
    have hu : U v := by rw [← hat]; exact hU _ (by omega)
    obtain ⟨cc, T, ff, hc, hco, hfar⟩ := part_cell hS 0 L0 (hq1 (sh.c + sh.p + sh.p * 16 + c * sh.m + (i : Int)).toNat (by omega))
    rw [hat] at hco
    obtain ⟨m1, m2⟩ := hfar 2 x _ (by decide) L2
    obtain ⟨m3, m4⟩ := hfar 1 z _ (by decide) L1
    have r2 := fun o => rd_of hc o
    obtain ⟨ix, hix⟩ : ∃ ix, sh.c + sh.p + sh.p * 16 + c * sh.m + (i : Int) = ix := ⟨_, rfl⟩
    rw [hix] at hmg s0 s1 hco
    have nzx := hS.neq 1 2 (by decide) L1 L2
    have nxz := hS.qen 1 2 (by decide) L1 L2
    have hnx := (Wm.next (R := Wp R sh ws K p 0) (sh := sh) (ws := ws) (c := c) (K := K) (i := i))
    rw [hv] at hnx
    simp only [e14, e8, e1, e3, e5, e7, hx1, r0, d2, ↓D0, ↓D1, ↓D2, ↓D3, ↓D4, ↓D5, ↓D6, ↓D7, ↓D8, ↓D9, ↓D10, U0, U1, U2, U3, U4, U5, U6, U7, U8, U9, U10, ↓reduceIte, Nat.reduceAdd, Nat.reduceMul, Nat.reduceSub, Nat.reduceEqDiff, Nat.reduceBEq, Nat.reduceLeDiff, Nat.reduceLT, Int.reduceAdd, Int.reduceMul, Int.reduceSub, Int.reduceLT, Int.reduceLE, Int.reduceToNat, Int.reduceEq, Int.reduceNe, Int.reduceBEq, Int.reduceBNe, ne_eq, eq_self]
    refine draw_cut [(x, #[.int .i64 sh.p, .int .i64 sh.c, .int .i64 sh.m], []), (z, #[.int .i64 c, .int .i64 n1, .int .i64 n2], []), (b1, cc, [])] (sfE i wb (okEn sh v) #[.int .i64 (enP sh v), .int .i64 (enS sh v), .int .i64 (enK sh v)] K x z n cap (some ⟨b1, o1, none⟩) L) (by simp only [hx1, hz1, hc, ↓D0, ↓D1, ↓D2, ↓D3, ↓D4, ↓D5, ↓D6, ↓D7, ↓D8, ↓D9, ↓D10, U0, U1, U2, U3, U4, U5, U6, U7, U8, U9, U10, ↓reduceIte, Nat.reduceAdd, Nat.reduceMul, Nat.reduceSub, Nat.reduceEqDiff, Nat.reduceBEq, Nat.reduceLeDiff, Nat.reduceLT, Int.reduceAdd, Int.reduceMul, Int.reduceSub, Int.reduceLT, Int.reduceLE, Int.reduceToNat, Int.reduceEq, Int.reduceNe, Int.reduceBEq, Int.reduceBNe, ne_eq, eq_self]) ?_ ?_
    · simp only [e14, e8, e1, e3, e5, e7, hx1, r1, hz1, r3, i0, s0, s1, hc, r2, hco, m1, m2, m3, m4, nzx, nxz, u_mag, hmg, u_readen sh hu, ↓e_dalt2, ↓D0, ↓D1, ↓D2, ↓D3, ↓D4, ↓D5, ↓D6, ↓D7, ↓D8, ↓D9, ↓D10, U0, U1, U2, U3, U4, U5, U6, U7, U8, U9, U10, ↓reduceIte, Nat.reduceAdd, Nat.reduceMul, Nat.reduceSub, Nat.reduceEqDiff, Nat.reduceBEq, Nat.reduceLeDiff, Nat.reduceLT, Int.reduceAdd, Int.reduceMul, Int.reduceSub, Int.reduceLT, Int.reduceLE, Int.reduceToNat, Int.reduceEq, Int.reduceNe, Int.reduceBEq, Int.reduceBNe, ne_eq, eq_self]
      refine ⟨⟨?_, ?_⟩, ?_⟩
      all_goals
        refine newB_intro fun y hy f3 f4 => ?_
        have nxy : (x = y) = False := f3 x (by rw [hx1]; rfl)
        have nyx : (y = x) = False := f4 x (by rw [hx1]; rfl)
        have nzy : (z = y) = False := f3 z (by rw [hz1]; rfl)
        have nyz : (y = z) = False := f4 z (by rw [hz1]; rfl)
        have nby : (b1 = y) = False := f3 b1 (by rw [hc]; rfl)
        have nyb : (y = b1) = False := f4 b1 (by rw [hc]; rfl)
        have hS := hS.new f3 (.cells #[.int .i64 (enP sh v), .int .i64 (enS sh v), .int .i64 (enK sh v)] 83 (0, 0))
        simp only [e14, e8, e1, e3, e5, e7, hx1, r1, hz1, r3, i0, s0, s1, hc, r2, hco, m1, m2, m3, m4, nzx, nxz, nxy, nyx, nzy, nyz, nby, nyb, u_mag, hmg, u_readen sh hu, Ev.upd_upd, ↓D0, ↓D1, ↓D2, ↓D3, ↓D4, ↓D5, ↓D6, ↓D7, ↓D8, ↓D9, ↓D10, U0, U1, U2, U3, U4, U5, U6, U7, U8, U9, U10, ↓reduceIte, Nat.reduceAdd, Nat.reduceMul, Nat.reduceSub, Nat.reduceEqDiff, Nat.reduceBEq, Nat.reduceLeDiff, Nat.reduceLT, Int.reduceAdd, Int.reduceMul, Int.reduceSub, Int.reduceLT, Int.reduceLE, Int.reduceToNat, Int.reduceEq, Int.reduceNe, Int.reduceBEq, Int.reduceBNe, ne_eq, eq_self]
        exact ⟨by simp [gt, e14], by simp [gt, e8], by simp [gt], ⟨by simp [gt, e1], by simp [gt, e3], by simp [gt, e5], by simp [gt, e7]⟩, y, by simp [gt], hS⟩
    clear hx1 r1 r0 hc r2 r3 hz1 hco m1 m2 m3 m4 hfar hS hat hu
    have e14o := e14
    clear e14 e8 e1 e3 e5 e7
    rintro F3 H' ⟨e14, e8, e16, ⟨e1, e3, e5, e7⟩, y, e15, hS⟩
    have hy1 := hS.look
    have r0 := fun o => rd_of hy1 o
    obtain ⟨a1, ha1⟩ : ∃ a1, okEn sh v = a1 := ⟨_, rfl⟩
    obtain ⟨a2, ha2⟩ : ∃ a2, (enK sh v == K) = a2 := ⟨_, rfl⟩
    have hwb2 : ((wb || (a1 && a2)) = true ↔ Wm (Wp R sh ws K p 0) sh ws c K (i + 1)) := by
      rw [hnx, ← hwb, ← ha1, ← ha2]; simp
    rw [ha1] at e16
    cases wb <;> cases a1 <;> cases a2
    all_goals
      simp only [e14, e8, e16, e15, e1, e3, e5, e7, hy1, r0, ha1, ha2, wrap_w64, wj, ↓D0, ↓D1, ↓D2, ↓D3, ↓D4, ↓D5, ↓D6, ↓D7, ↓D8, ↓D9, ↓D10, U0, U1, U2, U3, U4, U5, U6, U7, U8, U9, U10, ↓reduceIte, Nat.reduceAdd, Nat.reduceMul, Nat.reduceSub, Nat.reduceEqDiff, Nat.reduceBEq, Nat.reduceLeDiff, Nat.reduceLT, Int.reduceAdd, Int.reduceMul, Int.reduceSub, Int.reduceLT, Int.reduceLE, Int.reduceToNat, Int.reduceEq, Int.reduceNe, Int.reduceBEq, Int.reduceBNe, ne_eq, eq_self]
      exact ⟨⟨i + 1, _, by omega, by simp [gt], by simp [gt, e8], ⟨by simp [gt, e1], by simp [gt, e3], by simp [gt, e5], by simp [gt, e7]⟩, hwb2, hS.tail⟩, by simp [gt, iv, e14o, e14]; omega⟩
  have hii : (i : Int) = sh.m := by omega
  have d2 : decide ((i : Int) < sh.m) = false := decide_eq_false hlt2
  simp only [e14, e8, e1, e3, e5, e7, hx1, r0, d2, ↓D0, ↓D1, ↓D2, ↓D3, ↓D4, ↓D5, ↓D6, ↓D7, ↓D8, ↓D9, ↓D10, U0, U1, U2, U3, U4, U5, U6, U7, U8, U9, U10, ↓reduceIte, Nat.reduceAdd, Nat.reduceMul, Nat.reduceSub, Nat.reduceEqDiff, Nat.reduceBEq, Nat.reduceLeDiff, Nat.reduceLT, Int.reduceAdd, Int.reduceMul, Int.reduceSub, Int.reduceLT, Int.reduceLE, Int.reduceToNat, Int.reduceEq, Int.reduceNe, Int.reduceBEq, Int.reduceBNe, ne_eq, eq_self]
  have hwant : wb = true ↔ Sa.Want sh (rowW n ws).ws c K := by
    rw [hwb, hR, want_of hm hsnd0 hKb.1 hKb.2 hpp hii, want_row hm hn hcb.1 hcb.2 hKb.1 hKb.2]
  have wm1 : w64 (80 * sh.p) = 80 * sh.p := w64_eq (by omega) (by omega)
  have wm2 : w64 (sh.m + 80 * sh.p) = sh.m + 80 * sh.p := w64_eq (by omega) (by omega)
  have wm3 : w64 (sh.m + 80 * sh.p + 80) = sh.m + 80 * sh.p + 80 := w64_eq (by omega) (by omega)
  obtain ⟨B, hB⟩ : ∃ B, sh.m + 80 * sh.p + 80 = B := ⟨_, rfl⟩
  rw [hB] at wm3
  refine loop_intro (sfF wb sh K x z n cap (some ⟨b1, o1, none⟩) L) (fun F' _ => (sh.p - iv (gt F' 17)).toNat)
    ⟨0, by omega, by simp [gt], by simp [gt, e8], ⟨by simp [gt, e1], by simp [gt, e3], by simp [gt, e5], by simp [gt, e7]⟩, hS⟩ ?_
  clear hS hx1 r1 r0 hwb e14 e8 e1 e3 e5 e7
  rintro F' H' ⟨f, hf, e17, e8, ⟨e1, e3, e5, e7⟩, hS⟩
  have hx1 := hS.lk 2 L2
  have r0 := fun o => rd_of hx1 o
  by_cases hlf : (f : Int) < sh.p
  · have df : decide ((f : Int) < sh.p) = true := decide_eq_true hlf
    have wf : w64 ((f : Int) + 1) = ((f + 1 : Nat) : Int) := by rw [w64_eq (by omega) (by omega)]; omega
    have hLn : (L[0]? = some h) := L0
    simp only [e17, e8, e1, e3, e5, e7, hx1, r0, df, ↓D0, ↓D1, ↓D2, ↓D3, ↓D4, ↓D5, ↓D6, ↓D7, ↓D8, ↓D9, ↓D10, U0, U1, U2, U3, U4, U5, U6, U7, U8, U9, U10, ↓reduceIte, Nat.reduceAdd, Nat.reduceMul, Nat.reduceSub, Nat.reduceEqDiff, Nat.reduceBEq, Nat.reduceLeDiff, Nat.reduceLT, Int.reduceAdd, Int.reduceMul, Int.reduceSub, Int.reduceLT, Int.reduceLE, Int.reduceToNat, Int.reduceEq, Int.reduceNe, Int.reduceBEq, Int.reduceBNe, ne_eq, eq_self]
    refine callT_of (c_fill hn2 hr0 (l := sg z (.cells #[.int .i64 c, .int .i64 n1, .int .i64 n2] 86 (0, 0)) :: sg x (.cells #[.int .i64 sh.p, .int .i64 sh.c, .int .i64 sh.m] 23 (0, 0)) :: l) (by rw [hL]; exact hS)) ?_
    rw [hL]
    rintro v H' ⟨b, s, rfl, hS⟩
    have hx1 := hS.lk 4 L2
    have r1 := fun o n => rdn_of hx1 o n
    have hz1 := hS.lk 3 L1
    have r3 := fun o => rd_of hz1 o
    have hof : (rowW n ws).of sh := rowW_of hn hU
    simp only [e17, e8, e1, e3, e5, e7, hx1, r1, hz1, r3, i0, ↓D0, ↓D1, ↓D2, ↓D3, ↓D4, ↓D5, ↓D6, ↓D7, ↓D8, ↓D9, ↓D10, U0, U1, U2, U3, U4, U5, U6, U7, U8, U9, U10, ↓reduceIte, Nat.reduceAdd, Nat.reduceMul, Nat.reduceSub, Nat.reduceEqDiff, Nat.reduceBEq, Nat.reduceLeDiff, Nat.reduceLT, Int.reduceAdd, Int.reduceMul, Int.reduceSub, Int.reduceLT, Int.reduceLE, Int.reduceToNat, Int.reduceEq, Int.reduceNe, Int.reduceBEq, Int.reduceBNe, ne_eq, eq_self]
    refine callT_of (c_sknew (sh := sh) hS) ?_
    rintro v H' ⟨k, kn, rfl, hS⟩
    have hAl := Sa.Al.init (k := K) (f := f) hm hof hcb.1 hcb.2 hKb.1 hKb.2 (by omega) hlf (snd_row' hm hn hsnd0)
    have hl0 := Sk.new_left sh c K f hm
    simp only [e17, e8, e1, e3, e5, e7, ↓D0, ↓D1, ↓D2, ↓D3, ↓D4, ↓D5, ↓D6, ↓D7, ↓D8, ↓D9, ↓D10, U0, U1, U2, U3, U4, U5, U6, U7, U8, U9, U10, ↓reduceIte, Nat.reduceAdd, Nat.reduceMul, Nat.reduceSub, Nat.reduceEqDiff, Nat.reduceBEq, Nat.reduceLeDiff, Nat.reduceLT, Int.reduceAdd, Int.reduceMul, Int.reduceSub, Int.reduceLT, Int.reduceLE, Int.reduceToNat, Int.reduceEq, Int.reduceNe, Int.reduceBEq, Int.reduceBNe, ne_eq, eq_self]
    refine loop_intro (sfI f wb sh (rowW n ws).ws c K B b k s x z n cap (some ⟨b1, o1, none⟩) L) (fun F' _ => (B - iv (gt F' 20)).toNat)
      ⟨0, kn, _, _, by omega, by omega, by simp [gt], by simp [gt], by simp [gt], by simp [gt, e17], by simp [gt, e8], ⟨by simp [gt, e1], by simp [gt, e3], by simp [gt, e5], by simp [gt, e7]⟩, rfl, hAl, by omega, hS⟩ ?_
    clear hS hAl hl0 hx1 hz1 r1 r3 r0 e8 e1 e3 e5 e7
    have e17o := e17
    clear e17
    rintro F'' H' ⟨i, kn, t, w, hi0, hi, e20, e18, e19, e17, e8, ⟨e1, e3, e5, e7⟩, hwn, hAl, hl, hS⟩
    have hx1 := hS.lk 6 L2
    have r0 := fun o => rd_of hx1 o
    by_cases hgo : i < B ∧ t.dn = false
    · obtain ⟨hlt, hdn⟩ := hgo
      have d3 : decide (i < B) = true := decide_eq_true hlt
      have wi : w64 (i + 1) = i + 1 := w64_eq (by omega) (by omega)
      have hts : t.s = sh := hAl.es
      simp only [e20, e18, e19, e17, e8, e1, e3, e5, e7, hx1, r0, wrap_w64, wm1, wm2, hB, wm3, d3, ↓D0, ↓D1, ↓D2, ↓D3, ↓D4, ↓D5, ↓D6, ↓D7, ↓D8, ↓D9, ↓D10, U0, U1, U2, U3, U4, U5, U6, U7, U8, U9, U10, ↓reduceIte, Nat.reduceAdd, Nat.reduceMul, Nat.reduceSub, Nat.reduceEqDiff, Nat.reduceBEq, Nat.reduceLeDiff, Nat.reduceLT, Int.reduceAdd, Int.reduceMul, Int.reduceSub, Int.reduceLT, Int.reduceLE, Int.reduceToNat, Int.reduceEq, Int.reduceNe, Int.reduceBEq, Int.reduceBNe, ne_eq, eq_self]
      refine callT_of (c_skdone hS) ?_
      rintro v H' ⟨rfl, hS⟩
      simp only [e20, e18, e19, e17, e8, e1, e3, e5, e7, hdn, ↓D0, ↓D1, ↓D2, ↓D3, ↓D4, ↓D5, ↓D6, ↓D7, ↓D8, ↓D9, ↓D10, U0, U1, U2, U3, U4, U5, U6, U7, U8, U9, U10, ↓reduceIte, Nat.reduceAdd, Nat.reduceMul, Nat.reduceSub, Nat.reduceEqDiff, Nat.reduceBEq, Nat.reduceLeDiff, Nat.reduceLT, Int.reduceAdd, Int.reduceMul, Int.reduceSub, Int.reduceLT, Int.reduceLE, Int.reduceToNat, Int.reduceEq, Int.reduceNe, Int.reduceBEq, Int.reduceBNe, ne_eq, eq_self]
      refine callT_of (c_skstep hAl.wf (fun _ => by rw [hts]; exact hAl.of) hS) ?_
      rintro v H' ⟨rfl, kn2, hS⟩
      have hAl2 := hAl.step
      have hn2' : (t.step w).2.n = n := by
        have h5 := hAl2.of.n; have := hn; omega
      have hl2 := Sk.left_step (w := w) hAl.wf hl
      simp only [e20, e18, e19, e17, e8, e1, e3, e5, e7, wrap_w64, wi, ↓D0, ↓D1, ↓D2, ↓D3, ↓D4, ↓D5, ↓D6, ↓D7, ↓D8, ↓D9, ↓D10, U0, U1, U2, U3, U4, U5, U6, U7, U8, U9, U10, ↓reduceIte, Nat.reduceAdd, Nat.reduceMul, Nat.reduceSub, Nat.reduceEqDiff, Nat.reduceBEq, Nat.reduceLeDiff, Nat.reduceLT, Int.reduceAdd, Int.reduceMul, Int.reduceSub, Int.reduceLT, Int.reduceLE, Int.reduceToNat, Int.reduceEq, Int.reduceNe, Int.reduceBEq, Int.reduceBNe, ne_eq, eq_self]
      exact ⟨⟨i + 1, kn2, _, _, by omega, by omega, by simp [gt], by simp [gt, e18], by simp [gt, e19], by simp [gt, e17], by simp [gt, e8], ⟨by simp [gt, e1], by simp [gt, e3], by simp [gt, e5], by simp [gt, e7]⟩, hn2', hAl2, by omega, hS⟩, by simp [gt, iv, e20]; omega⟩
    have hd : t.dn = true := by
      cases hd0 : t.dn
      · have := Sk.left_dn hAl.wf (by have : ¬ i < B := fun g => hgo ⟨g, hd0⟩; omega)
        rw [hd0] at this; exact this
      · rfl
    have hfin := hAl.fin hd
    obtain ⟨hsnd, hown⟩ := hAl.ends hd
    have hU2 : ∀ i, i < n → U (w.ws i) := fun i hi => hAl.of.u i
    have hfw : (t.fd != wb) = false := by
      have := hfin.trans hwant.symm
      cases h1 : t.fd <;> cases wb <;> simp_all
    by_cases hlt : i < B
    have d3 : decide (i < B) = true := decide_eq_true hlt
    simp only [e20, e18, e19, e17, e8, e1, e3, e5, e7, hx1, r0, wrap_w64, wm1, wm2, hB, wm3, d3, ↓D0, ↓D1, ↓D2, ↓D3, ↓D4, ↓D5, ↓D6, ↓D7, ↓D8, ↓D9, ↓D10, U0, U1, U2, U3, U4, U5, U6, U7, U8, U9, U10, ↓reduceIte, Nat.reduceAdd, Nat.reduceMul, Nat.reduceSub, Nat.reduceEqDiff, Nat.reduceBEq, Nat.reduceLeDiff, Nat.reduceLT, Int.reduceAdd, Int.reduceMul, Int.reduceSub, Int.reduceLT, Int.reduceLE, Int.reduceToNat, Int.reduceEq, Int.reduceNe, Int.reduceBEq, Int.reduceBNe, ne_eq, eq_self]
    refine callT_of (c_skdone hS) ?_
    rintro v H' ⟨rfl, hS⟩
    simp only [e20, e18, e19, e17, e8, e1, e3, e5, e7, hd, ↓D0, ↓D1, ↓D2, ↓D3, ↓D4, ↓D5, ↓D6, ↓D7, ↓D8, ↓D9, ↓D10, U0, U1, U2, U3, U4, U5, U6, U7, U8, U9, U10, ↓reduceIte, Nat.reduceAdd, Nat.reduceMul, Nat.reduceSub, Nat.reduceEqDiff, Nat.reduceBEq, Nat.reduceLeDiff, Nat.reduceLT, Int.reduceAdd, Int.reduceMul, Int.reduceSub, Int.reduceLT, Int.reduceLE, Int.reduceToNat, Int.reduceEq, Int.reduceNe, Int.reduceBEq, Int.reduceBNe, ne_eq, eq_self]
    rotate_left
    have d3 : decide (i < B) = false := decide_eq_false hlt
    simp only [e20, e18, e19, e17, e8, e1, e3, e5, e7, hx1, r0, wrap_w64, wm1, wm2, hB, wm3, d3, ↓D0, ↓D1, ↓D2, ↓D3, ↓D4, ↓D5, ↓D6, ↓D7, ↓D8, ↓D9, ↓D10, U0, U1, U2, U3, U4, U5, U6, U7, U8, U9, U10, ↓reduceIte, Nat.reduceAdd, Nat.reduceMul, Nat.reduceSub, Nat.reduceEqDiff, Nat.reduceBEq, Nat.reduceLeDiff, Nat.reduceLT, Int.reduceAdd, Int.reduceMul, Int.reduceSub, Int.reduceLT, Int.reduceLE, Int.reduceToNat, Int.reduceEq, Int.reduceNe, Int.reduceBEq, Int.reduceBNe, ne_eq, eq_self]
    all_goals
      refine callT_of (c_skfound hS) ?_
      rintro v H' ⟨rfl, hS⟩
      have hx1 := hS.lk 6 L2
      have r1 := fun o n => rdn_of hx1 o n
      simp only [e20, e18, e19, e17, e8, e1, e3, e5, e7, ↓D0, ↓D1, ↓D2, ↓D3, ↓D4, ↓D5, ↓D6, ↓D7, ↓D8, ↓D9, ↓D10, U0, U1, U2, U3, U4, U5, U6, U7, U8, U9, U10, ↓reduceIte, Nat.reduceAdd, Nat.reduceMul, Nat.reduceSub, Nat.reduceEqDiff, Nat.reduceBEq, Nat.reduceLeDiff, Nat.reduceLT, Int.reduceAdd, Int.reduceMul, Int.reduceSub, Int.reduceLT, Int.reduceLE, Int.reduceToNat, Int.reduceEq, Int.reduceNe, Int.reduceBEq, Int.reduceBNe, ne_eq, eq_self]
      refine draw_intro [(x, #[.int .i64 sh.p, .int .i64 sh.c, .int .i64 sh.m], [])] (by simp only [hx1, ↓D0, ↓D1, ↓D2, ↓D3, ↓D4, ↓D5, ↓D6, ↓D7, ↓D8, ↓D9, ↓D10, U0, U1, U2, U3, U4, U5, U6, U7, U8, U9, U10, ↓reduceIte, Nat.reduceAdd, Nat.reduceMul, Nat.reduceSub, Nat.reduceEqDiff, Nat.reduceBEq, Nat.reduceLeDiff, Nat.reduceLT, Int.reduceAdd, Int.reduceMul, Int.reduceSub, Int.reduceLT, Int.reduceLE, Int.reduceToNat, Int.reduceEq, Int.reduceNe, Int.reduceBEq, Int.reduceBNe, ne_eq, eq_self]) ?_
      simp only [e20, e18, e19, e17, e8, e1, e3, e5, e7, ↓D0, ↓D1, ↓D2, ↓D3, ↓D4, ↓D5, ↓D6, ↓D7, ↓D8, ↓D9, ↓D10, U0, U1, U2, U3, U4, U5, U6, U7, U8, U9, U10, ↓reduceIte, Nat.reduceAdd, Nat.reduceMul, Nat.reduceSub, Nat.reduceEqDiff, Nat.reduceBEq, Nat.reduceLeDiff, Nat.reduceLT, Int.reduceAdd, Int.reduceMul, Int.reduceSub, Int.reduceLT, Int.reduceLE, Int.reduceToNat, Int.reduceEq, Int.reduceNe, Int.reduceBEq, Int.reduceBNe, ne_eq, eq_self]
      refine callT_of (c_skdone hS) ?_
      rintro v H' ⟨rfl, hS⟩
      have hx1 := hS.lk 6 L2
      have r1 := fun o n => rdn_of hx1 o n
      simp only [e20, e18, e19, e17, e8, e1, e3, e5, e7, hd, hfw, hx1, r1, ↓D0, ↓D1, ↓D2, ↓D3, ↓D4, ↓D5, ↓D6, ↓D7, ↓D8, ↓D9, ↓D10, U0, U1, U2, U3, U4, U5, U6, U7, U8, U9, U10, ↓reduceIte, Nat.reduceAdd, Nat.reduceMul, Nat.reduceSub, Nat.reduceEqDiff, Nat.reduceBEq, Nat.reduceLeDiff, Nat.reduceLT, Int.reduceAdd, Int.reduceMul, Int.reduceSub, Int.reduceLT, Int.reduceLE, Int.reduceToNat, Int.reduceEq, Int.reduceNe, Int.reduceBEq, Int.reduceBNe, ne_eq, eq_self]
      refine callT_of (c_all (w := w) (by omega) hS.p3.p3) ?_
      rintro v H' ⟨a3, cap3, h3, rfl, hr3, hS⟩
      rw [hwn] at hr3
      have hx1 := hS.lk 7 L2
      have r1 := fun o n => rdn_of hx1 o n
      simp only [e20, e18, e19, e17, e8, e1, e3, e5, e7, hwn, hd, hfw, hx1, r1, ↓D0, ↓D1, ↓D2, ↓D3, ↓D4, ↓D5, ↓D6, ↓D7, ↓D8, ↓D9, ↓D10, U0, U1, U2, U3, U4, U5, U6, U7, U8, U9, U10, ↓reduceIte, Nat.reduceAdd, Nat.reduceMul, Nat.reduceSub, Nat.reduceEqDiff, Nat.reduceBEq, Nat.reduceLeDiff, Nat.reduceLT, Int.reduceAdd, Int.reduceMul, Int.reduceSub, Int.reduceLT, Int.reduceLE, Int.reduceToNat, Int.reduceEq, Int.reduceNe, Int.reduceBEq, Int.reduceBNe, ne_eq, eq_self]
      refine callT_of (c_soundV hm hn hr3 hU2 hS) ?_
      rintro v H' ⟨sb, rfl, hsb, hS⟩
      have hsb := hsb.2 hsnd
      subst hsb
      have hS := hS.tail.p3.tail.p2.tail
      have hx1 := hS.lk 4 L2
      have r1 := fun o n => rdn_of hx1 o n
      obtain ⟨q, hq⟩ : ∃ q, (if t.fd then t.pg else 0) = q := ⟨_, rfl⟩
      obtain ⟨sl, hsl⟩ : ∃ sl, (if t.fd then t.sl else 0) = sl := ⟨_, rfl⟩
      have hqb : 0 ≤ q ∧ q < sh.p := by
        rw [← hq]
        cases h1 : t.fd
        · simp; omega
        · have := hown h1; simp; omega
      have hpg : page sh.p sh.c sh.m q = sh.c + q := page_yes hm hqb.1 hqb.2
      obtain ⟨v, hv⟩ : ∃ v, pgAt sh w.ws q = v := ⟨_, rfl⟩
      have hgv : w.get (sh.c + q) = v := by rw [← hv, ← hpg]; rfl
      have hu : U v := by rw [← hv]; exact hAl.of.u _
      simp only [hx1, r1, hq, hsl, e20, e18, e19, e17, e8, e1, e3, e5, e7, ↓D0, ↓D1, ↓D2, ↓D3, ↓D4, ↓D5, ↓D6, ↓D7, ↓D8, ↓D9, ↓D10, U0, U1, U2, U3, U4, U5, U6, U7, U8, U9, U10, ↓reduceIte, Nat.reduceAdd, Nat.reduceMul, Nat.reduceSub, Nat.reduceEqDiff, Nat.reduceBEq, Nat.reduceLeDiff, Nat.reduceLT, Int.reduceAdd, Int.reduceMul, Int.reduceSub, Int.reduceLT, Int.reduceLE, Int.reduceToNat, Int.reduceEq, Int.reduceNe, Int.reduceBEq, Int.reduceBNe, ne_eq, eq_self]
      refine draw_cut [(x, #[.int .i64 sh.p, .int .i64 sh.c, .int .i64 sh.m], [])] (sfH f wb t.fd q sl v w sh K b s x z n cap (some ⟨b1, o1, none⟩) L) (by simp only [hx1, ↓D0, ↓D1, ↓D2, ↓D3, ↓D4, ↓D5, ↓D6, ↓D7, ↓D8, ↓D9, ↓D10, U0, U1, U2, U3, U4, U5, U6, U7, U8, U9, U10, ↓reduceIte, Nat.reduceAdd, Nat.reduceMul, Nat.reduceSub, Nat.reduceEqDiff, Nat.reduceBEq, Nat.reduceLeDiff, Nat.reduceLT, Int.reduceAdd, Int.reduceMul, Int.reduceSub, Int.reduceLT, Int.reduceLE, Int.reduceToNat, Int.reduceEq, Int.reduceNe, Int.reduceBEq, Int.reduceBNe, ne_eq, eq_self]) ?_ ?_
      · simp only [e20, e18, e19, e17, e8, e1, e3, e5, e7, hx1, r1, hq, hsl, u_page, hpg, ↓e_dalt2, ↓D0, ↓D1, ↓D2, ↓D3, ↓D4, ↓D5, ↓D6, ↓D7, ↓D8, ↓D9, ↓D10, U0, U1, U2, U3, U4, U5, U6, U7, U8, U9, U10, ↓reduceIte, Nat.reduceAdd, Nat.reduceMul, Nat.reduceSub, Nat.reduceEqDiff, Nat.reduceBEq, Nat.reduceLeDiff, Nat.reduceLT, Int.reduceAdd, Int.reduceMul, Int.reduceSub, Int.reduceLT, Int.reduceLE, Int.reduceToNat, Int.reduceEq, Int.reduceNe, Int.reduceBEq, Int.reduceBNe, ne_eq, eq_self]
        have hin : sh.c + q < (w.n : Int) := by omega
        refine ⟨⟨?_, ?_⟩, ?_⟩
        · refine callT_of (c_look (sh.c + q) (by omega) hin hS) ?_
          rintro v' H' ⟨rfl, hS⟩
          have hx1 := hS.lk 4 L2
          have r1 := fun o n => rdn_of hx1 o n
          simp only [e20, e18, e19, e17, e8, e1, e3, e5, e7, hx1, r1, hq, hsl, hgv, u_readpg sh q hu, ↓e_dalt2, ↓D0, ↓D1, ↓D2, ↓D3, ↓D4, ↓D5, ↓D6, ↓D7, ↓D8, ↓D9, ↓D10, U0, U1, U2, U3, U4, U5, U6, U7, U8, U9, U10, ↓reduceIte, Nat.reduceAdd, Nat.reduceMul, Nat.reduceSub, Nat.reduceEqDiff, Nat.reduceBEq, Nat.reduceLeDiff, Nat.reduceLT, Int.reduceAdd, Int.reduceMul, Int.reduceSub, Int.reduceLT, Int.reduceLE, Int.reduceToNat, Int.reduceEq, Int.reduceNe, Int.reduceBEq, Int.reduceBNe, ne_eq, eq_self]
          refine ⟨?_, ?_⟩
          all_goals
            refine newB_intro fun y hy f5 f6 => ?_
            have nxy : (x = y) = False := f5 x (by rw [hx1]; rfl)
            have nyx : (y = x) = False := f6 x (by rw [hx1]; rfl)
            have hS := hS.new f5 (.cells #[.int .i64 (pgK sh q v), .int .i64 (pgA sh q v), .int .i64 (pgB sh q v)] 59 (0, 0))
            simp only [e20, e18, e19, e17, e8, e1, e3, e5, e7, hx1, r1, hq, hsl, hgv, nxy, nyx, u_readpg sh q hu, Ev.upd_upd, ↓D0, ↓D1, ↓D2, ↓D3, ↓D4, ↓D5, ↓D6, ↓D7, ↓D8, ↓D9, ↓D10, U0, U1, U2, U3, U4, U5, U6, U7, U8, U9, U10, ↓reduceIte, Nat.reduceAdd, Nat.reduceMul, Nat.reduceSub, Nat.reduceEqDiff, Nat.reduceBEq, Nat.reduceLeDiff, Nat.reduceLT, Int.reduceAdd, Int.reduceMul, Int.reduceSub, Int.reduceLT, Int.reduceLE, Int.reduceToNat, Int.reduceEq, Int.reduceNe, Int.reduceBEq, Int.reduceBNe, ne_eq, eq_self]
            exact ⟨by simp [gt, e18], by simp [gt, e17], by simp [gt, e8], by simp [gt, hq], by simp [gt, hsl], by simp [gt], ⟨by simp [gt, e1], by simp [gt, e3], by simp [gt, e5], by simp [gt, e7]⟩, y, by simp [gt], hS.p2.p2⟩
        all_goals
          refine newB_intro fun y hy f5 f6 => ?_
          have nxy : (x = y) = False := f5 x (by rw [hx1]; rfl)
          have nyx : (y = x) = False := f6 x (by rw [hx1]; rfl)
          have hS := hS.new f5 (.cells #[.int .i64 0, .int .i64 0, .int .i64 0] 59 (0, 0))
          simp only [e20, e18, e19, e17, e8, e1, e3, e5, e7, hx1, r1, hq, hsl, nxy, nyx, u_page, hpg, ↓D0, ↓D1, ↓D2, ↓D3, ↓D4, ↓D5, ↓D6, ↓D7, ↓D8, ↓D9, ↓D10, U0, U1, U2, U3, U4, U5, U6, U7, U8, U9, U10, ↓reduceIte, Nat.reduceAdd, Nat.reduceMul, Nat.reduceSub, Nat.reduceEqDiff, Nat.reduceBEq, Nat.reduceLeDiff, Nat.reduceLT, Int.reduceAdd, Int.reduceMul, Int.reduceSub, Int.reduceLT, Int.reduceLE, Int.reduceToNat, Int.reduceEq, Int.reduceNe, Int.reduceBEq, Int.reduceBNe, ne_eq, eq_self]
          refine callT_of (c_look (sh.c + q) (by omega) hin hS.p2.p2) ?_
          rintro v' H' ⟨rfl, hS⟩
          have hx1 := hS.lk 5 L2
          have r1 := fun o n => rdn_of hx1 o n
          have hy1 := hS.lk 2 rfl
          have hS := (hS.p2.set (.cells #[.int .i64 (pgK sh q v), .int .i64 (pgA sh q v), .int .i64 (pgB sh q v)] 59 (0, 0))).p2.p2
          simp only [e20, e18, e19, e17, e8, e1, e3, e5, e7, hx1, r1, hy1, hq, hsl, hgv, nxy, nyx, u_readpg sh q hu, ↓D0, ↓D1, ↓D2, ↓D3, ↓D4, ↓D5, ↓D6, ↓D7, ↓D8, ↓D9, ↓D10, U0, U1, U2, U3, U4, U5, U6, U7, U8, U9, U10, ↓reduceIte, Nat.reduceAdd, Nat.reduceMul, Nat.reduceSub, Nat.reduceEqDiff, Nat.reduceBEq, Nat.reduceLeDiff, Nat.reduceLT, Int.reduceAdd, Int.reduceMul, Int.reduceSub, Int.reduceLT, Int.reduceLE, Int.reduceToNat, Int.reduceEq, Int.reduceNe, Int.reduceBEq, Int.reduceBNe, ne_eq, eq_self]
          exact ⟨by simp [gt, e18], by simp [gt, e17], by simp [gt, e8], by simp [gt, hq], by simp [gt, hsl], by simp [gt], ⟨by simp [gt, e1], by simp [gt, e3], by simp [gt, e5], by simp [gt, e7]⟩, y, by simp [gt], hS⟩
      · clear hx1 r1 hS e20 e18 e19 e17 e8 e1 e3 e5 e7
        rintro F3 H' ⟨e18, e17, e8, e21, e22, e23, ⟨e1, e3, e5, e7⟩, y, e24, hS⟩
        have hx1 := hS.lk 5 L2
        have r1 := fun o n => rdn_of hx1 o n
        have hz1 := hS.lk 4 L1
        have r3 := fun o => rd_of hz1 o
        have hy1 := hS.lk 2 rfl
        have r4 := fun o => rd_of hy1 o
        have nyx := hS.neq 2 5 (by decide) rfl L2
        have nxy := hS.qen 2 5 (by decide) rfl L2
        have nyz := hS.neq 2 4 (by decide) rfl L1
        have nzy := hS.qen 2 4 (by decide) rfl L1
        have nzx := hS.neq 4 5 (by decide) L1 L2
        have nxz := hS.qen 4 5 (by decide) L1 L2
        simp only [e18, e17, e8, e21, e22, e23, e24, e1, e3, e5, e7, ↓D0, ↓D1, ↓D2, ↓D3, ↓D4, ↓D5, ↓D6, ↓D7, ↓D8, ↓D9, ↓D10, U0, U1, U2, U3, U4, U5, U6, U7, U8, U9, U10, ↓reduceIte, Nat.reduceAdd, Nat.reduceMul, Nat.reduceSub, Nat.reduceEqDiff, Nat.reduceBEq, Nat.reduceLeDiff, Nat.reduceLT, Int.reduceAdd, Int.reduceMul, Int.reduceSub, Int.reduceLT, Int.reduceLE, Int.reduceToNat, Int.reduceEq, Int.reduceNe, Int.reduceBEq, Int.reduceBNe, ne_eq, eq_self]
        refine draw_intro [(x, #[.int .i64 sh.p, .int .i64 sh.c, .int .i64 sh.m], []), (y, #[.int .i64 (pgK sh q v), .int .i64 (pgA sh q v), .int .i64 (pgB sh q v)], []), (z, #[.int .i64 c, .int .i64 n1, .int .i64 n2], [])] (by simp only [hx1, hy1, hz1, ↓D0, ↓D1, ↓D2, ↓D3, ↓D4, ↓D5, ↓D6, ↓D7, ↓D8, ↓D9, ↓D10, U0, U1, U2, U3, U4, U5, U6, U7, U8, U9, U10, ↓reduceIte, Nat.reduceAdd, Nat.reduceMul, Nat.reduceSub, Nat.reduceEqDiff, Nat.reduceBEq, Nat.reduceLeDiff, Nat.reduceLT, Int.reduceAdd, Int.reduceMul, Int.reduceSub, Int.reduceLT, Int.reduceLE, Int.reduceToNat, Int.reduceEq, Int.reduceNe, Int.reduceBEq, Int.reduceBNe, ne_eq, eq_self]) ?_
        cases hfd : t.fd
        · rw [hfd] at e23
          simp only [e18, e17, e8, e21, e22, e23, e24, e1, e3, e5, e7, wrap_w64, wf, ↓D0, ↓D1, ↓D2, ↓D3, ↓D4, ↓D5, ↓D6, ↓D7, ↓D8, ↓D9, ↓D10, U0, U1, U2, U3, U4, U5, U6, U7, U8, U9, U10, ↓reduceIte, Nat.reduceAdd, Nat.reduceMul, Nat.reduceSub, Nat.reduceEqDiff, Nat.reduceBEq, Nat.reduceLeDiff, Nat.reduceLT, Int.reduceAdd, Int.reduceMul, Int.reduceSub, Int.reduceLT, Int.reduceLE, Int.reduceToNat, Int.reduceEq, Int.reduceNe, Int.reduceBEq, Int.reduceBNe, ne_eq, eq_self]
          exact ⟨⟨f + 1, by omega, by simp [gt], by simp [gt, e8], ⟨by simp [gt, e1], by simp [gt, e3], by simp [gt, e5], by simp [gt, e7]⟩, hS.tail.tail.tail⟩, by simp [gt, iv, e17o]; omega⟩
        · rw [hfd] at e23
          obtain ⟨-, -, l0, l1, w1, w2, w3, w4⟩ := hown hfd
          rw [hfd, if_pos rfl] at hq hsl
          rw [hq, hv] at w2 w3
          rw [hq, hsl] at w4
          rw [hsl] at l0 l1
          have g2 : (pgK sh q v != 2) = false := by rw [w2]; rfl
          have gK : (pgA sh q v != K) = false := by rw [w3]; simp
          have hslt : slot sh.p sh.c sh.m q sl = sh.c + sh.p + q * 16 + sl := slot_yes hm hqb.1 hqb.2 l0 l1
          have hgs : w.get (sh.c + sh.p + q * 16 + sl) = putSl 2 c := w4
          have gp : (putSl 2 c != putSl 2 c) = false := by simp
          have hin : sh.c + sh.p + q * 16 + sl < (w.n : Int) := by omega
          simp only [e18, e17, e8, e21, e22, e23, e24, e1, e3, e5, e7, hx1, r1, hy1, r4, hz1, r3, nyx, nxy, nyz, nzy, nzx, nxz, i0, g2, gK, u_slot, hslt, ↓D0, ↓D1, ↓D2, ↓D3, ↓D4, ↓D5, ↓D6, ↓D7, ↓D8, ↓D9, ↓D10, U0, U1, U2, U3, U4, U5, U6, U7, U8, U9, U10, ↓reduceIte, Nat.reduceAdd, Nat.reduceMul, Nat.reduceSub, Nat.reduceEqDiff, Nat.reduceBEq, Nat.reduceLeDiff, Nat.reduceLT, Int.reduceAdd, Int.reduceMul, Int.reduceSub, Int.reduceLT, Int.reduceLE, Int.reduceToNat, Int.reduceEq, Int.reduceNe, Int.reduceBEq, Int.reduceBNe, ne_eq, eq_self]
          refine callT_of (c_look (sh.c + sh.p + q * 16 + sl) (by omega) hin hS) ?_
          rintro v' H' ⟨rfl, hS⟩
          have hx1 := hS.lk 5 L2
          have r1 := fun o n => rdn_of hx1 o n
          have hz1 := hS.lk 4 L1
          have r3 := fun o => rd_of hz1 o
          have hy1 := hS.lk 2 rfl
          have r4 := fun o => rd_of hy1 o
          simp only [e18, e17, e8, e21, e22, e23, e24, e1, e3, e5, e7, hx1, r1, hy1, r4, hz1, r3, nyx, nxy, nyz, nzy, nzx, nxz, i0, g2, gK, hgs, u_putsl, gp, wrap_w64, wf, ↓D0, ↓D1, ↓D2, ↓D3, ↓D4, ↓D5, ↓D6, ↓D7, ↓D8, ↓D9, ↓D10, U0, U1, U2, U3, U4, U5, U6, U7, U8, U9, U10, ↓reduceIte, Nat.reduceAdd, Nat.reduceMul, Nat.reduceSub, Nat.reduceEqDiff, Nat.reduceBEq, Nat.reduceLeDiff, Nat.reduceLT, Int.reduceAdd, Int.reduceMul, Int.reduceSub, Int.reduceLT, Int.reduceLE, Int.reduceToNat, Int.reduceEq, Int.reduceNe, Int.reduceBEq, Int.reduceBNe, ne_eq, eq_self]
          exact ⟨⟨f + 1, by omega, by simp [gt], by simp [gt, e8], ⟨by simp [gt, e1], by simp [gt, e3], by simp [gt, e5], by simp [gt, e7]⟩, hS.tail.tail.tail⟩, by simp [gt, iv, e17o]; omega⟩
  have df : decide ((f : Int) < sh.p) = false := decide_eq_false hlf
  simp only [e17, e8, e1, e3, e5, e7, hx1, r0, df, ↓D0, ↓D1, ↓D2, ↓D3, ↓D4, ↓D5, ↓D6, ↓D7, ↓D8, ↓D9, ↓D10, U0, U1, U2, U3, U4, U5, U6, U7, U8, U9, U10, ↓reduceIte, Nat.reduceAdd, Nat.reduceMul, Nat.reduceSub, Nat.reduceEqDiff, Nat.reduceBEq, Nat.reduceLeDiff, Nat.reduceLT, Int.reduceAdd, Int.reduceMul, Int.reduceSub, Int.reduceLT, Int.reduceLE, Int.reduceToNat, Int.reduceEq, Int.reduceNe, Int.reduceBEq, Int.reduceBNe, ne_eq, eq_self]
  exact fin _ hS
end

theorem l_seekfirst {W : World} {a : Option Addr} {n cap : Nat} {ws : Nat → Int} (p q m : Int) (hp : -9223372036854775808 ≤ p ∧ p ≤ 9223372036854775807) (hq : -9223372036854775808 ≤ q ∧ q ≤ 9223372036854775807) (hm : -9223372036854775808 ≤ m ∧ m ≤ 9223372036854775807)
    (hn : n ≤ 9223372036854775807) (hr : RowU (memOf W) a n ws) (hU : ∀ i, i < n → IntKind.u64.has (ws i)) (c n1 n2 : Int) (hc : -9223372036854775808 ≤ c ∧ c ≤ 9223372036854775807) (h1 : -9223372036854775808 ≤ n1 ∧ n1 ≤ 9223372036854775807) (h2 : -9223372036854775808 ≤ n2 ∧ n2 ≤ 9223372036854775807) :
    CallP Try.prog W 10 #[.agg #[.int .i64 p, .int .i64 q, .int .i64 m], .slice a n cap, .agg #[.int .i64 c, .int .i64 n1, .int .i64 n2]] (memOf W) fun v H' => v = .bool true ∧ Sub (memOf W) H' :=
  (c_seekfirst ⟨p, q, m⟩ c n1 n2 hr (fun i hi => u64_bd (hU i hi)) (Sep.one _)).mono fun v H' ⟨h1, h2⟩ => ⟨h1, h2.head⟩
end Go.Proofs.Ytfopnendmcpglaa
