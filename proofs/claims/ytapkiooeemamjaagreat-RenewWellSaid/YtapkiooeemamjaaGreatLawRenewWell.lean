/-
 RenewWell, walked: one renews a block, alone in a sound heap. Conditions: none.
-/
import Derived.Test.YtapkiooeemamjaaGreatCodeAllotmentlaw17
import Derived.Test.YtapkiooeemamjaaGreatRenew
import Derived.Test.YtapkiooeemamjaaGreatRowA
import Derived.Test.YtapkiooeemamjaaGreatSoundA
import Derived.Test.YtapkiooeemamjaaGreatAlt
import Derived.Test.YtapkiooeemamjaaGreatJmA
import Derived.Test.YtapkiooeemamjaaGreatMaSo
open Nat renaming reduceAdd → xA, reduceMul → xB, reduceSub → xC, reduceEqDiff → xD, reduceBEq → xE, reduceLeDiff → xF, reduceLT → xG
open Int renaming reduceAdd → xH, reduceMul → xI, reduceSub → xJ, reduceLT → xK, reduceLE → xL, reduceToNat → xM, reduceEq → xN, reduceNe → xO, reduceBEq → xP, reduceBNe → xQ
set_option linter.unusedVariables false
set_option linter.unusedSectionVars false
set_option linter.unusedSimpArgs false
set_option maxRecDepth 8000
namespace Go.Ev
theorem Sep.fr {X L Y : List Hp} {H : Hp} (h : Sep (X ++ (L ++ Y)) H) : Sep (L ++ (X ++ Y)) H := h.perm (List.perm_append_comm_assoc X L Y)
end Go.Ev
namespace Go.Proofs.YtapkiooeemamjaaGreat
open Go Go.Ev Go.Pl Go.Ma
theorem BsL.cell {l : List Hp} {H g : Hp} {a : Option Addr} {cap : Nat} {bl : List (Int × Int)} (h : BsL a cap bl g) (hS : Sep l H) (hm : g ∈ l) {j : Nat} (hj : j < bl.length) :
  ∃ z, a = some ⟨z, 0, none⟩ ∧ rd H z (j * 2) = some (.int .i64 (bl.getD j (0, 0)).1) ∧ rdn H z (j * 2) 2 = some #[.int .i64 (bl.getD j (0, 0)).1, .int .i64 (bl.getD j (0, 0)).2] := by
 rcases h with ⟨-, h, -, -⟩ | ⟨z, c, rfl, rfl, h1, h2, h3⟩
 ·omega
 ·have hz := hS.sb _ hm z _ (sg_at _ _)
  obtain ⟨e1, e2⟩ := h3 j hj
  refine ⟨z, rfl, by rw [rd_of hz, e1], ?_⟩
  have hsz : j * 2 + 2 ≤ c.size := by
   have := (Array.getElem?_eq_some_iff.1 e2).1; omega
  rw [rdn_of hz, if_pos hsz]
  congr 1
  apply Array.ext
  ·simp
   omega
  ·intro i i1 i2
   have hi : i = 0 ∨ i = 1 := by simp at i2; omega
   simp only [Array.getElem_extract]
   rcases hi with rfl | rfl
   ·have := (Array.getElem?_eq_some_iff.1 e1).2; simpa using this
   ·have := (Array.getElem?_eq_some_iff.1 e2).2; simpa using this
theorem eq_pair (u v : Int) : eqL [(0, false), (1, false)] #[.int .i64 u, .int .i64 v] #[.int .i64 u, .int .i64 v] = some true := by simp [eqL, eqS]
theorem tu_key {n : Nat} {ws : Nat → Int} {j : Nat} (hj : j < n) : (rowW n ws).ws j = ws j := if_pos hj
theorem tu_snd {sh : Sh} {n : Nat} {ws : Nat → Int} (hm : may sh.p sh.c sh.m = true) (hn : (n : Int) = words sh.p sh.c sh.m) (h : Snd sh ws) : Snd sh (rowW n ws).ws := by
 have hb := (may_iff _ _ _).1 hm
 have hw := words_ge hm hn
 refine h.congr hm (fun q q0 q1 => ?_) (fun q i q0 q1 i0 i1 => ?_) (fun c i c0 c1 i0 i1 => ?_)
 ·unfold pgAt; rw [page_yes hm q0 q1]; exact tu_key (by omega)
 ·unfold slAt; exact tu_key (by omega)
 ·have := Int.mul_le_mul_of_nonneg_right (by omega : c + 1 ≤ sh.c) (by omega : 0 ≤ sh.m)
  rw [Int.add_mul] at this
  have := Int.mul_nonneg c0 (by omega : 0 ≤ sh.m)
  unfold mgAt; exact tu_key (by omega)
theorem tu_row {h : Hp} {a : Option Addr} {n : Nat} {ws : Nat → Int} (hr : RowU h a n ws) : RowU h a n (rowW n ws).ws := by
 rcases hr with hr | ⟨b, o, rfl, hr⟩
 ·exact .inl hr
 ·exact .inr ⟨b, o, rfl, fun i hi => by rw [hr i hi, tu_key hi]⟩
section
variable {W : World} {H h : Hp} {l : List Hp} {n cap : Nat} {a : Option Addr} {ws : Nat → Int}
def rwG (x z b k n cap : Nat) (a : Option Addr) (F' : Fr) : Prop := gt F' 1 = .slice a n cap ∧ gt F' 3 = .pointer (some ⟨x, 0, none⟩) ∧ gt F' 5 = .pointer (some ⟨z, 0, none⟩) ∧ gt F' 7 = .pointer (some ⟨b, 0, none⟩) ∧ gt F' 8 = .pointer (some ⟨k, 0, none⟩)
def rwA (sh : Sh) (ws0 : Nat → Int) (c A N f : Int) (x z b k kr k2 kg s n cap : Nat) (a : Option Addr) (L : List Hp) (F' : Fr) (H' : Hp) : Prop :=
 ∃ (i : Int) (kn kp km : Nat) (t : Re) (w : Wd), 0 ≤ i ∧ i ≤ 2 * sh.m + 80 * sh.p + 120 ∧ gt F' 9 = .int .i64 i ∧ rwG x z b k n cap a F' ∧ t.Any sh ws0 c A N f w ∧ t.left ≤ max 0 (2 * sh.m + 80 * sh.p + 120 - i) ∧ Sep (reL k kr k2 kn kg kp km t ++ wB b s w :: wR s w :: L) H'
def rwN (L bc bc2 : Nat) (ba ba2 : Option Addr) (R : List Hp) (F' : Fr) (H' : Hp) : Prop :=
 ∃ i : Nat, i ≤ L ∧ gt F' 14 = .int .i64 (i : Int) ∧ gt F' 12 = .slice ba L bc ∧ gt F' 13 = .slice ba2 L bc2 ∧ Sep R H'
def rwM (A : List (Int × Int)) (P : Int) (q z km L L2 bc bc2 : Nat) (ba ba2 : Option Addr) (R : List Hp) (F' : Fr) (H' : Hp) : Prop :=
 ∃ (i cap : Nat) (a : Option Addr) (g : Hp), i ≤ L ∧ gt F' 16 = .int .i64 (i : Int) ∧ (gt F' 12 = .slice ba L bc ∧ gt F' 13 = .slice ba2 L2 bc2 ∧ gt F' 10 = .pointer (some ⟨q, 0, none⟩) ∧ gt F' 5 = .pointer (some ⟨z, 0, none⟩) ∧ gt F' 15 = .pointer (some ⟨km, 0, none⟩)) ∧
  mdR a cap (A.take i) g ∧ Sep (mjB km a (A.take i).length cap (P * 64) :: g :: R) H'
def rwE (C : List (Int × Int)) (km cap bc2 : Nat) (a ba2 : Option Addr) (R : List Hp) (F' : Fr) (H' : Hp) : Prop :=
 ∃ i : Nat, i ≤ C.length ∧ gt F' 19 = .int .i64 (i : Int) ∧ gt F' 13 = .slice ba2 C.length bc2 ∧ gt F' 15 = .pointer (some ⟨km, 0, none⟩) ∧ Sep R H'
set_option maxHeartbeats 4000000 in
theorem c_renewwell (sh : Sh) (c n1 n2 n3 : Int) (hr : RowU h a n ws) (hU : ∀ i, i < n → U (ws i)) (hS : Sep (h :: l) H) :
  CallP Tryz.prog W 3 #[.agg #[.int .i64 sh.p, .int .i64 sh.c, .int .i64 sh.m], .slice a n cap, .agg #[.int .i64 c, .int .i64 n1, .int .i64 n2, .int .i64 n3]] H fun v H' => v = .bool true ∧ Sep (h :: l) H' := by
 refine CallP.of mixed Tryz.func3 tr3 (by show 3 ≤ _; decide) fun W _ => ?_
 simp only [↓DD, UU, ↓reduceIte, xA, xB, xC, xD, xE, xF, xG, xH, xI, xJ, xK, xL, xM, xN, xO, xP, xQ, ne_eq, eq_self]
 refine newB_intro fun x hx f1 f2 => ?_
 simp only [↓DD, UU, ↓reduceIte, xA, xB, xC, xD, xE, xF, xG, xH, xI, xJ, xK, xL, xM, xN, xO, xP, xQ, ne_eq, eq_self]
 refine newB_intro fun z hz f3 f4 => ?_
 simp only [↓DD, UU, ↓reduceIte, xA, xB, xC, xD, xE, xF, xG, xH, xI, xJ, xK, xL, xM, xN, xO, xP, xQ, ne_eq, eq_self]
 have hS := (hS.new f1 (.cells #[.int .i64 sh.p, .int .i64 sh.c, .int .i64 sh.m] 23 (0, 0))).new f3 (.cells #[.int .i64 c, .int .i64 n1, .int .i64 n2, .int .i64 n3] 25 (0, 0))
 have nzx := hS.neq 0 1 (by decide) rfl rfl
 have nxz := hS.qen 0 1 (by decide) rfl rfl
 refine callT_of (c_awake17 hS) ?_
 rintro v H' ⟨rfl, hS⟩
 have hx1 := hS.lk 1 rfl
 have r0 := fun o => rd_of hx1 o
 have r1 := fun o n => rdn_of hx1 o n
 simp only [hx1, r1, ↓DD, UU, ↓reduceIte, xA, xB, xC, xD, xE, xF, xG, xH, xI, xJ, xK, xL, xM, xN, xO, xP, xQ, ne_eq, eq_self]
 refine callT_of (c_fair (sh := sh) hS) ?_
 rintro v H' ⟨rfl, hS⟩
 have hx1 := hS.lk 1 rfl
 have r0 := fun o => rd_of hx1 o
 have r1 := fun o n => rdn_of hx1 o n
 cases hfair : (may sh.p sh.c sh.m && ((n : Int) == words sh.p sh.c sh.m))
 ·simp only [hfair, ↓DD, UU, ↓reduceIte, xA, xB, xC, xD, xE, xF, xG, xH, xI, xJ, xK, xL, xM, xN, xO, xP, xQ, ne_eq, eq_self]
  exact hS.tail.tail
 have hfair' := hfair
 simp only [Bool.and_eq_true, beq_iff_eq] at hfair
 obtain ⟨hm, hn⟩ := hfair
 simp only [hfair', hx1, r0, r1, ↓DD, UU, ↓reduceIte, xA, xB, xC, xD, xE, xF, xG, xH, xI, xJ, xK, xL, xM, xN, xO, xP, xQ, ne_eq, eq_self]
 refine callT_of (c_soundV hm hn hr hU hS.p2) ?_
 rintro v H' ⟨sb, rfl, hsnd, hS⟩
 cases sb
 ·simp only [↓DD, UU, ↓reduceIte, xA, xB, xC, xD, xE, xF, xG, xH, xI, xJ, xK, xL, xM, xN, xO, xP, xQ, ne_eq, eq_self]
  exact hS.p1.tail.p1.tail
 have hsnd0 := hsnd.1 rfl
 clear hsnd
 have hx1 := hS.lk 2 rfl
 have hz1 := hS.lk 1 rfl
 have r1 := fun o n => rdn_of hx1 o n
 have r2 := fun o => rd_of hz1 o
 have i0 : (0 : Int) < ((4 : Nat) : Int) := by decide
 have i1 : (1 : Int) < ((4 : Nat) : Int) := by decide
 have i2 : (2 : Int) < ((4 : Nat) : Int) := by decide
 have i3 : (3 : Int) < ((4 : Nat) : Int) := by decide
 by_cases hst : status sh.p sh.c sh.m c < 0
 ·have g3 : decide (status sh.p sh.c sh.m c < 0) = true := decide_eq_true hst
  simp only [hx1, hz1, r1, r2, i0, i3, u_status, g3, ↓DD, UU, ↓reduceIte, xA, xB, xC, xD, xE, xF, xG, xH, xI, xJ, xK, xL, xM, xN, xO, xP, xQ, ne_eq, eq_self]
  exact hS.p1.tail.p1.tail
 have g3 : decide (status sh.p sh.c sh.m c < 0) = false := decide_eq_false hst
 have hcb : 0 ≤ c ∧ c < sh.c := by
  rw [status_lt0] at hst
  simp only [Decidable.not_not] at hst
  exact hst.2
 by_cases hpt : page sh.p sh.c sh.m n3 < 0
 ·have g4 : decide (page sh.p sh.c sh.m n3 < 0) = true := decide_eq_true hpt
  simp only [hx1, hz1, r1, r2, i0, i3, u_status, u_page, g3, g4, ↓DD, UU, ↓reduceIte, xA, xB, xC, xD, xE, xF, xG, xH, xI, xJ, xK, xL, xM, xN, xO, xP, xQ, ne_eq, eq_self]
  exact hS.p1.tail.p1.tail
 have g4 : decide (page sh.p sh.c sh.m n3 < 0) = false := decide_eq_false hpt
 have hfb : 0 ≤ n3 ∧ n3 < sh.p := by
  rw [page_lt0] at hpt
  simp only [Decidable.not_not] at hpt
  exact hpt.2
 have hb := (may_iff _ _ _).1 hm
 have hwl := words_le hm
 have hwg := words_ge hm hn
 have hn2 : n ≤ 2000 := by omega
 simp only [hx1, hz1, r1, r2, i0, i3, u_status, u_page, g3, g4, ↓DD, UU, ↓reduceIte, xA, xB, xC, xD, xE, xF, xG, xH, xI, xJ, xK, xL, xM, xN, xO, xP, xQ, ne_eq, eq_self]
 refine callT_of (c_fill hn2 hr hS) ?_
 rintro v H' ⟨b, s, rfl, hS⟩
 have hx1 := hS.lk 4 rfl
 have hz1 := hS.lk 3 rfl
 have r1 := fun o n => rdn_of hx1 o n
 have r2 := fun o => rd_of hz1 o
 simp only [hx1, hz1, r1, r2, i0, i1, i2, i3, ↓DD, UU, ↓reduceIte, xA, xB, xC, xD, xE, xF, xG, xH, xI, xJ, xK, xL, xM, xN, xO, xP, xQ, ne_eq, eq_self]
 refine callT_of (c_renew (sh := sh) (c := c) (a := n1) (n := n2) (f := n3) hS) ?_
 rintro v H' ⟨k, kr, k2, kn, kg, kp, km, rfl, hS⟩
 simp only [↓DD, UU, ↓reduceIte, xA, xB, xC, xD, xE, xF, xG, xH, xI, xJ, xK, xL, xM, xN, xO, xP, xQ, ne_eq, eq_self]
 have hof0 : (rowW n ws).of sh := rowW_of hn fun i hi => hU i hi
 have hsn0 : Snd sh (rowW n ws).ws := tu_snd hm hn hsnd0
 have hal0 := Re.Any.init (s := sh) (c := c) (a := n1) (n := n2) (f := n3) hm hof0 hcb.1 hcb.2 hfb.1 hfb.2 hsn0
 have hl0 := Re.new_left sh c n1 n2 n3 hm
 obtain ⟨ws0, hws0⟩ : ∃ ws0, (rowW n ws).ws = ws0 := ⟨_, rfl⟩
 have hr0 : RowU h a n ws0 := by rw [← hws0]; exact tu_row hr
 have hU0 : ∀ i, i < n → U (ws0 i) := fun i _ => by rw [← hws0]; exact hof0.u i
 rw [hws0] at hal0 hsn0
 obtain ⟨zB, hzB⟩ : ∃ zB, sg z (.cells #[.int .i64 c, .int .i64 n1, .int .i64 n2, .int .i64 n3] 25 (0, 0)) = zB := ⟨_, rfl⟩
 obtain ⟨hpX, hxB⟩ : ∃ hpX, sg x (.cells #[.int .i64 sh.p, .int .i64 sh.c, .int .i64 sh.m] 23 (0, 0)) = hpX := ⟨_, rfl⟩
 rw [hzB, hxB] at hS
 refine loop_intro (rwA sh ws0 c n1 n2 n3 x z b k kr k2 kg s n cap a (h :: zB :: hpX :: l)) (fun F' _ => (2 * sh.m + 80 * sh.p + 120 - iv (gt F' 9)).toNat)
  ⟨0, kn, kp, km, _, _, Int.le_refl _, by omega, by simp [gt], ⟨by simp [gt], by simp [gt], by simp [gt], by simp [gt], by simp [gt]⟩, hal0, by omega, hS⟩ ?_
 clear hS hx1 hz1 r1 r2 r0 hal0 hl0
 rintro F' H' ⟨i, kn, kp, km, t, w, j0, j1, e9, ⟨e1, e3, e5, e7, e8⟩, hal, hl, hS⟩
 have aw := hal.of
 have hx1 : H' x = some (.cells #[.int .i64 sh.p, .int .i64 sh.c, .int .i64 sh.m] 23 (0, 0)) := by
  have g := hS.offL
  rw [← hxB] at g
  exact g.lk 4 rfl
 have rx := fun o => rd_of hx1 o
 have r1 := fun o n => rdn_of hx1 o n
 have m0 : w64 (2 * sh.m) = 2 * sh.m := w64_eq (by omega) (by omega)
 have m1 : w64 (80 * sh.p) = 80 * sh.p := w64_eq (by omega) (by omega)
 have m2 : w64 (2 * sh.m + 80 * sh.p) = 2 * sh.m + 80 * sh.p := w64_eq (by omega) (by omega)
 have m3 : w64 (2 * sh.m + 80 * sh.p + 120) = 2 * sh.m + 80 * sh.p + 120 := w64_eq (by omega) (by omega)
 have wi : w64 (i + 1) = i + 1 := w64_eq (by omega) (by omega)
 by_cases hlt : i < 2 * sh.m + 80 * sh.p + 120
 ·have d1 : decide (i < 2 * sh.m + 80 * sh.p + 120) = true := decide_eq_true hlt
  simp only [e9, e1, e3, e5, e7, e8, hx1, rx, wrap_w64, m0, m1, m2, m3, d1, ↓DD, UU, ↓reduceIte, xA, xB, xC, xD, xE, xF, xG, xH, xI, xJ, xK, xL, xM, xN, xO, xP, xQ, ne_eq, eq_self]
  refine callT_of (c_restep hal.wf (fun _ => by rw [hal.es]; exact aw) hS) ?_
  rintro v H' ⟨rfl, kn2, kp2, km2, hS⟩
  have hl2 := Re.left_step (m := 2 * sh.m + 80 * sh.p + 120 - i) hal.wf (by rw [hal.es]; exact aw) hl
  simp only [e9, e1, e3, e5, e7, e8, wrap_w64, wi, ↓DD, UU, ↓reduceIte, xA, xB, xC, xD, xE, xF, xG, xH, xI, xJ, xK, xL, xM, xN, xO, xP, xQ, ne_eq, eq_self]
  exact ⟨⟨i + 1, kn2, kp2, km2, _, _, by omega, by omega, by simp [gt], ⟨by simp [gt, e1], by simp [gt, e3], by simp [gt, e5], by simp [gt, e7], by simp [gt, e8]⟩, hal.step, by omega, hS⟩, by simp [gt, iv, e9]; omega⟩
 have d1 : decide (i < 2 * sh.m + 80 * sh.p + 120) = false := decide_eq_false hlt
 have hdn : t.dn = true := Re.left_dn hal.wf (by omega)
 obtain ⟨hsnw, hend⟩ := hal.ends hdn
 simp only [e9, e1, e3, e5, e7, e8, hx1, rx, wrap_w64, m0, m1, m2, m3, d1, ↓DD, UU, ↓reduceIte, xA, xB, xC, xD, xE, xF, xG, xH, xI, xJ, xK, xL, xM, xN, xO, xP, xQ, ne_eq, eq_self]
 refine callT_of (c_refound hal.wf hS) ?_
 rintro v H' ⟨rfl, hS⟩
 simp only [e9, e1, e3, e5, e7, e8, bkV, ↓DD, UU, ↓reduceIte, xA, xB, xC, xD, xE, xF, xG, xH, xI, xJ, xK, xL, xM, xN, xO, xP, xQ, ne_eq, eq_self]
 have hz0 : H' z = some (.cells #[.int .i64 c, .int .i64 n1, .int .i64 n2, .int .i64 n3] 25 (0, 0)) := by
  have g := hS.offL
  rw [← hzB] at g
  exact g.lk 3 rfl
 refine newB_intro fun q hq f7 f8 => ?_
 have nzq : (z = q) = False := f7 z (by rw [hz0]; rfl)
 have nqz : (q = z) = False := f8 z (by rw [hz0]; rfl)
 have hS := (hS.new f7 (.cells #[.bool t.bk.lg, .int .i64 t.bk.p, .int .i64 t.bk.i, .int .i64 t.bk.k, .int .i64 t.bk.n] 35 (0, 0)))
 obtain ⟨LA, hLA⟩ : ∃ LA, LA = reL k kr k2 kn kg kp km t := ⟨_, rfl⟩
 obtain ⟨T, hT⟩ : ∃ T, T = zB :: hpX :: l := ⟨_, rfl⟩
 obtain ⟨Q, hQ⟩ : ∃ Q, Q = sg q (.cells #[.bool t.bk.lg, .int .i64 t.bk.p, .int .i64 t.bk.i, .int .i64 t.bk.k, .int .i64 t.bk.n] 35 (0, 0)) := ⟨_, rfl⟩
 rw [← hLA, ← hQ, ← hT] at hS
 have hS : Sep (h :: wB b s w :: wR s w :: Q :: (LA ++ T)) _ := (Sep.fr (X := Q :: LA) (L := [wB b s w, wR s w, h]) (Y := T) hS).p2
 have lx : ∀ Z : Hp, Sep (LA ++ T) Z → Z x = some (.cells #[.int .i64 sh.p, .int .i64 sh.c, .int .i64 sh.m] 23 (0, 0)) := fun Z g => by
  have g2 := g.offL
  rw [hT, ← hxB] at g2
  exact g2.lk 1 rfl
 have lz : ∀ Z : Hp, Sep (LA ++ T) Z → Z z = some (.cells #[.int .i64 c, .int .i64 n1, .int .i64 n2, .int .i64 n3] 25 (0, 0)) := fun Z g => by
  have g2 := g.offL
  rw [hT, ← hzB] at g2
  exact g2.lk 0 rfl
 have hx1 := lx _ hS.tail.tail.tail.tail
 have r1 := fun o n => rdn_of hx1 o n
 have hwn : w.n ≤ 2000 := by have := aw.n; omega
 have hnW : ((w.n : Nat) : Int) = words sh.p sh.c sh.m := by rw [aw.n]
 simp only [Ev.upd_upd, e9, e1, e3, e5, e7, e8, ↓DD, UU, ↓reduceIte, xA, xB, xC, xD, xE, xF, xG, xH, xI, xJ, xK, xL, xM, xN, xO, xP, xQ, ne_eq, eq_self]
 refine draw_intro [(x, #[.int .i64 sh.p, .int .i64 sh.c, .int .i64 sh.m], [])] (by simp only [hx1, ↓DD, UU, ↓reduceIte, xA, xB, xC, xD, xE, xF, xG, xH, xI, xJ, xK, xL, xM, xN, xO, xP, xQ, ne_eq, eq_self]) ?_
 simp only [e9, e1, e3, e5, e7, e8, hx1, r1, ↓DD, UU, ↓reduceIte, xA, xB, xC, xD, xE, xF, xG, xH, xI, xJ, xK, xL, xM, xN, xO, xP, xQ, ne_eq, eq_self]
 refine callT_of (c_blocks (sh := sh) hm hn hr0 hU0 hS) ?_
 rintro v H' ⟨ba, bc, g, rfl, hBL, hS⟩
 have hx1 := lx _ hS.tail.tail.tail.tail.tail
 have r1 := fun o n => rdn_of hx1 o n
 simp only [e9, e1, e3, e5, e7, e8, hx1, r1, ↓DD, UU, ↓reduceIte, xA, xB, xC, xD, xE, xF, xG, xH, xI, xJ, xK, xL, xM, xN, xO, xP, xQ, ne_eq, eq_self]
 refine callT_of (c_all (w := w) hwn hS.p3.p3) ?_
 rintro v H' ⟨a3, cap3, h3, rfl, hr3, hS⟩
 have hx1 := lx _ hS.tail.tail.tail.tail.tail.tail
 have r1 := fun o n => rdn_of hx1 o n
 simp only [e9, e1, e3, e5, e7, e8, hx1, r1, ↓DD, UU, ↓reduceIte, xA, xB, xC, xD, xE, xF, xG, xH, xI, xJ, xK, xL, xM, xN, xO, xP, xQ, ne_eq, eq_self]
 refine callT_of (c_blocks (sh := sh) hm hnW hr3 (fun i _ => aw.u i) hS) ?_
 rintro v H' ⟨ba2, bc2, g2, rfl, hBL2, hS⟩
 have hx1 := lx _ hS.tail.tail.tail.tail.tail.tail.tail
 have r1 := fun o n => rdn_of hx1 o n
 have hfe : (t.er == 0) = t.fd := by
  rcases hend with g | g
  ·rw [g.er, g.fd]; rfl
  ·rw [g.fd]; simpa using g.er
 have hge : t.gave = t.fd := by
  rcases hend with g | g
  ·rw [g.gv, g.fd]
  ·rw [g.gv, g.fd]
 have hff : (t.fd != t.fd) = false := by simp
 simp only [e9, e1, e3, e5, e7, e8, hx1, ↓DD, UU, ↓reduceIte, xA, xB, xC, xD, xE, xF, xG, xH, xI, xJ, xK, xL, xM, xN, xO, xP, xQ, ne_eq, eq_self]
 refine draw_intro [(x, #[.int .i64 sh.p, .int .i64 sh.c, .int .i64 sh.m], [])] (by simp only [hx1, ↓DD, UU, ↓reduceIte, xA, xB, xC, xD, xE, xF, xG, xH, xI, xJ, xK, xL, xM, xN, xO, xP, xQ, ne_eq, eq_self]) ?_
 simp only [e9, e1, e3, e5, e7, e8, ↓DD, UU, ↓reduceIte, xA, xB, xC, xD, xE, xF, xG, xH, xI, xJ, xK, xL, xM, xN, xO, xP, xQ, ne_eq, eq_self]
 refine callT_of (c_redone' (t := t) (by rw [← hLA]; exact Sep.fr (X := [g2, h3, wB b s w, wR s w, g, h, Q]) (L := LA) (Y := T) hS)) ?_
 rintro v H' ⟨rfl, hS⟩
 rw [← hLA] at hS
 have hS : Sep (g2 :: h3 :: wB b s w :: wR s w :: g :: h :: Q :: (LA ++ T)) _ := Sep.fr (X := LA) (L := [g2, h3, wB b s w, wR s w, g, h, Q]) (Y := T) hS
 have hx1 := lx _ hS.tail.tail.tail.tail.tail.tail.tail
 simp only [e9, e1, e3, e5, e7, e8, hx1, hdn, ↓DD, UU, ↓reduceIte, xA, xB, xC, xD, xE, xF, xG, xH, xI, xJ, xK, xL, xM, xN, xO, xP, xQ, ne_eq, eq_self]
 refine callT_of (c_reerr' (t := t) (by rw [← hLA]; exact Sep.fr (X := [g2, h3, wB b s w, wR s w, g, h, Q]) (L := LA) (Y := T) hS)) ?_
 rintro v H' ⟨rfl, hS⟩
 rw [← hLA] at hS
 have hS : Sep (g2 :: h3 :: wB b s w :: wR s w :: g :: h :: Q :: (LA ++ T)) _ := Sep.fr (X := LA) (L := [g2, h3, wB b s w, wR s w, g, h, Q]) (Y := T) hS
 have hx1 := lx _ hS.tail.tail.tail.tail.tail.tail.tail
 simp only [e9, e1, e3, e5, e7, e8, hx1, hfe, hff, ↓DD, UU, ↓reduceIte, xA, xB, xC, xD, xE, xF, xG, xH, xI, xJ, xK, xL, xM, xN, xO, xP, xQ, ne_eq, eq_self]
 refine callT_of (c_regave (t := t) (by rw [← hLA]; exact Sep.fr (X := [g2, h3, wB b s w, wR s w, g, h, Q]) (L := LA) (Y := T) hS)) ?_
 rintro v H' ⟨rfl, hS⟩
 rw [← hLA] at hS
 have hS : Sep (g2 :: h3 :: wB b s w :: wR s w :: g :: h :: Q :: (LA ++ T)) _ := Sep.fr (X := LA) (L := [g2, h3, wB b s w, wR s w, g, h, Q]) (Y := T) hS
 have hx1 := lx _ hS.tail.tail.tail.tail.tail.tail.tail
 have r1 := fun o n => rdn_of hx1 o n
 simp only [e9, e1, e3, e5, e7, e8, hx1, r1, hge, hff, ↓DD, UU, ↓reduceIte, xA, xB, xC, xD, xE, xF, xG, xH, xI, xJ, xK, xL, xM, xN, xO, xP, xQ, ne_eq, eq_self]
 refine callT_of (c_all (w := w) hwn hS.p3.p3) ?_
 rintro v H' ⟨a4, cap4, h4, rfl, hr4, hS⟩
 have hx1 := lx _ hS.tail.tail.tail.tail.tail.tail.tail.tail
 have r1 := fun o n => rdn_of hx1 o n
 simp only [e9, e1, e3, e5, e7, e8, hx1, r1, ↓DD, UU, ↓reduceIte, xA, xB, xC, xD, xE, xF, xG, xH, xI, xJ, xK, xL, xM, xN, xO, xP, xQ, ne_eq, eq_self]
 refine callT_of (c_soundV hm hnW hr4 (fun i _ => aw.u i) hS) ?_
 rintro v H' ⟨sb, rfl, hsb, hS⟩
 have hsb := hsb.2 hsnw
 subst hsb
 have hS : Sep (g2 :: g :: h :: Q :: (LA ++ T)) _ := hS.tail.tail.tail.p1.tail
 have hx1 := lx _ hS.tail.tail.tail.tail
 obtain ⟨A, hA⟩ : ∃ A, blks sh ws0 sh.p.toNat = A := ⟨_, rfl⟩
 obtain ⟨B, hB⟩ : ∃ B, blks sh w.ws sh.p.toNat = B := ⟨_, rfl⟩
 have hAl : A.length ≤ 1024 := by have := blks_len (s := sh) (ws := ws0) sh.p.toNat; rw [hA] at this; omega
 have hBl : B.length ≤ 1024 := by have := blks_len (s := sh) (ws := w.ws) sh.p.toNat; rw [hB] at this; omega
 rw [hA] at hBL
 rw [hB] at hBL2
 rcases hend with hW | hN
 ·obtain ⟨pre, post, hput, pre', z', post', q2, q3, q4, q5⟩ := hW.put
  rw [hA] at hput
  rw [hB] at q5
  have hb2 := hput.b
  have hbk := hW.fit
  have w64p : w64 (sh.p * 64) = sh.p * 64 := w64_eq (by omega) (by omega)
  have hx0 := fun o => rd_of hx1 o
  simp only [e9, e1, e3, e5, e7, e8, hx1, hx0, hW.fd, hA, hB, wrap_w64, w64p, ↓DD, UU, ↓reduceIte, xA, xB, xC, xD, xE, xF, xG, xH, xI, xJ, xK, xL, xM, xN, xO, xP, xQ, ne_eq, eq_self]
  refine callT_of (c_mnew (words := sh.p * 64) (by omega) (by omega) hS) ?_
  rintro v H' ⟨km, rfl, hS⟩
  simp only [e9, e1, e3, e5, e7, e8, ↓DD, UU, ↓reduceIte, xA, xB, xC, xD, xE, xF, xG, xH, xI, xJ, xK, xL, xM, xN, xO, xP, xQ, ne_eq, eq_self]
  have hpA : ∀ y ∈ A, 0 ≤ y.1 ∧ 1 ≤ y.2 ∧ y.1 + y.2 ≤ sh.p * 64 := fun y hy => blks_pos hm hsn0 (by rw [hA]; exact hy)
  have hsrA : Srt A := by rw [← hA]; exact hsn0.srt hm _ (by omega)
  refine loop_intro (rwM A sh.p q z km A.length B.length bc bc2 ba ba2 (g2 :: g :: h :: Q :: (LA ++ T))) (fun F' _ => (A.length - iv (gt F' 16)).toNat)
   ⟨0, 0, none, _, by omega, by simp [gt], ⟨by simp [gt, hA], by simp [gt, hB], by simp [gt], by simp [gt, e5], by simp [gt]⟩, .inl ⟨rfl, rfl, rfl, rfl⟩, hS⟩ ?_
  clear hS hx1 hx0 r1 rx e9 e1 e3 e5 e7 e8
  rintro F' H' ⟨i, cap4, a4, g4, hi, e16, ⟨e12, e13, e10, e5, e15⟩, hmd, hS⟩
  by_cases hlt : i < A.length
  ·have d1 : decide ((i : Int) < (A.length : Int)) = true := decide_eq_true (by omega)
   have p0 : (0 : Int) ≤ (i : Int) := by omega
   have p1 : (i : Int) < (A.length : Int) := by omega
   have wi : w64 ((i : Int) + 1) = (i : Int) + 1 := w64_eq (by omega) (by omega)
   have hBL' := hBL
   rcases hBL' with ⟨-, h0, -, -⟩ | ⟨zb, cb, rfl, hg, -, -, hce⟩
   ·omega
   obtain ⟨hc0, hc1⟩ := hce i hlt
   have hg1 : H' zb = some (.cells cb 43 (0, 0)) := by
    have := hS.lk 3 (b := zb) (o := .cells cb 43 (0, 0)) (by rw [hg]; rfl)
    exact this
   have rg := fun o => rd_of hg1 o
   obtain ⟨y, hy⟩ : ∃ y, A.getD i (0, 0) = y := ⟨_, rfl⟩
   have hc0 : cb[i * 2]? = some (.int .i64 (A.getD i (0, 0)).1) := hc0
   have hc1 : cb[i * 2 + 1]? = some (.int .i64 (A.getD i (0, 0)).2) := hc1
   rw [hy] at hc0 hc1
   have hyA : y ∈ A := by
    rw [← hy, List.getD_eq_getElem?_getD, List.getElem?_eq_getElem hlt]
    exact List.getElem_mem _
   have htk : A.take i ++ [(y.1, y.2)] = A.take (i + 1) := by
    rw [List.take_add_one, List.getElem?_eq_getElem hlt]
    rw [List.getD_eq_getElem?_getD, List.getElem?_eq_getElem hlt] at hy
    have hy : A[i] = y := hy
    rw [hy]; rfl
   have hlo : ∀ b ∈ A.take i, 0 ≤ b.1 ∧ 1 ≤ b.2 ∧ b.1 + b.2 ≤ y.1 := fun b hb => by
    have hbA := hpA b (List.mem_of_mem_take hb)
    have hs2 : Srt (A.take i ++ A.drop i) := by rw [List.take_append_drop]; exact hsrA
    refine ⟨hbA.1, hbA.2.1, (srt_app hs2).2.2 b hb y ?_⟩
    rw [← hy, List.getD_eq_getElem?_getD, List.getElem?_eq_getElem hlt, List.drop_eq_getElem_cons hlt]
    exact List.mem_cons_self ..
   have hyb := hpA y hyA
   simp only [e16, e12, e13, e10, e5, e15, d1, ↓DD, UU, ↓reduceIte, xA, xB, xC, xD, xE, xF, xG, xH, xI, xJ, xK, xL, xM, xN, xO, xP, xQ, ne_eq, eq_self]
   refine draw_intro [(zb, cb, [])] (by simp only [hg1, ↓DD, UU, ↓reduceIte, xA, xB, xC, xD, xE, xF, xG, xH, xI, xJ, xK, xL, xM, xN, xO, xP, xQ, ne_eq, eq_self]) ?_
   simp only [e16, e12, e13, e10, e5, e15, d1, p0, p1, Int.toNat_natCast, hg1, rg, hc0, hc1, ↓DD, UU, ↓reduceIte, xA, xB, xC, xD, xE, xF, xG, xH, xI, xJ, xK, xL, xM, xN, xO, xP, xQ, ne_eq, eq_self]
   refine callT_of (c_mtakeN hmd (by omega) (by rw [List.length_take]; omega) hyb.1 hyb.2.1 hyb.2.2 hlo hS) ?_
   rintro v H' ⟨rfl, a5, cap5, g5, hmd5, hS⟩
   rw [htk] at hmd5 hS
   simp only [e16, e12, e13, e10, e5, e15, wrap_w64, wi, ↓DD, UU, ↓reduceIte, xA, xB, xC, xD, xE, xF, xG, xH, xI, xJ, xK, xL, xM, xN, xO, xP, xQ, ne_eq, eq_self]
   exact ⟨⟨i + 1, cap5, a5, g5, hlt, by simp [gt], ⟨by simp [gt, e12], by simp [gt, e13], by simp [gt, e10], by simp [gt, e5], by simp [gt, e15]⟩, hmd5, hS⟩, by simp [gt, iv, e16]; omega⟩
  have hiA : i = A.length := by omega
  rw [hiA, List.take_length] at hmd hS
  have d1 : decide ((i : Int) < (A.length : Int)) = false := decide_eq_false (by omega)
  have hq1 := hS.lk 5 (b := q) (o := .cells #[.bool t.bk.lg, .int .i64 t.bk.p, .int .i64 t.bk.i, .int .i64 t.bk.k, .int .i64 t.bk.n] 35 (0, 0)) (by rw [hQ]; rfl)
  have hz1 := lz _ hS.tail.tail.tail.tail.tail.tail
  have rz := fun o => rd_of hz1 o
  have rq := fun o n => rdn_of hq1 o n
  simp only [e16, e12, e13, e10, e5, e15, d1, rz, u_length, ↓DD, UU, ↓reduceIte, xA, xB, xC, xD, xE, xF, xG, xH, xI, xJ, xK, xL, xM, xN, xO, xP, xQ, ne_eq, eq_self]
  refine drawX_intro [(q, #[.bool t.bk.lg, .int .i64 t.bk.p, .int .i64 t.bk.i, .int .i64 t.bk.k, .int .i64 t.bk.n], []), (z, #[.int .i64 c, .int .i64 n1, .int .i64 n2, .int .i64 n3], [])] (by simp only [hq1, hz1, ↓DD, UU, ↓reduceIte, xA, xB, xC, xD, xE, xF, xG, xH, xI, xJ, xK, xL, xM, xN, xO, xP, xQ, ne_eq, eq_self]) ?_
  simp only [e16, e12, e13, e10, e5, e15, xt_take, hq1, rq, ↓DD, UU, ↓reduceIte, xA, xB, xC, xD, xE, xF, xG, xH, xI, xJ, xK, xL, xM, xN, xO, xP, xQ, ne_eq, eq_self]
  refine x_same _ _ _ ?_
  simp only [e16, e12, e13, e10, e5, e15, ↓DD, UU, ↓reduceIte, xA, xB, xC, xD, xE, xF, xG, xH, xI, xJ, xK, xL, xM, xN, xO, xP, xQ, ne_eq, eq_self]
  have hbb := hbk.1
  have hbd : (0 ≤ t.bk.p ∧ t.bk.p ≤ 64) ∧ (0 ≤ t.bk.i ∧ t.bk.i ≤ 64) ∧ (0 ≤ t.bk.n ∧ t.bk.n ≤ 64) := by
   have p0 := hbb.p0
   have p1 := hbb.p1
   cases e : t.bk.lg
   ·have g1 := hbb.s e
    have sb := slots_bd t.bk.k
    have := hbk.2.2 e
    exact ⟨by omega, by omega, by omega⟩
   ·have g1 := hbb.l e
    have := hbk.2.1 e
    exact ⟨by omega, by omega, by omega⟩
  refine callT_of (c_bkat (B := t.bk) hbd.1 hbd.2.1 hS) ?_
  rintro v H' ⟨rfl, hS⟩
  have hq1 := hS.lk 5 (b := q) (o := .cells #[.bool t.bk.lg, .int .i64 t.bk.p, .int .i64 t.bk.i, .int .i64 t.bk.k, .int .i64 t.bk.n] 35 (0, 0)) (by rw [hQ]; rfl)
  have hz1 := lz _ hS.tail.tail.tail.tail.tail.tail
  have rz := fun o => rd_of hz1 o
  have rq := fun o n => rdn_of hq1 o n
  refine ⟨by simp only [hq1, hz1, ↓DD, UU, ↓reduceIte, xA, xB, xC, xD, xE, xF, xG, xH, xI, xJ, xK, xL, xM, xN, xO, xP, xQ, ne_eq, eq_self], ?_⟩
  refine x_same _ _ _ ?_
  simp only [e16, e12, e13, e10, e5, e15, ↓DD, UU, ↓reduceIte, xA, xB, xC, xD, xE, xF, xG, xH, xI, xJ, xK, xL, xM, xN, xO, xP, xQ, ne_eq, eq_self]
  refine callT_of (c_bklen (B := t.bk) hbd.2.2 hS) ?_
  rintro v H' ⟨rfl, hS⟩
  have hq1 := hS.lk 5 (b := q) (o := .cells #[.bool t.bk.lg, .int .i64 t.bk.p, .int .i64 t.bk.i, .int .i64 t.bk.k, .int .i64 t.bk.n] 35 (0, 0)) (by rw [hQ]; rfl)
  have hz1 := lz _ hS.tail.tail.tail.tail.tail.tail
  have rz := fun o => rd_of hz1 o
  have rq := fun o n => rdn_of hq1 o n
  refine ⟨by simp only [hq1, hz1, ↓DD, UU, ↓reduceIte, xA, xB, xC, xD, xE, xF, xG, xH, xI, xJ, xK, xL, xM, xN, xO, xP, xQ, ne_eq, eq_self], ?_⟩
  refine x_same _ _ _ ?_
  simp only [e16, e12, e13, e10, e5, e15, ↓DD, UU, ↓reduceIte, xA, xB, xC, xD, xE, xF, xG, xH, xI, xJ, xK, xL, xM, xN, xO, xP, xQ, ne_eq, eq_self]
  rw [hput.eq] at hmd hS
  refine callT_of (c_mtake (pre := pre) (post := post) hmd (by omega) (by rw [← hput.eq]; omega) hb2.1 hb2.2.1 hb2.2.2 hput.lo hput.hi hS) ?_
  rintro v H' ⟨rfl, a5, cap5, g5, hmd5, hS⟩
  have hq1 := hS.lk 5 (b := q) (o := .cells #[.bool t.bk.lg, .int .i64 t.bk.p, .int .i64 t.bk.i, .int .i64 t.bk.k, .int .i64 t.bk.n] 35 (0, 0)) (by rw [hQ]; rfl)
  have hz1 := lz _ hS.tail.tail.tail.tail.tail.tail
  have rz := fun o => rd_of hz1 o
  have rq := fun o n => rdn_of hq1 o n
  refine ⟨by simp only [hq1, hz1, ↓DD, UU, ↓reduceIte, xA, xB, xC, xD, xE, xF, xG, xH, xI, xJ, xK, xL, xM, xN, xO, xP, xQ, ne_eq, eq_self], ?_⟩
  simp only [e16, e12, e13, e10, e5, e15, xt_take, xt_takeg, hq1, rq, ↓DD, UU, ↓reduceIte, xA, xB, xC, xD, xE, xF, xG, xH, xI, xJ, xK, xL, xM, xN, xO, xP, xQ, ne_eq, eq_self]
  refine x_sameg _ _ _ _ _ ?_
  simp only [e16, e12, e13, e10, e5, e15, ↓DD, UU, ↓reduceIte, xA, xB, xC, xD, xE, xF, xG, xH, xI, xJ, xK, xL, xM, xN, xO, xP, xQ, ne_eq, eq_self]
  refine callT_of (c_bklen (B := t.bk) hbd.2.2 hS) ?_
  rintro v H' ⟨rfl, hS⟩
  have hq1 := hS.lk 5 (b := q) (o := .cells #[.bool t.bk.lg, .int .i64 t.bk.p, .int .i64 t.bk.i, .int .i64 t.bk.k, .int .i64 t.bk.n] 35 (0, 0)) (by rw [hQ]; rfl)
  have hz1 := lz _ hS.tail.tail.tail.tail.tail.tail
  have rz := fun o => rd_of hz1 o
  have rq := fun o n => rdn_of hq1 o n
  have k1 : (t.bk.len != len n2) = false := by rw [hW.len]; simp
  refine ⟨by simp only [hq1, hz1, ↓DD, UU, ↓reduceIte, xA, xB, xC, xD, xE, xF, xG, xH, xI, xJ, xK, xL, xM, xN, xO, xP, xQ, ne_eq, eq_self], ?_⟩
  simp only [e16, e12, e13, e10, e5, e15, xt_take, xt_takeg, hz1, rz, k1, nzq, nqz, i1, ↓DD, UU, ↓reduceIte, xA, xB, xC, xD, xE, xF, xG, xH, xI, xJ, xK, xL, xM, xN, xO, xP, xQ, ne_eq, eq_self]
  refine x_growg _ _ _ _ _ ?_
  simp only [e16, e12, e13, e10, e5, e15, ↓DD, UU, ↓reduceIte, xA, xB, xC, xD, xE, xF, xG, xH, xI, xJ, xK, xL, xM, xN, xO, xP, xQ, ne_eq, eq_self]
  have eqs : pre ++ [(t.bk.ad, t.bk.len)] ++ post = pre' ++ z' :: post' := by rw [List.append_assoc]; exact q2
  rw [eqs] at hmd5 hS
  have hll : (pre' ++ z' :: post').length ≤ 2000 := by rw [← q2, List.length_append, List.length_cons]; rw [hput.eq, List.length_append] at hAl; omega
  refine callT_of (c_mgive hmd5 hll q3 q4 hS) ?_
  rintro v H' ⟨rfl, a6, cap6, g6, hmd6, hS⟩
  have hq1 := hS.lk 5 (b := q) (o := .cells #[.bool t.bk.lg, .int .i64 t.bk.p, .int .i64 t.bk.i, .int .i64 t.bk.k, .int .i64 t.bk.n] 35 (0, 0)) (by rw [hQ]; rfl)
  have hz1 := lz _ hS.tail.tail.tail.tail.tail.tail
  have rz := fun o => rd_of hz1 o
  have rq := fun o n => rdn_of hq1 o n
  have hk1 := hS.look
  have rk := fun o => rd_of hk1 o
  have nkq := hS.neq 0 5 (by decide) rfl (show _ = some (sg q (.cells #[.bool t.bk.lg, .int .i64 t.bk.p, .int .i64 t.bk.i, .int .i64 t.bk.k, .int .i64 t.bk.n] 35 (0, 0))) by rw [hQ]; rfl)
  have nkz : (km = z) = False := by
   refine eq_false fun e => ?_
   have h9 := hz1.symm.trans (e ▸ hk1)
   injection h9 with h9
   injection h9 with h9
   have h8 := congrArg Array.size h9
   simp at h8
  have q6 : (pre' ++ post').length = B.length := by rw [q5]
  rw [← q5] at hmd6 hS
  rw [← q5] at hk1 rk
  have k3 : ((B.length : Int) != (B.length : Int)) = false := by simp
  refine ⟨[(km, #[.slice a6 B.length cap6, .int .i64 (sh.p * 64)], [])], ?_⟩
  simp only [List.cons_append, List.nil_append]
  refine ⟨by simp only [hq1, hz1, hk1, ↓DD, UU, ↓reduceIte, xA, xB, xC, xD, xE, xF, xG, xH, xI, xJ, xK, xL, xM, xN, xO, xP, xQ, ne_eq, eq_self], ?_⟩
  simp only [e16, e12, e13, e10, e5, e15, hk1, rk, nkq, nkz, k3, ↓DD, UU, ↓reduceIte, xA, xB, xC, xD, xE, xF, xG, xH, xI, xJ, xK, xL, xM, xN, xO, xP, xQ, ne_eq, eq_self]
  refine loop_intro (rwE B km cap6 bc2 a6 ba2 (mjB km a6 B.length cap6 (sh.p * 64) :: g6 :: g2 :: g :: h :: Q :: (LA ++ T))) (fun F' _ => (B.length - iv (gt F' 19)).toNat)
   ⟨0, by omega, by simp [gt], by simp [gt, e13], by simp [gt, e15], hS⟩ ?_
  clear hS hq1 hz1 rz rq hk1 rk e16 e12 e13 e10 e5 e15 d1 hi hlt
  rintro F' H' ⟨i, hi, e19, e13, e15, hS⟩
  have hk1 := hS.look
  have rk := fun o => rd_of hk1 o
  by_cases hlt : i < B.length
  ·have d1 : decide ((i : Int) < (B.length : Int)) = true := decide_eq_true (by omega)
   have p0 : (0 : Int) ≤ (i : Int) := by omega
   have p1 : (i : Int) < (B.length : Int) := by omega
   have wi : w64 ((i : Int) + 1) = (i : Int) + 1 := w64_eq (by omega) (by omega)
   have hBL' := hBL2
   rcases hBL' with ⟨-, h0, -, -⟩ | ⟨zb, cb, rfl, hg, -, -, hce⟩
   ·omega
   obtain ⟨hc0, hc1⟩ := hce i hlt
   have hg1 := hS.lk 2 (b := zb) (o := .cells cb 43 (0, 0)) (by rw [hg]; rfl)
   have rg := fun o => rd_of hg1 o
   have hc0 : cb[i * 2]? = some (.int .i64 (B.getD i (0, 0)).1) := hc0
   have hc1 : cb[i * 2 + 1]? = some (.int .i64 (B.getD i (0, 0)).2) := hc1
   obtain ⟨zm, hzm, hr1, hr2, -⟩ := hmd6.cell hS (by simp) hlt
   have v1 : ((B.getD i (0, 0)).1 != (B.getD i (0, 0)).1) = false := by simp
   have v2 : ((B.getD i (0, 0)).2 != (B.getD i (0, 0)).2) = false := by simp
   subst hzm
   simp only [e19, e13, e15, d1, p0, p1, Int.toNat_natCast, hg1, rg, hc0, hc1, hk1, rk, hr1, hr2, v1, v2, wrap_w64, wi, ↓DD, UU, ↓reduceIte, xA, xB, xC, xD, xE, xF, xG, xH, xI, xJ, xK, xL, xM, xN, xO, xP, xQ, ne_eq, eq_self]
   exact ⟨⟨i + 1, hlt, by simp [gt], by simp [gt, e13], by simp [gt, e15], hS⟩, by simp [gt, iv, e19]; omega⟩
  have d1 : decide ((i : Int) < (B.length : Int)) = false := decide_eq_false (by omega)
  simp only [e19, e13, e15, d1, ↓DD, UU, ↓reduceIte, xA, xB, xC, xD, xE, xF, xG, xH, xI, xJ, xK, xL, xM, xN, xO, xP, xQ, ne_eq, eq_self]
  rw [hT] at hS
  have hS := (Sep.fr (X := [mjB km a6 B.length cap6 (sh.p * 64), g6, g2, g, h, Q]) (L := LA) (Y := zB :: hpX :: l) hS).offL
  exact hS.tail.tail.tail.tail.p1.tail.p1.tail.p1.tail
 ·have hbl := hN.bl
  rw [hA, hB] at hbl
  subst hbl
  have d2 : ((B.length : Int) != (B.length : Int)) = false := by simp
  simp only [e9, e1, e3, e5, e7, e8, hx1, hN.fd, hA, hB, d2, ↓DD, UU, ↓reduceIte, xA, xB, xC, xD, xE, xF, xG, xH, xI, xJ, xK, xL, xM, xN, xO, xP, xQ, ne_eq, eq_self]
  refine loop_intro (rwN B.length bc bc2 ba ba2 (g2 :: g :: h :: Q :: (LA ++ T))) (fun F' _ => (B.length - iv (gt F' 14)).toNat)
   ⟨0, by omega, by simp [gt], by simp [gt], by simp [gt], hS⟩ ?_
  clear hS hx1 r1
  rintro F' H' ⟨i, hi, e14, e12, e13, hS⟩
  by_cases hlt : i < B.length
  ·have d1 : decide ((i : Int) < (B.length : Int)) = true := decide_eq_true (by omega)
   have p0 : (0 : Int) ≤ (i : Int) := by omega
   have p1 : (i : Int) < (B.length : Int) := by omega
   have wi : w64 ((i : Int) + 1) = (i : Int) + 1 := w64_eq (by omega) (by omega)
   obtain ⟨y2, hy2, -, hcl2⟩ := hBL2.cell hS (by simp) hlt
   obtain ⟨y, hy, -, hcl⟩ := hBL.cell hS (by simp) hlt
   subst hy2
   subst hy
   simp only [e14, e12, e13, d1, p0, p1, Int.toNat_natCast, hcl, hcl2, wrap_w64, wi, eq_pair, ↓DD, UU, ↓reduceIte, xA, xB, xC, xD, xE, xF, xG, xH, xI, xJ, xK, xL, xM, xN, xO, xP, xQ, ne_eq, eq_self]
   exact ⟨⟨i + 1, hlt, by simp [gt], by simp [gt, e12], by simp [gt, e13], hS⟩, by simp [gt, iv, e14]; omega⟩
  have d1 : decide ((i : Int) < (B.length : Int)) = false := decide_eq_false (by omega)
  simp only [e14, e12, e13, d1, ↓DD, UU, ↓reduceIte, xA, xB, xC, xD, xE, xF, xG, xH, xI, xJ, xK, xL, xM, xN, xO, xP, xQ, ne_eq, eq_self]
  rw [hT] at hS
  have hS := (Sep.fr (X := [g2, g, h, Q]) (L := LA) (Y := zB :: hpX :: l) hS).offL
  exact hS.tail.tail.p1.tail.p1.tail.p1.tail
end
theorem l_renewwell {W : World} {a : Option Addr} {n cap : Nat} {ws : Nat → Int} (p q m : Int) (hp : -9223372036854775808 ≤ p ∧ p ≤ 9223372036854775807) (hq : -9223372036854775808 ≤ q ∧ q ≤ 9223372036854775807) (hm : -9223372036854775808 ≤ m ∧ m ≤ 9223372036854775807)
  (hn : n ≤ 9223372036854775807) (hr : RowU (memOf W) a n ws) (hU : ∀ i, i < n → IntKind.u64.has (ws i)) (c n1 n2 n3 : Int) (hc : -9223372036854775808 ≤ c ∧ c ≤ 9223372036854775807) (h1 : -9223372036854775808 ≤ n1 ∧ n1 ≤ 9223372036854775807) (h2 : -9223372036854775808 ≤ n2 ∧ n2 ≤ 9223372036854775807) (h3 : -9223372036854775808 ≤ n3 ∧ n3 ≤ 9223372036854775807) :
  CallP Tryz.prog W 3 #[.agg #[.int .i64 p, .int .i64 q, .int .i64 m], .slice a n cap, .agg #[.int .i64 c, .int .i64 n1, .int .i64 n2, .int .i64 n3]] (memOf W) fun v H' => v = .bool true ∧ Sub (memOf W) H' :=
 (c_renewwell ⟨p, q, m⟩ c n1 n2 n3 hr (fun i hi => u64_bd (hU i hi)) (Sep.one _)).mono fun v H' ⟨h1, h2⟩ => ⟨h1, h2.head⟩
end Go.Proofs.YtapkiooeemamjaaGreat
