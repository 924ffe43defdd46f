/-
  TakeUndoes, walked: what was reserved in a sound heap is undone. Conditions: none.
-/
import Derived.Test.YtaiojajdnafkcaaGreatCodeAllotmentlaw15
import Derived.Test.YtaiojajdnafkcaaGreatTakeK
import Derived.Test.YtaiojajdnafkcaaGreatSoundA
import Derived.Test.YtaiojajdnafkcaaGreatAlt
import Derived.Test.YtaiojajdnafkcaaGreatRowV
import Derived.Test.YtaiojajdnafkcaaGreatAuL
import Derived.Test.YtaiojajdnafkcaaGreatMaSo
open Nat renaming reduceAdd → xA, reduceMul → xB, reduceSub → xC, reduceEqDiff → xD, reduceBEq → xE, reduceLeDiff → xF, reduceLT → xG
open Int renaming reduceAdd → xH, reduceMul → xI, reduceSub → xJ, reduceLT → xK, reduceLE → xL, reduceToNat → xM, reduceEq → xN, reduceNe → xO, reduceBEq → xP, reduceBNe → xQ
set_option linter.unusedVariables false
set_option linter.unusedSectionVars false
set_option linter.unusedSimpArgs false
set_option maxRecDepth 8000
namespace Go.Proofs.YtaiojajdnafkcaaGreat
open Go Go.Ev Go.Pl Go.Ma
theorem tu_key {n : Nat} {ws : Nat → Int} {j : Nat} (hj : j < n) : (rowW n ws).ws j = ws j := if_pos hj
theorem tu_snd {sh : Sh} {n : Nat} {ws : Nat → Int} (hm : may sh.p sh.c sh.m = true) (hn : (n : Int) = words sh.p sh.c sh.m) (h : Snd sh ws) : Snd sh (rowW n ws).ws := by
  have hb := (may_iff _ _ _).1 hm
  have hw := words_ge hm hn
  refine h.congr hm (fun q q0 q1 => ?_) (fun q i q0 q1 i0 i1 => ?_) (fun c i c0 c1 i0 i1 => ?_)
  · unfold pgAt; rw [page_yes hm q0 q1]; exact tu_key (by omega)
  · unfold slAt; exact tu_key (by omega)
  · have := Int.mul_le_mul_of_nonneg_right (by omega : c + 1 ≤ sh.c) (by omega : 0 ≤ sh.m)
    rw [Int.add_mul] at this
    have := Int.mul_nonneg c0 (by omega : 0 ≤ sh.m)
    unfold mgAt; exact tu_key (by omega)
theorem tu_shp {v : Rv} {w : Wd} {s : Sh} {c : Int} (ho : v.of s c) (hw : w.of s) (hd : v.dn = false) : w.of v.shp := by
  cases v with
  | sk t => rw [show (Rv.sk t).shp = t.s from rfl, ho.1]; exact hw
  | rn t => rw [show (Rv.rn t).shp = t.s from rfl, ho.1]; exact hw
  | no => cases hd
theorem tu_row {h : Hp} {a : Option Addr} {n : Nat} {ws : Nat → Int} (hr : RowU h a n ws) : RowU h a n (rowW n ws).ws := by
  rcases hr with hr | ⟨b, o, rfl, hr⟩
  · exact .inl hr
  · exact .inr ⟨b, o, rfl, fun i hi => by rw [hr i hi, tu_key hi]⟩
section
variable {W : World} {H h : Hp} {l : List Hp} {n cap : Nat} {a : Option Addr} {ws : Nat → Int}
def tuG (x z b k n cap : Nat) (a : Option Addr) (F' : Fr) : Prop := gt F' 1 = .slice a n cap ∧ gt F' 3 = .pointer (some ⟨x, 0, none⟩) ∧ gt F' 5 = .pointer (some ⟨z, 0, none⟩) ∧ gt F' 7 = .pointer (some ⟨b, 0, none⟩) ∧ gt F' 8 = .pointer (some ⟨k, 0, none⟩)
def tuA (sh : Sh) (ws0 : Nat → Int) (c m f : Int) (x z b k k2 s n cap : Nat) (a : Option Addr) (L : List Hp) (F' : Fr) (H' : Hp) : Prop :=
  ∃ (i : Int) (kn : Nat) (t : Rv) (w : Wd), 0 ≤ i ∧ i ≤ sh.m + 80 * sh.p + 80 ∧ gt F' 9 = .int .i64 i ∧ tuG x z b k n cap a F' ∧ w.of sh ∧ t.wf ∧ t.of sh c ∧ t.Al sh ws0 c m f w ∧ Rv.Stx sh ws0 w.ws ∧ t.left ≤ max 0 (sh.m + 80 * sh.p + 80 - i) ∧ Sep (rvB k k2 t :: rvA k2 kn t :: rvN kn t :: wB b s w :: wR s w :: L) H'
def tuB (sh : Sh) (ws0 ws1 : Nat → Int) (c : Int) (B : Bk) (x z b ku s n cap : Nat) (a : Option Addr) (L : List Hp) (F' : Fr) (H' : Hp) : Prop :=
  ∃ (j : Int) (u : Uo) (w : Wd), 0 ≤ j ∧ j ≤ 9 ∧ gt F' 13 = .int .i64 j ∧ gt F' 12 = .pointer (some ⟨ku, 0, none⟩) ∧ (gt F' 1 = .slice a n cap ∧ gt F' 3 = .pointer (some ⟨x, 0, none⟩) ∧ gt F' 5 = .pointer (some ⟨z, 0, none⟩) ∧ gt F' 7 = .pointer (some ⟨b, 0, none⟩)) ∧ w.of sh ∧ u.wf ∧ (u.s = sh ∧ u.b = B) ∧ u.Al sh ws1 c B w ∧ Rv.Stx sh ws0 w.ws ∧ u.lf ≤ max 0 (9 - j) ∧ Sep (uoB ku u :: wB b s w :: wR s w :: L) H'
def tuC (sh : Sh) (ws0 : Nat → Int) (x z b s n cap : Nat) (a : Option Addr) (zB h : Hp) (l : List Hp) (F' : Fr) (H' : Hp) : Prop :=
  ∃ w : Wd, w.of sh ∧ Snd sh w.ws ∧ Rv.Stx sh ws0 w.ws ∧ (∀ liv, Cn.Le (Cn.all liv sh ws0 sh.p.toNat) (Cn.all liv sh w.ws sh.p.toNat)) ∧ blks sh w.ws sh.p.toNat = blks sh ws0 sh.p.toNat ∧
    (gt F' 1 = .slice a n cap ∧ gt F' 3 = .pointer (some ⟨x, 0, none⟩) ∧ gt F' 5 = .pointer (some ⟨z, 0, none⟩) ∧ gt F' 7 = .pointer (some ⟨b, 0, none⟩)) ∧ Sep (wB b s w :: wR s w :: h :: zB :: sg x (.cells #[.int .i64 sh.p, .int .i64 sh.c, .int .i64 sh.m] 23 (0, 0)) :: l) H'
def cnd (d : Bool) (p : Hp) : Hp := if d then p else fun _ => none
def tuD (sh : Sh) (X Y : Cn) (w : Wd) (x z b s n cap : Nat) (a : Option Addr) (zB h : Hp) (l : List Hp) (F' : Fr) (H' : Hp) : Prop :=
  ∃ (y1 y2 : Nat), (gt F' 1 = .slice a n cap ∧ gt F' 3 = .pointer (some ⟨x, 0, none⟩) ∧ gt F' 5 = .pointer (some ⟨z, 0, none⟩) ∧ gt F' 7 = .pointer (some ⟨b, 0, none⟩)) ∧ gt F' 14 = .pointer (some ⟨y1, 0, none⟩) ∧ gt F' 15 = .pointer (some ⟨y2, 0, none⟩) ∧
    Sep (sg y1 (.cells (auC X) 42 (0, 0)) :: sg y2 (.cells (auC Y) 42 (0, 0)) :: wB b s w :: wR s w :: h :: zB :: sg x (.cells #[.int .i64 sh.p, .int .i64 sh.c, .int .i64 sh.m] 23 (0, 0)) :: l) H'
def tuS (sh : Sh) (X Y : Cn) (w : Wd) (x z b s n cap : Nat) (a : Option Addr) (zB h : Hp) (l : List Hp) (d1 d2 d3 d4 d5 : Bool) (F' : Fr) (H' : Hp) : Prop :=
  ∃ (a3 : Option Addr) (cap3 : Nat) (h3 : Hp) (y1 y2 : Nat),
    (gt F' 108 = .agg #[.int .i64 sh.p, .int .i64 sh.c, .int .i64 sh.m] ∧ gt F' 109 = .slice a n cap ∧ gt F' 111 = .agg #[.int .i64 sh.p, .int .i64 sh.c, .int .i64 sh.m] ∧ gt F' 112 = .pointer (some ⟨b, 0, none⟩)) ∧
    (gt F' 1 = .slice a n cap ∧ gt F' 3 = .pointer (some ⟨x, 0, none⟩) ∧ gt F' 5 = .pointer (some ⟨z, 0, none⟩) ∧ gt F' 7 = .pointer (some ⟨b, 0, none⟩)) ∧
    (d1 = true → gt F' 110 = cnV X) ∧ (d2 = true → gt F' 113 = .slice a3 w.n cap3 ∧ RowU h3 a3 w.n w.ws) ∧ (d3 = true → gt F' 114 = cnV Y) ∧ (d4 = true → gt F' 14 = .pointer (some ⟨y1, 0, none⟩)) ∧ (d5 = true → gt F' 15 = .pointer (some ⟨y2, 0, none⟩)) ∧
    Sep (cnd d2 h3 :: cnd d4 (sg y1 (.cells #[.int .i64 0, .int .i64 0, .int .i64 0, .int .i64 0] 42 (0, 0))) :: cnd d5 (sg y2 (.cells #[.int .i64 0, .int .i64 0, .int .i64 0, .int .i64 0] 42 (0, 0))) :: wB b s w :: wR s w :: h :: zB :: sg x (.cells #[.int .i64 sh.p, .int .i64 sh.c, .int .i64 sh.m] 23 (0, 0)) :: l) H'
theorem tu_nd {P : Program} {W : World} {R : List (Nat × Array Value × List Nat)} {S C : Fr → Hp → Prop} {d : Option Nat} {m : MO} {r more : ST} (hop : ∀ F H, S F H → m.wp P W F H fun v H' => hold R H' ∧ dwp P W R r C (putD F d v) H') (hm : ∀ F H, S F H → dwp P W R more C F H) : ∀ F H, S F H → dwp P W R (.alt false ⟨d, m, none⟩ r more) C F H := fun F H h => by
  have e : (fun v H' => (false = true ∨ hold R H') ∧ dwp P W R r C (putD F d v) H') = fun v H' => hold R H' ∧ dwp P W R r C (putD F d v) H' := by funext v H'; simp
  show guarded F none (m.wp P W F H (fun v H' => (false = true ∨ hold R H') ∧ dwp P W R r C (putD F d v) H')) (dwp P W R r C (putD F d undef) H) ∧ dwp P W R more C F H
  rw [e]
  exact ⟨hop F H h, hm F H h⟩
theorem tu_stop {P : Program} {W : World} {R : List (Nat × Array Value × List Nat)} {S C : Fr → Hp → Prop} : ∀ F H, S F H → dwp P W R .stop C F H := fun _ _ _ => trivial
theorem tu_cut {P : Program} {W : World} {t : Bool} {a b : MC} {Q : Exit → Fr → Hp → Prop} {F : Fr} {H : Hp} (C : Fr → Hp → Prop) (ha : t = true → mwp P W a (fun e F H => e = .normal ∧ C F H) F H) (hb : t = false → mwp P W b (fun e F H => e = .normal ∧ C F H) F H) (hk : ∀ F H, C F H → Q .normal F H) : both t (mwp P W a Q F H) (mwp P W b Q F H) :=
  both_intro (fun h => mwp_mono a (ha h) fun e F H ⟨h1, h2⟩ => by subst h1; exact hk F H h2) (fun h => mwp_mono b (hb h) fun e F H ⟨h1, h2⟩ => by subst h1; exact hk F H h2)
set_option maxHeartbeats 4000000 in
theorem c_takeundoes (sh : Sh) (c n1 n2 : Int) (hr : RowU h a n ws) (hU : ∀ i, i < n → U (ws i)) (hS : Sep (h :: l) H) :
    CallP Tryz.prog W 3 #[.agg #[.int .i64 sh.p, .int .i64 sh.c, .int .i64 sh.m], .slice a n cap, .agg #[.int .i64 c, .int .i64 n1, .int .i64 n2]] H fun v H' => v = .bool true ∧ Sep (h :: l) H' := by
  refine CallP.of mixed Tryz.func3 tr3 (by show 3 ≤ _; decide) fun W _ => ?_
  simp only [↓DD, UU, ↓reduceIte, xA, xB, xC, xD, xE, xF, xG, xH, xI, xJ, xK, xL, xM, xN, xO, xP, xQ, ne_eq, eq_self]
  refine newB_intro fun x hx f1 f2 => ?_
  simp only [↓DD, UU, ↓reduceIte, xA, xB, xC, xD, xE, xF, xG, xH, xI, xJ, xK, xL, xM, xN, xO, xP, xQ, ne_eq, eq_self]
  refine newB_intro fun z hz f3 f4 => ?_
  simp only [↓DD, UU, ↓reduceIte, xA, xB, xC, xD, xE, xF, xG, xH, xI, xJ, xK, xL, xM, xN, xO, xP, xQ, ne_eq, eq_self]
  have hS := (hS.new f1 (.cells #[.int .i64 sh.p, .int .i64 sh.c, .int .i64 sh.m] 23 (0, 0))).new f3 (.cells #[.int .i64 c, .int .i64 n1, .int .i64 n2] 25 (0, 0))
  have nzx := hS.neq 0 1 (by decide) rfl rfl
  have nxz := hS.qen 0 1 (by decide) rfl rfl
  refine callT_of (c_awake15 hS) ?_
  rintro v H' ⟨rfl, hS⟩
  have hx1 := hS.lk 1 rfl
  have r0 := fun o => rd_of hx1 o
  have r1 := fun o n => rdn_of hx1 o n
  simp only [hx1, r1, ↓DD, UU, ↓reduceIte, xA, xB, xC, xD, xE, xF, xG, xH, xI, xJ, xK, xL, xM, xN, xO, xP, xQ, ne_eq, eq_self]
  refine callT_of (c_fair (sh := sh) hS) ?_
  rintro v H' ⟨rfl, hS⟩
  have hx1 := hS.lk 1 rfl
  have r0 := fun o => rd_of hx1 o
  have r1 := fun o n => rdn_of hx1 o n
  cases hfair : (may sh.p sh.c sh.m && ((n : Int) == words sh.p sh.c sh.m))
  · simp only [hfair, ↓DD, UU, ↓reduceIte, xA, xB, xC, xD, xE, xF, xG, xH, xI, xJ, xK, xL, xM, xN, xO, xP, xQ, ne_eq, eq_self]
    exact hS.tail.tail
  have hfair' := hfair
  simp only [Bool.and_eq_true, beq_iff_eq] at hfair
  obtain ⟨hm, hn⟩ := hfair
  simp only [hfair', hx1, r0, r1, ↓DD, UU, ↓reduceIte, xA, xB, xC, xD, xE, xF, xG, xH, xI, xJ, xK, xL, xM, xN, xO, xP, xQ, ne_eq, eq_self]
  refine callT_of (c_soundV hm hn hr hU hS.p2) ?_
  rintro v H' ⟨sb, rfl, hsnd, hS⟩
  cases sb
  · simp only [↓DD, UU, ↓reduceIte, xA, xB, xC, xD, xE, xF, xG, xH, xI, xJ, xK, xL, xM, xN, xO, xP, xQ, ne_eq, eq_self]
    exact hS.p1.tail.p1.tail
  have hsnd0 := hsnd.1 rfl
  clear hsnd
  have hx1 := hS.lk 2 rfl
  have hz1 := hS.lk 1 rfl
  have r1 := fun o n => rdn_of hx1 o n
  have r2 := fun o => rd_of hz1 o
  have i0 : (0 : Int) < ((3 : Nat) : Int) := by decide
  have i1 : (1 : Int) < ((3 : Nat) : Int) := by decide
  have i2 : (2 : Int) < ((3 : Nat) : Int) := by decide
  by_cases hst : status sh.p sh.c sh.m c < 0
  · have g3 : decide (status sh.p sh.c sh.m c < 0) = true := decide_eq_true hst
    simp only [hx1, hz1, r1, r2, i0, i2, u_status, g3, ↓DD, UU, ↓reduceIte, xA, xB, xC, xD, xE, xF, xG, xH, xI, xJ, xK, xL, xM, xN, xO, xP, xQ, ne_eq, eq_self]
    exact hS.p1.tail.p1.tail
  have g3 : decide (status sh.p sh.c sh.m c < 0) = false := decide_eq_false hst
  have hcb : 0 ≤ c ∧ c < sh.c := by
    rw [status_lt0] at hst
    simp only [Decidable.not_not] at hst
    exact hst.2
  by_cases hpt : page sh.p sh.c sh.m n2 < 0
  · have g4 : decide (page sh.p sh.c sh.m n2 < 0) = true := decide_eq_true hpt
    simp only [hx1, hz1, r1, r2, i0, i2, u_status, u_page, g3, g4, ↓DD, UU, ↓reduceIte, xA, xB, xC, xD, xE, xF, xG, xH, xI, xJ, xK, xL, xM, xN, xO, xP, xQ, ne_eq, eq_self]
    exact hS.p1.tail.p1.tail
  have g4 : decide (page sh.p sh.c sh.m n2 < 0) = false := decide_eq_false hpt
  have hfb : 0 ≤ n2 ∧ n2 < sh.p := by
    rw [page_lt0] at hpt
    simp only [Decidable.not_not] at hpt
    exact hpt.2
  have hb := (may_iff _ _ _).1 hm
  have hwl := words_le hm
  have hwg := words_ge hm hn
  have hn2 : n ≤ 2000 := by omega
  simp only [hx1, hz1, r1, r2, i0, i2, u_status, u_page, g3, g4, ↓DD, UU, ↓reduceIte, xA, xB, xC, xD, xE, xF, xG, xH, xI, xJ, xK, xL, xM, xN, xO, xP, xQ, ne_eq, eq_self]
  refine callT_of (c_fill hn2 hr hS) ?_
  rintro v H' ⟨b, s, rfl, hS⟩
  have hx1 := hS.lk 4 rfl
  have hz1 := hS.lk 3 rfl
  have r1 := fun o n => rdn_of hx1 o n
  have r2 := fun o => rd_of hz1 o
  simp only [hx1, hz1, r1, r2, i0, i1, i2, ↓DD, UU, ↓reduceIte, xA, xB, xC, xD, xE, xF, xG, xH, xI, xJ, xK, xL, xM, xN, xO, xP, xQ, ne_eq, eq_self]
  refine callT_of (c_rvnew (sh := sh) (c := c) (n := n1) (f := n2) hS) ?_
  rintro v H' ⟨k, k2, kn, rfl, hS⟩
  simp only [↓DD, UU, ↓reduceIte, xA, xB, xC, xD, xE, xF, xG, xH, xI, xJ, xK, xL, xM, xN, xO, xP, xQ, ne_eq, eq_self]
  have hof0 : (rowW n ws).of sh := rowW_of hn fun i hi => hU i hi
  have hsn0 : Snd sh (rowW n ws).ws := tu_snd hm hn hsnd0
  have hal0 := Rv.Al.init (s := sh) (c := c) (n := n1) (f := n2) hm hof0 hcb.1 hcb.2 hfb.1 hfb.2 hsn0
  have hl0 := Rv.new_left sh c n1 n2 hm
  refine loop_intro (tuA sh (rowW n ws).ws c n1 n2 x z b k k2 s n cap a (h :: sg z (.cells #[.int .i64 c, .int .i64 n1, .int .i64 n2] 25 (0, 0)) :: sg x (.cells #[.int .i64 sh.p, .int .i64 sh.c, .int .i64 sh.m] 23 (0, 0)) :: l)) (fun F' _ => (sh.m + 80 * sh.p + 80 - iv (gt F' 9)).toNat)
    ⟨0, kn, _, _, Int.le_refl _, by omega, by simp [gt], ⟨by simp [gt], by simp [gt], by simp [gt], by simp [gt], by simp [gt]⟩, hof0, Rv.new_wf .., Rv.new_of .., hal0, fun _ _ => rfl, by omega, hS⟩ ?_
  clear hS hx1 hz1 r1 r2 r0 hal0 hl0
  rintro F' H' ⟨i, kn, t, w, j0, j1, e9, ⟨e1, e3, e5, e7, e8⟩, aw, twf, tof, hal, hstx, hl, hS⟩
  have hx1 := hS.lk 7 rfl
  have rx := fun o => rd_of hx1 o
  have r1 := fun o n => rdn_of hx1 o n
  have m1 : w64 (80 * sh.p) = 80 * sh.p := w64_eq (by omega) (by omega)
  have m2 : w64 (sh.m + 80 * sh.p) = sh.m + 80 * sh.p := w64_eq (by omega) (by omega)
  have m3 : w64 (sh.m + 80 * sh.p + 80) = sh.m + 80 * sh.p + 80 := w64_eq (by omega) (by omega)
  have wi : w64 (i + 1) = i + 1 := w64_eq (by omega) (by omega)
  by_cases hlt : i < sh.m + 80 * sh.p + 80
  · have d1 : decide (i < sh.m + 80 * sh.p + 80) = true := decide_eq_true hlt
    simp only [e9, e1, e3, e5, e7, e8, hx1, rx, wrap_w64, m1, m2, m3, d1, ↓DD, UU, ↓reduceIte, xA, xB, xC, xD, xE, xF, xG, xH, xI, xJ, xK, xL, xM, xN, xO, xP, xQ, ne_eq, eq_self]
    refine callT_of (c_rvstep twf (fun hd => tu_shp tof aw hd) hS) ?_
    rintro v H' ⟨rfl, kn2, hS⟩
    have hl2 := Rv.left_step (m := sh.m + 80 * sh.p + 80 - i) (w := w) twf hl
    have hstx := Rv.stx_step twf tof hstx
    have hal := hal.step
    have aw2 := Rv.step_of twf aw
    have twf2 := Rv.step_wf (w := w) twf
    have tof := Rv.step_ofs (w := w) twf tof
    obtain ⟨t2, ht2⟩ : ∃ t2, (t.step w).1 = t2 := ⟨_, rfl⟩
    obtain ⟨w2, hw2⟩ : ∃ w2, (t.step w).2 = w2 := ⟨_, rfl⟩
    rw [ht2, hw2] at hS hal
    rw [hw2] at aw2 hstx
    rw [ht2] at twf2 tof hl2
    have t9 : i.tmod 9 = i % 9 := Int.tmod_eq_emod_of_nonneg j0
    have w9 : w64 (i % 9) = i % 9 := w64_eq (by omega) (by omega)
    have hx1 := hS.lk 7 rfl
    have r1 := fun o n => rdn_of hx1 o n
    simp only [e9, e1, e3, e5, e7, e8, ↓DD, UU, ↓reduceIte, xA, xB, xC, xD, xE, xF, xG, xH, xI, xJ, xK, xL, xM, xN, xO, xP, xQ, ne_eq, eq_self]
    refine draw_intro [(x, #[.int .i64 sh.p, .int .i64 sh.c, .int .i64 sh.m], [])] (by simp only [hx1, ↓DD, UU, ↓reduceIte, xA, xB, xC, xD, xE, xF, xG, xH, xI, xJ, xK, xL, xM, xN, xO, xP, xQ, ne_eq, eq_self]) ?_
    by_cases h9 : i % 9 = 0
    · have d9 : (i % 9 == 0) = true := by simp [h9]
      simp only [e9, e1, e3, e5, e7, e8, hx1, r1, wrap_w64, t9, w9, d9, ↓DD, UU, ↓reduceIte, xA, xB, xC, xD, xE, xF, xG, xH, xI, xJ, xK, xL, xM, xN, xO, xP, xQ, ne_eq, eq_self]
      have hwn : w2.n ≤ 2000 := by have := aw2.n; omega
      refine callT_of (c_all (w := w2) hwn hS.p4.p4) ?_
      rintro v H' ⟨a3, cap3, h3, rfl, hr3, hS⟩
      have hx1 := hS.lk 8 rfl
      have r1 := fun o n => rdn_of hx1 o n
      simp only [e9, e1, e3, e5, e7, e8, hx1, r1, ↓DD, UU, ↓reduceIte, xA, xB, xC, xD, xE, xF, xG, xH, xI, xJ, xK, xL, xM, xN, xO, xP, xQ, ne_eq, eq_self]
      have hnW : ((w2.n : Nat) : Int) = words sh.p sh.c sh.m := by rw [aw2.n]
      refine callT_of (c_soundV hm hnW hr3 (fun i _ => aw2.u i) hS) ?_
      rintro v H' ⟨sb, rfl, hsb, hS⟩
      have hsb := hsb.2 hal.sound
      subst hsb
      have hx1 := hS.lk 8 rfl
      simp only [e9, e1, e3, e5, e7, e8, hx1, wrap_w64, wi, ↓DD, UU, ↓reduceIte, xA, xB, xC, xD, xE, xF, xG, xH, xI, xJ, xK, xL, xM, xN, xO, xP, xQ, ne_eq, eq_self]
      exact ⟨⟨i + 1, kn2, t2, w2, by omega, by omega, by simp [gt], ⟨by simp [gt, e1], by simp [gt, e3], by simp [gt, e5], by simp [gt, e7], by simp [gt, e8]⟩, aw2, twf2, tof, hal, hstx, by omega, hS.tail.p4.p4.p4⟩, by simp [gt, iv, e9]; omega⟩
    · have d9 : (i % 9 == 0) = false := by simp [h9]
      simp only [e9, e1, e3, e5, e7, e8, hx1, r1, wrap_w64, t9, w9, d9, wi, ↓DD, UU, ↓reduceIte, xA, xB, xC, xD, xE, xF, xG, xH, xI, xJ, xK, xL, xM, xN, xO, xP, xQ, ne_eq, eq_self]
      exact ⟨⟨i + 1, kn2, t2, w2, by omega, by omega, by simp [gt], ⟨by simp [gt, e1], by simp [gt, e3], by simp [gt, e5], by simp [gt, e7], by simp [gt, e8]⟩, aw2, twf2, tof, hal, hstx, by omega, hS⟩, by simp [gt, iv, e9]; omega⟩
  have d1 : decide (i < sh.m + 80 * sh.p + 80) = false := decide_eq_false hlt
  have hdn : t.dn = true := Rv.left_dn twf (by omega)
  simp only [e9, e1, e3, e5, e7, e8, hx1, rx, wrap_w64, m1, m2, m3, d1, ↓DD, UU, ↓reduceIte, xA, xB, xC, xD, xE, xF, xG, xH, xI, xJ, xK, xL, xM, xN, xO, xP, xQ, ne_eq, eq_self]
  refine callT_of (c_rvfound hS) ?_
  rintro v H' ⟨rfl, hS⟩
  have hx1 := hS.lk 7 rfl
  simp only [e9, e1, e3, e5, e7, e8, bkV, ↓DD, UU, ↓reduceIte, xA, xB, xC, xD, xE, xF, xG, xH, xI, xJ, xK, xL, xM, xN, xO, xP, xQ, ne_eq, eq_self]
  refine newB_intro fun q hq f7 f8 => ?_
  have hS := (hS.new f7 (.cells #[.bool t.bk.lg, .int .i64 t.bk.p, .int .i64 t.bk.i, .int .i64 t.bk.k, .int .i64 t.bk.n] 36 (0, 0)))
  simp only [Ev.upd_upd, e9, e1, e3, e5, e7, e8, ↓DD, UU, ↓reduceIte, xA, xB, xC, xD, xE, xF, xG, xH, xI, xJ, xK, xL, xM, xN, xO, xP, xQ, ne_eq, eq_self]
  refine callT_of (c_rvdone hS.r3) ?_
  rintro v H' ⟨rfl, hS⟩
  have hS := hS.tail.tail.tail
  simp only [hdn, e9, e1, e3, e5, e7, e8, ↓DD, UU, ↓reduceIte, xA, xB, xC, xD, xE, xF, xG, xH, xI, xJ, xK, xL, xM, xN, xO, xP, xQ, ne_eq, eq_self]
  refine tu_cut (C := tuC sh (rowW n ws).ws x z b s n cap a (sg z (.cells #[.int .i64 c, .int .i64 n1, .int .i64 n2] 25 (0, 0))) h l) (fun hf => ?_) (fun hf => ?_) ?_
  · obtain ⟨hgot, hlen⟩ := hal.got hdn hf
    have hx1 := hS.lk 5 rfl
    have hz1 := hS.lk 4 rfl
    have hq1 := hS.look
    have r1 := fun o n => rdn_of hx1 o n
    have r2 := fun o => rd_of hz1 o
    have rq := fun o n => rdn_of hq1 o n
    simp only [e9, e1, e3, e5, e7, e8, hx1, hz1, hq1, r1, r2, rq, i0, ↓DD, UU, ↓reduceIte, xA, xB, xC, xD, xE, xF, xG, xH, xI, xJ, xK, xL, xM, xN, xO, xP, xQ, ne_eq, eq_self]
    refine callT_of (c_uonew (sh := sh) (c := c) (B := t.bk) hS) ?_
    rintro v H' ⟨ku, rfl, hS⟩
    simp only [e9, e1, e3, e5, e7, e8, ↓DD, UU, ↓reduceIte, xA, xB, xC, xD, xE, xF, xG, xH, xI, xJ, xK, xL, xM, xN, xO, xP, xQ, ne_eq, eq_self]
    have hul : (Uo.new sh c t.bk).lf ≤ 9 := by
      cases hd : (Uo.new sh c t.bk).dn
      · have := Uo.lf_pos (Uo.new_wf sh c t.bk) hd; omega
      · unfold Uo.lf; rw [if_pos hd]; decide
    refine loop_intro (tuB sh (rowW n ws).ws w.ws c t.bk x z b ku s n cap a (sg q (.cells #[.bool t.bk.lg, .int .i64 t.bk.p, .int .i64 t.bk.i, .int .i64 t.bk.k, .int .i64 t.bk.n] 36 (0, 0)) :: h :: sg z (.cells #[.int .i64 c, .int .i64 n1, .int .i64 n2] 25 (0, 0)) :: sg x (.cells #[.int .i64 sh.p, .int .i64 sh.c, .int .i64 sh.m] 23 (0, 0)) :: l)) (fun F' _ => (9 - iv (gt F' 13)).toNat)
      ⟨0, _, w, Int.le_refl _, by omega, by simp [gt], by simp [gt], ⟨by simp [gt, e1], by simp [gt, e3], by simp [gt, e5], by simp [gt, e7]⟩, aw, Uo.new_wf sh c t.bk, ⟨rfl, rfl⟩, Uo.Al.init hgot.res, hstx, by omega, hS.p2.p3.p1.p2⟩ ?_
    clear hS hx1 hz1 hq1 r1 r2 rq rx hul e9 e1 e3 e5 e7 e8 d1 hlt wi m1 m2 m3
    rintro F' H' ⟨j, u, w2, j0, j1, e13, e12, ⟨e1, e3, e5, e7⟩, aw2, uwf, us, hua, hstx2, hul, hS⟩
    have wi : w64 (j + 1) = j + 1 := w64_eq (by omega) (by omega)
    by_cases hlt : j < 9
    · have d1 : decide (j < 9) = true := decide_eq_true hlt
      simp only [e13, e12, e1, e3, e5, e7, d1, ↓DD, UU, ↓reduceIte, xA, xB, xC, xD, xE, xF, xG, xH, xI, xJ, xK, xL, xM, xN, xO, xP, xQ, ne_eq, eq_self]
      refine callT_of (c_uostep uwf (fun _ => by rw [us.1]; exact aw2) hS) ?_
      rintro v H' ⟨rfl, hS⟩
      have hk2 := Uo.step_sb (t := u) (w := w2)
      simp only [e13, e12, e1, e3, e5, e7, wrap_w64, wi, ↓DD, UU, ↓reduceIte, xA, xB, xC, xD, xE, xF, xG, xH, xI, xJ, xK, xL, xM, xN, xO, xP, xQ, ne_eq, eq_self]
      exact ⟨⟨j + 1, _, _, by omega, by omega, by simp [gt], by simp [gt, e12], ⟨by simp [gt, e1], by simp [gt, e3], by simp [gt, e5], by simp [gt, e7]⟩, Uo.step_of aw2, Uo.step_wf uwf, ⟨hk2.1.trans us.1, hk2.2.2.trans us.2⟩, hua.step hgot.res us, Uo.stx uwf us.1 hstx2, by have := Uo.lf_step (w := w2) uwf hul; omega, hS⟩, by simp [gt, iv, e13]; omega⟩
    have d1 : decide (j < 9) = false := decide_eq_false hlt
    have hud : u.dn = true := by
      cases hd : u.dn
      · have := Uo.lf_pos uwf hd; omega
      · rfl
    simp only [e13, e12, e1, e3, e5, e7, d1, ↓DD, UU, ↓reduceIte, xA, xB, xC, xD, xE, xF, xG, xH, xI, xJ, xK, xL, xM, xN, xO, xP, xQ, ne_eq, eq_self]
    refine callT_of (c_uodone hS) ?_
    rintro v H' ⟨rfl, hS⟩
    have hund : Und sh w.ws w2.ws t.bk := by
      cases hua with
      | l hd => rw [hud] at hd; cases hd
      | s hd => rw [hud] at hd; cases hd
      | e _ h => exact h
    simp only [e13, e12, e1, e3, e5, e7, hud, ↓DD, UU, ↓reduceIte, xA, xB, xC, xD, xE, xF, xG, xH, xI, xJ, xK, xL, xM, xN, xO, xP, xQ, ne_eq, eq_self]
    exact ⟨w2, aw2, hund.snd hm hgot.snd hgot.res, hstx2, fun liv => hgot.le hm hsn0 hund (by omega), (hund.blks hm hgot.res (by omega)).trans (hgot.blks hm (by omega)), ⟨by simp [gt, e1], by simp [gt, e3], by simp [gt, e5], by simp [gt, e7]⟩, hS.tail.p2.tail⟩
  · have hlost := hal.lost hdn hf
    simp only [e9, e1, e3, e5, e7, e8, ↓DD, UU, ↓reduceIte, xA, xB, xC, xD, xE, xF, xG, xH, xI, xJ, xK, xL, xM, xN, xO, xP, xQ, ne_eq, eq_self]
    exact ⟨w, aw, hlost.snd, hstx, fun liv => hlost.le hsn0 (by omega), hlost.blks (by omega), ⟨by simp [gt, e1], by simp [gt, e3], by simp [gt, e5], by simp [gt, e7]⟩, hS.tail⟩
  · clear hS hx1 rx r1 e9 e1 e3 e5 e7 e8 d1 hlt wi m1 m2 m3 hstx hal hl aw
    rintro F' H' ⟨w, aw, hsn, hstx, hle, hbl, ⟨e1, e3, e5, e7⟩, hS⟩
    obtain ⟨ws0, hws0⟩ : ∃ ws0, (rowW n ws).ws = ws0 := ⟨_, rfl⟩
    rw [hws0] at hsn0 hstx hbl hle
    have hr0 : RowU h a n ws0 := by rw [← hws0]; exact tu_row hr
    have hU0 : ∀ i, i < n → U (ws0 i) := fun i _ => by rw [← hws0]; exact hof0.u i
    have hnW : ((w.n : Nat) : Int) = words sh.p sh.c sh.m := by rw [aw.n]
    have hwn : w.n ≤ 2000 := by omega
    obtain ⟨X, hX⟩ : ∃ X, Cn.all (livF sh ws0) sh ws0 sh.p.toNat = X := ⟨_, rfl⟩
    obtain ⟨Y, hY⟩ : ∃ Y, Cn.all (livF sh w.ws) sh w.ws sh.p.toNat = Y := ⟨_, rfl⟩
    have hLe : Cn.Le X Y := by
      have := hle (livF sh ws0)
      rw [hX, ← livF_congr hstx, hY] at this
      exact this
    have hbX : Cn.Bd (512 * sh.p.toNat) X := by rw [← hX]; exact Cn.all_bd _
    have hbY : Cn.Bd (512 * sh.p.toNat) Y := by rw [← hY]; exact Cn.all_bd _
    obtain ⟨zB, hzB⟩ : ∃ zB, sg z (.cells #[.int .i64 c, .int .i64 n1, .int .i64 n2] 25 (0, 0)) = zB := ⟨_, rfl⟩
    rw [hzB] at hS
    have hx1 := hS.lk 4 rfl
    have r1 := fun o n => rdn_of hx1 o n
    simp only [↓DD, UU, ↓reduceIte, xA, xB, xC, xD, xE, xF, xG, xH, xI, xJ, xK, xL, xM, xN, xO, xP, xQ, ne_eq, eq_self]
    have n110 : ∀ (d2 d3 d4 d5 : Bool) (r more : ST), (∀ F H, tuS sh X Y w x z b s n cap a zB h l true d2 d3 d4 d5 F H → dwp Tryz.prog W [(x, #[.int .i64 sh.p, .int .i64 sh.c, .int .i64 sh.m], [])] r (tuD sh X Y w x z b s n cap a zB h l) F H) → (∀ F H, tuS sh X Y w x z b s n cap a zB h l false d2 d3 d4 d5 F H → dwp Tryz.prog W [(x, #[.int .i64 sh.p, .int .i64 sh.c, .int .i64 sh.m], [])] more (tuD sh X Y w x z b s n cap a zB h l) F H) → ∀ F H, tuS sh X Y w x z b s n cap a zB h l false d2 d3 d4 d5 F H → dwp Tryz.prog W [(x, #[.int .i64 sh.p, .int .i64 sh.c, .int .i64 sh.m], [])] (.alt false ⟨some 110, .call 18 [.tmp 108, .tmp 109], none⟩ r more) (tuD sh X Y w x z b s n cap a zB h l) F H := by
      intro d2 d3 d4 d5 r more h1 h2
      refine tu_nd (fun F H hs => ?_) h2
      obtain ⟨a3, cap3, h3, y1, y2, ⟨g1, g2, g3, g4⟩, ⟨q1, q3, q5, q7⟩, k1, k2, k3, k4, k5, hS⟩ := hs
      simp only [g1, g2, ↓DD, UU, ↓reduceIte, xA, xB, xC, xD, xE, xF, xG, xH, xI, xJ, xK, xL, xM, xN, xO, xP, xQ, ne_eq, eq_self]
      refine callT_of (c_audit (sh := sh) (c_livesV hm hn hr0 hU0) hm hn hr0 hU0 hS.p5) ?_
      rintro v H' ⟨rfl, hS⟩
      have hS := hS.r5
      have hx1 := hS.lk 7 rfl
      rw [hX]
      exact ⟨by simp only [hx1, ↓DD, UU, ↓reduceIte, xA, xB, xC, xD, xE, xF, xG, xH, xI, xJ, xK, xL, xM, xN, xO, xP, xQ, ne_eq, eq_self], h1 _ _ ⟨a3, cap3, h3, y1, y2, ⟨by simp [putD, gt, g1], by simp [putD, gt, g2], by simp [putD, gt, g3], by simp [putD, gt, g4]⟩, ⟨by simp [putD, gt, q1], by simp [putD, gt, q3], by simp [putD, gt, q5], by simp [putD, gt, q7]⟩, fun _ => by simp [putD, gt], fun e => ⟨by simp [putD, gt, (k2 e).1], (k2 e).2⟩, fun e => by simp [putD, gt, k3 e], fun e => by simp [putD, gt, k4 e], fun e => by simp [putD, gt, k5 e], hS⟩⟩
    have n113 : ∀ (d1 d3 d4 d5 : Bool) (r more : ST), (∀ F H, tuS sh X Y w x z b s n cap a zB h l d1 true d3 d4 d5 F H → dwp Tryz.prog W [(x, #[.int .i64 sh.p, .int .i64 sh.c, .int .i64 sh.m], [])] r (tuD sh X Y w x z b s n cap a zB h l) F H) → (∀ F H, tuS sh X Y w x z b s n cap a zB h l d1 false d3 d4 d5 F H → dwp Tryz.prog W [(x, #[.int .i64 sh.p, .int .i64 sh.c, .int .i64 sh.m], [])] more (tuD sh X Y w x z b s n cap a zB h l) F H) → ∀ F H, tuS sh X Y w x z b s n cap a zB h l d1 false d3 d4 d5 F H → dwp Tryz.prog W [(x, #[.int .i64 sh.p, .int .i64 sh.c, .int .i64 sh.m], [])] (.alt false ⟨some 113, .call 12 [.tmp 112], none⟩ r more) (tuD sh X Y w x z b s n cap a zB h l) F H := by
      intro d1 d3 d4 d5 r more h1 h2
      refine tu_nd (fun F H hs => ?_) h2
      obtain ⟨a3, cap3, h3, y1, y2, ⟨g1, g2, g3, g4⟩, ⟨q1, q3, q5, q7⟩, k1, k2, k3, k4, k5, hS⟩ := hs
      simp only [g4, ↓DD, UU, ↓reduceIte, xA, xB, xC, xD, xE, xF, xG, xH, xI, xJ, xK, xL, xM, xN, xO, xP, xQ, ne_eq, eq_self]
      refine callT_of (c_all (w := w) hwn hS.p4.p4) ?_
      rintro v H' ⟨a4, cap4, h4, rfl, hr4, hS⟩
      have hS := hS.p3.tail.p4.p4.p2
      have hx1 := hS.lk 7 rfl
      exact ⟨by simp only [hx1, ↓DD, UU, ↓reduceIte, xA, xB, xC, xD, xE, xF, xG, xH, xI, xJ, xK, xL, xM, xN, xO, xP, xQ, ne_eq, eq_self], h1 _ _ ⟨a4, cap4, h4, y1, y2, ⟨by simp [putD, gt, g1], by simp [putD, gt, g2], by simp [putD, gt, g3], by simp [putD, gt, g4]⟩, ⟨by simp [putD, gt, q1], by simp [putD, gt, q3], by simp [putD, gt, q5], by simp [putD, gt, q7]⟩, fun e => by simp [putD, gt, k1 e], fun _ => ⟨by simp [putD, gt], hr4⟩, fun e => by simp [putD, gt, k3 e], fun e => by simp [putD, gt, k4 e], fun e => by simp [putD, gt, k5 e], hS⟩⟩
    have n114 : ∀ (d1 d4 d5 : Bool) (r more : ST), (∀ F H, tuS sh X Y w x z b s n cap a zB h l d1 true true d4 d5 F H → dwp Tryz.prog W [(x, #[.int .i64 sh.p, .int .i64 sh.c, .int .i64 sh.m], [])] r (tuD sh X Y w x z b s n cap a zB h l) F H) → (∀ F H, tuS sh X Y w x z b s n cap a zB h l d1 true false d4 d5 F H → dwp Tryz.prog W [(x, #[.int .i64 sh.p, .int .i64 sh.c, .int .i64 sh.m], [])] more (tuD sh X Y w x z b s n cap a zB h l) F H) → ∀ F H, tuS sh X Y w x z b s n cap a zB h l d1 true false d4 d5 F H → dwp Tryz.prog W [(x, #[.int .i64 sh.p, .int .i64 sh.c, .int .i64 sh.m], [])] (.alt false ⟨some 114, .call 18 [.tmp 111, .tmp 113], none⟩ r more) (tuD sh X Y w x z b s n cap a zB h l) F H := by
      intro d1 d4 d5 r more h1 h2
      refine tu_nd (fun F H hs => ?_) h2
      obtain ⟨a3, cap3, h3, y1, y2, ⟨g1, g2, g3, g4⟩, ⟨q1, q3, q5, q7⟩, k1, k2, k3, k4, k5, hS⟩ := hs
      obtain ⟨k2a, k2b⟩ := k2 rfl
      simp only [g3, k2a, ↓DD, UU, ↓reduceIte, xA, xB, xC, xD, xE, xF, xG, xH, xI, xJ, xK, xL, xM, xN, xO, xP, xQ, ne_eq, eq_self]
      refine callT_of (c_audit (sh := sh) (c_livesV hm hnW k2b fun i _ => aw.u i) hm hnW k2b (fun i _ => aw.u i) hS) ?_
      rintro v H' ⟨rfl, hS⟩
      have hx1 := hS.lk 7 rfl
      rw [hY]
      exact ⟨by simp only [hx1, ↓DD, UU, ↓reduceIte, xA, xB, xC, xD, xE, xF, xG, xH, xI, xJ, xK, xL, xM, xN, xO, xP, xQ, ne_eq, eq_self], h1 _ _ ⟨a3, cap3, h3, y1, y2, ⟨by simp [putD, gt, g1], by simp [putD, gt, g2], by simp [putD, gt, g3], by simp [putD, gt, g4]⟩, ⟨by simp [putD, gt, q1], by simp [putD, gt, q3], by simp [putD, gt, q5], by simp [putD, gt, q7]⟩, fun e => by simp [putD, gt, k1 e], fun _ => ⟨by simp [putD, gt, k2a], k2b⟩, fun _ => by simp [putD, gt], fun e => by simp [putD, gt, k4 e], fun e => by simp [putD, gt, k5 e], hS⟩⟩
    have n14 : ∀ (d1 d2 d3 d5 : Bool) (r more : ST), (∀ F H, tuS sh X Y w x z b s n cap a zB h l d1 d2 d3 true d5 F H → dwp Tryz.prog W [(x, #[.int .i64 sh.p, .int .i64 sh.c, .int .i64 sh.m], [])] r (tuD sh X Y w x z b s n cap a zB h l) F H) → (∀ F H, tuS sh X Y w x z b s n cap a zB h l d1 d2 d3 false d5 F H → dwp Tryz.prog W [(x, #[.int .i64 sh.p, .int .i64 sh.c, .int .i64 sh.m], [])] more (tuD sh X Y w x z b s n cap a zB h l) F H) → ∀ F H, tuS sh X Y w x z b s n cap a zB h l d1 d2 d3 false d5 F H → dwp Tryz.prog W [(x, #[.int .i64 sh.p, .int .i64 sh.c, .int .i64 sh.m], [])] (.alt false ⟨some 14, .alc 42 (.agg #[.int .i64 0, .int .i64 0, .int .i64 0, .int .i64 0]), none⟩ r more) (tuD sh X Y w x z b s n cap a zB h l) F H := by
      intro d1 d2 d3 d5 r more h1 h2
      refine tu_nd (fun F H hs => ?_) h2
      obtain ⟨a3, cap3, h3, y1, y2, ⟨g1, g2, g3, g4⟩, ⟨q1, q3, q5, q7⟩, k1, k2, k3, k4, k5, hS⟩ := hs
      simp only [↓DD, UU, ↓reduceIte, xA, xB, xC, xD, xE, xF, xG, xH, xI, xJ, xK, xL, xM, xN, xO, xP, xQ, ne_eq, eq_self]
      refine newB_intro fun y hy f5 f6 => ?_
      have hS := (hS.new f5 (.cells #[.int .i64 0, .int .i64 0, .int .i64 0, .int .i64 0] 42 (0, 0))).p2.tail.p1
      have hx1 := hS.lk 7 rfl
      exact ⟨by simp only [hx1, ↓DD, UU, ↓reduceIte, xA, xB, xC, xD, xE, xF, xG, xH, xI, xJ, xK, xL, xM, xN, xO, xP, xQ, ne_eq, eq_self], h1 _ _ ⟨a3, cap3, h3, y, y2, ⟨by simp [putD, gt, g1], by simp [putD, gt, g2], by simp [putD, gt, g3], by simp [putD, gt, g4]⟩, ⟨by simp [putD, gt, q1], by simp [putD, gt, q3], by simp [putD, gt, q5], by simp [putD, gt, q7]⟩, fun e => by simp [putD, gt, k1 e], fun e => ⟨by simp [putD, gt, (k2 e).1], (k2 e).2⟩, fun e => by simp [putD, gt, k3 e], fun _ => by simp [putD, gt], fun e => by simp [putD, gt, k5 e], hS⟩⟩
    have n15 : ∀ (d1 d2 d3 d4 : Bool) (r more : ST), (∀ F H, tuS sh X Y w x z b s n cap a zB h l d1 d2 d3 d4 true F H → dwp Tryz.prog W [(x, #[.int .i64 sh.p, .int .i64 sh.c, .int .i64 sh.m], [])] r (tuD sh X Y w x z b s n cap a zB h l) F H) → (∀ F H, tuS sh X Y w x z b s n cap a zB h l d1 d2 d3 d4 false F H → dwp Tryz.prog W [(x, #[.int .i64 sh.p, .int .i64 sh.c, .int .i64 sh.m], [])] more (tuD sh X Y w x z b s n cap a zB h l) F H) → ∀ F H, tuS sh X Y w x z b s n cap a zB h l d1 d2 d3 d4 false F H → dwp Tryz.prog W [(x, #[.int .i64 sh.p, .int .i64 sh.c, .int .i64 sh.m], [])] (.alt false ⟨some 15, .alc 42 (.agg #[.int .i64 0, .int .i64 0, .int .i64 0, .int .i64 0]), none⟩ r more) (tuD sh X Y w x z b s n cap a zB h l) F H := by
      intro d1 d2 d3 d4 r more h1 h2
      refine tu_nd (fun F H hs => ?_) h2
      obtain ⟨a3, cap3, h3, y1, y2, ⟨g1, g2, g3, g4⟩, ⟨q1, q3, q5, q7⟩, k1, k2, k3, k4, k5, hS⟩ := hs
      simp only [↓DD, UU, ↓reduceIte, xA, xB, xC, xD, xE, xF, xG, xH, xI, xJ, xK, xL, xM, xN, xO, xP, xQ, ne_eq, eq_self]
      refine newB_intro fun y hy f5 f6 => ?_
      have hS := (hS.new f5 (.cells #[.int .i64 0, .int .i64 0, .int .i64 0, .int .i64 0] 42 (0, 0))).p3.tail.r2
      have hx1 := hS.lk 7 rfl
      exact ⟨by simp only [hx1, ↓DD, UU, ↓reduceIte, xA, xB, xC, xD, xE, xF, xG, xH, xI, xJ, xK, xL, xM, xN, xO, xP, xQ, ne_eq, eq_self], h1 _ _ ⟨a3, cap3, h3, y1, y, ⟨by simp [putD, gt, g1], by simp [putD, gt, g2], by simp [putD, gt, g3], by simp [putD, gt, g4]⟩, ⟨by simp [putD, gt, q1], by simp [putD, gt, q3], by simp [putD, gt, q5], by simp [putD, gt, q7]⟩, fun e => by simp [putD, gt, k1 e], fun e => ⟨by simp [putD, gt, (k2 e).1], (k2 e).2⟩, fun e => by simp [putD, gt, k3 e], fun e => by simp [putD, gt, k4 e], fun _ => by simp [putD, gt], hS⟩⟩
    have leaf : ∀ F H, tuS sh X Y w x z b s n cap a zB h l true true true true true F H → dwp Tryz.prog W [(x, #[.int .i64 sh.p, .int .i64 sh.c, .int .i64 sh.m], [])] (.alt false ⟨none, .stn 4 (.tmp 14) (.tmp 110), none⟩ (.alt true ⟨none, .stn 4 (.tmp 15) (.tmp 114), none⟩ .done .stop) .stop) (tuD sh X Y w x z b s n cap a zB h l) F H := by
      intro F H hs
      obtain ⟨a3, cap3, h3, y1, y2, ⟨g1, g2, g3, g4⟩, ⟨q1, q3, q5, q7⟩, k1, k2, k3, k4, k5, hS⟩ := hs
      have hS : Sep (h3 :: sg y1 _ :: sg y2 _ :: wB b s w :: wR s w :: h :: zB :: sg x _ :: l) H := hS
      have k1 := k1 rfl
      have k3 := k3 rfl
      have k4 := k4 rfl
      have k5 := k5 rfl
      have hy1 := hS.lk 1 rfl
      have hy2 := hS.lk 2 rfl
      have hx1 := hS.lk 7 rfl
      have n1 := hS.neq 1 2 (by decide) rfl rfl
      have n2 := hS.qen 1 2 (by decide) rfl rfl
      have n3 := hS.neq 1 7 (by decide) rfl rfl
      have n4 := hS.qen 1 7 (by decide) rfl rfl
      have hS := (hS.p1.set (.cells (auC X) 42 (0, 0))).p2.set (.cells (auC Y) 42 (0, 0))
      have hS := hS.p2.tail.p1
      simp only [auC] at hS
      simp only [cnV, k1, k3, k4, k5, hy1, hy2, hx1, n1, n2, n3, n4, ↓DD, UU, ↓reduceIte, xA, xB, xC, xD, xE, xF, xG, xH, xI, xJ, xK, xL, xM, xN, xO, xP, xQ, ne_eq, eq_self]
      exact ⟨y1, y2, ⟨q1, q3, q5, q7⟩, k4, k5, hS⟩
    refine draw_cut [(x, #[.int .i64 sh.p, .int .i64 sh.c, .int .i64 sh.m], [])] (tuD sh X Y w x z b s n cap a zB h l) (by simp only [hx1, ↓DD, UU, ↓reduceIte, xA, xB, xC, xD, xE, xF, xG, xH, xI, xJ, xK, xL, xM, xN, xO, xP, xQ, ne_eq, eq_self]) ?_ ?_
    · simp only [e1, e3, e5, e7, hx1, r1, ↓DD, UU, ↓reduceIte, xA, xB, xC, xD, xE, xF, xG, xH, xI, xJ, xK, xL, xM, xN, xO, xP, xQ, ne_eq, eq_self]
      refine (?_ : ∀ F' H', tuS sh X Y w x z b s n cap a zB h l false false false false false F' H' → dwp Tryz.prog W [(x, #[.int .i64 sh.p, .int .i64 sh.c, .int .i64 sh.m], [])] _ (tuD sh X Y w x z b s n cap a zB h l) F' H') _ _ ⟨none, 0, fun _ => none, 0, 0, ⟨by simp [gt], by simp [gt], by simp [gt], by simp [gt]⟩, ⟨by simp [gt, e1], by simp [gt, e3], by simp [gt, e5], by simp [gt, e7]⟩, fun e => (by cases e), fun e => (by cases e), fun e => (by cases e), fun e => (by cases e), fun e => (by cases e), hS.nothing.nothing.nothing⟩
      repeat' (first | exact leaf | exact tu_stop | apply n110 | apply n113 | apply n114 | apply n14 | apply n15)
    · rintro F' H' ⟨y1, y2, ⟨e1, e3, e5, e7⟩, k4, k5, hS⟩
      have hx1 := hS.lk 6 rfl
      have hy1 := hS.lk 0 rfl
      have hy2 := hS.lk 1 rfl
      have r1 := fun o n => rdn_of hx1 o n
      have b1 : w64 (X.li + X.lo) = X.li + X.lo := by unfold Cn.Bd at hbX; exact w64_eq (by omega) (by omega)
      have b2 : w64 (Y.li + Y.lo) = Y.li + Y.lo := by unfold Cn.Bd at hbY; exact w64_eq (by omega) (by omega)
      have c1 : (X.ta == Y.ta) = true := by rw [hLe.ta]; simp
      have c2 : decide (X.fr ≤ Y.fr) = true := decide_eq_true hLe.fr
      have c3 : decide (Y.li + Y.lo ≤ X.li + X.lo) = true := decide_eq_true hLe.hl
      have p1 := hS.neq 0 1 (by decide) rfl rfl
      have p2 := hS.qen 0 1 (by decide) rfl rfl
      have p3 := hS.neq 0 6 (by decide) rfl rfl
      have p4 := hS.qen 0 6 (by decide) rfl rfl
      have p5 := hS.neq 1 6 (by decide) rfl rfl
      have p6 := hS.qen 1 6 (by decide) rfl rfl
      refine draw_intro [(x, #[.int .i64 sh.p, .int .i64 sh.c, .int .i64 sh.m], []), (y1, auC X, []), (y2, auC Y, [])] (by simp only [auC, hx1, hy1, hy2, ↓DD, UU, ↓reduceIte, xA, xB, xC, xD, xE, xF, xG, xH, xI, xJ, xK, xL, xM, xN, xO, xP, xQ, ne_eq, eq_self]) ?_
      simp only [e1, e3, e5, e7, k4, k5, hx1, r1, ↓DD, UU, ↓reduceIte, xA, xB, xC, xD, xE, xF, xG, xH, xI, xJ, xK, xL, xM, xN, xO, xP, xQ, ne_eq, eq_self]
      refine callT_of (c_all (w := w) hwn hS.p3.p3) ?_
      rintro v H' ⟨a3, cap3, h3, rfl, hr3, hS⟩
      have hx1 := hS.lk 7 rfl
      have hy1 := hS.lk 3 rfl
      have hy2 := hS.lk 4 rfl
      have r1 := fun o n => rdn_of hx1 o n
      simp only [auC, e1, e3, e5, e7, k4, k5, hx1, hy1, hy2, r1, ↓DD, UU, ↓reduceIte, xA, xB, xC, xD, xE, xF, xG, xH, xI, xJ, xK, xL, xM, xN, xO, xP, xQ, ne_eq, eq_self]
      refine callT_of (c_soundV hm hnW hr3 (fun i _ => aw.u i) hS) ?_
      rintro v H' ⟨sb, rfl, hsb, hS⟩
      have hsb := hsb.2 hsn
      subst hsb
      have hx1 := hS.lk 7 rfl
      have hy1 := hS.lk 3 rfl
      have hy2 := hS.lk 4 rfl
      have r1 := fun o n => rdn_of hx1 o n
      have ry1 := fun o => rd_of hy1 o
      have ry2 := fun o => rd_of hy2 o
      simp only [auC] at hy1 hy2 ry1 ry2
      simp only [auC, e1, e3, e5, e7, k4, k5, hx1, hy1, hy2, r1, ry1, ry2, wrap_w64, b1, b2, c1, c2, c3, ge_iff_le, p1, p2, p3, p4, p5, p6, ↓DD, UU, ↓reduceIte, xA, xB, xC, xD, xE, xF, xG, xH, xI, xJ, xK, xL, xM, xN, xO, xP, xQ, ne_eq, eq_self]
      refine callT_of (c_blocks (sh := sh) hm hn hr0 hU0 hS.tail.p4) ?_
      rintro v H' ⟨ba, bc, g, rfl, hBL, hS⟩
      have hx1 := hS.lk 7 rfl
      have hy1 := hS.lk 4 rfl
      have hy2 := hS.lk 5 rfl
      have r1 := fun o n => rdn_of hx1 o n
      simp only [auC] at hy1 hy2
      simp only [auC, e1, e3, e5, e7, k4, k5, hx1, hy1, hy2, r1, ↓DD, UU, ↓reduceIte, xA, xB, xC, xD, xE, xF, xG, xH, xI, xJ, xK, xL, xM, xN, xO, xP, xQ, ne_eq, eq_self]
      refine callT_of (c_all (w := w) hwn hS.tail.p2.p2) ?_
      rintro v H' ⟨a4, cap4, h4, rfl, hr4, hS⟩
      have hx1 := hS.lk 7 rfl
      have hy1 := hS.lk 4 rfl
      have hy2 := hS.lk 5 rfl
      have r1 := fun o n => rdn_of hx1 o n
      simp only [auC] at hy1 hy2
      simp only [auC, e1, e3, e5, e7, k4, k5, hx1, hy1, hy2, r1, ↓DD, UU, ↓reduceIte, xA, xB, xC, xD, xE, xF, xG, xH, xI, xJ, xK, xL, xM, xN, xO, xP, xQ, ne_eq, eq_self]
      refine callT_of (c_blocks (sh := sh) hm hnW hr4 (fun i _ => aw.u i) hS) ?_
      rintro v H' ⟨ba2, bc2, g2, rfl, hBL2, hS⟩
      have hx1 := hS.lk 8 rfl
      have hy1 := hS.lk 5 rfl
      have hy2 := hS.lk 6 rfl
      simp only [auC] at hy1 hy2
      have c4 : (((blks sh ws0 sh.p.toNat).length : Int) == (blks sh ws0 sh.p.toNat).length) = true := by simp
      simp only [auC, e1, e3, e5, e7, k4, k5, hx1, hy1, hy2, hbl, c4, ↓DD, UU, ↓reduceIte, xA, xB, xC, xD, xE, xF, xG, xH, xI, xJ, xK, xL, xM, xN, xO, xP, xQ, ne_eq, eq_self]
      exact hS.p4.p1.tail.p1.tail.p1.tail.p1.tail.p1.tail.p1.tail.p1.tail.p1.tail
end
theorem l_takeundoes {W : World} {n cap : Nat} {a : Option Addr} {ws : Nat → Int} (p : Int) (q : Int) (m : Int) (h0 : -9223372036854775808 ≤ p ∧ p ≤ 9223372036854775807) (h1 : -9223372036854775808 ≤ q ∧ q ≤ 9223372036854775807) (h2 : -9223372036854775808 ≤ m ∧ m ≤ 9223372036854775807) (hn : n ≤ 9223372036854775807) (hr : RowU (memOf W) a n ws) (hU : ∀ i, i < n → IntKind.u64.has (ws i)) (c n1 n2 : Int) (hc : -9223372036854775808 ≤ c ∧ c ≤ 9223372036854775807) (h1' : -9223372036854775808 ≤ n1 ∧ n1 ≤ 9223372036854775807) (h2' : -9223372036854775808 ≤ n2 ∧ n2 ≤ 9223372036854775807) : CallP Tryz.prog W 3 #[.agg #[.int .i64 p, .int .i64 q, .int .i64 m], .slice a n cap, .agg #[.int .i64 c, .int .i64 n1, .int .i64 n2]] (memOf W) fun v H' => v = .bool true ∧ Sub (memOf W) H' :=
  (c_takeundoes ⟨p, q, m⟩ c n1 n2 hr (fun i hi => u64_bd (hU i hi)) (Sep.one _)).mono fun v H' ⟨h1, h2⟩ => ⟨h1, h2.head⟩
end Go.Proofs.YtaiojajdnafkcaaGreat
