/-
  TakeApart, walked: one reserves a block in a sound heap, and commits it. Conditions: none.
-/
import Derived.Test.YtlolfghimbcoaaaGreatCodeAllotmentlaw15
import Derived.Test.YtlolfghimbcoaaaGreatTakeK
import Derived.Test.YtlolfghimbcoaaaGreatRowV
import Derived.Test.YtlolfghimbcoaaaGreatSoundA
import Derived.Test.YtlolfghimbcoaaaGreatJmA
import Derived.Test.YtlolfghimbcoaaaGreatAuH
open Nat renaming reduceAdd → xA, reduceMul → xB, reduceSub → xC, reduceEqDiff → xD, reduceBEq → xE, reduceLeDiff → xF, reduceLT → xG
open Int renaming reduceAdd → xH, reduceMul → xI, reduceSub → xJ, reduceLT → xK, reduceLE → xL, reduceToNat → xM, reduceEq → xN, reduceNe → xO, reduceBEq → xP, reduceBNe → xQ
set_option linter.unusedVariables false
set_option linter.unusedSectionVars false
set_option linter.unusedSimpArgs false
set_option maxRecDepth 8000
namespace Go.Proofs.YtlolfghimbcoaaaGreat
open Go Go.Ev Go.Pl Go.Ma
theorem BsL.cell {l : List Hp} {H g : Hp} {a : Option Addr} {cap : Nat} {bl : List (Int × Int)} (h : BsL a cap bl g) (hS : Sep l H) (hm : g ∈ l) {j : Nat} (hj : j < bl.length) :
    ∃ z, a = some ⟨z, 0, none⟩ ∧ rd H z (j * 2) = some (.int .i64 (bl.getD j (0, 0)).1) ∧ rdn H z (j * 2) 2 = some #[.int .i64 (bl.getD j (0, 0)).1, .int .i64 (bl.getD j (0, 0)).2] := by
  rcases h with ⟨-, h, -, -⟩ | ⟨z, c, rfl, rfl, h1, h2, h3⟩
  · omega
  · have hz := hS.sb _ hm z _ (sg_at _ _)
    obtain ⟨e1, e2⟩ := h3 j hj
    refine ⟨z, rfl, by rw [rd_of hz, e1], ?_⟩
    have hsz : j * 2 + 2 ≤ c.size := by
      have := (Array.getElem?_eq_some_iff.1 e2).1; omega
    rw [rdn_of hz, if_pos hsz]
    congr 1
    apply Array.ext
    · simp
      omega
    · intro i i1 i2
      have hi : i = 0 ∨ i = 1 := by simp at i2; omega
      simp only [Array.getElem_extract]
      rcases hi with rfl | rfl
      · have := (Array.getElem?_eq_some_iff.1 e1).2; simpa using this
      · have := (Array.getElem?_eq_some_iff.1 e2).2; simpa using this
theorem tu_key {n : Nat} {ws : Nat → Int} {j : Nat} (hj : j < n) : (rowW n ws).ws j = ws j := if_pos hj
theorem tu_snd {sh : Sh} {n : Nat} {ws : Nat → Int} (hm : may sh.p sh.c sh.m = true) (hn : (n : Int) = words sh.p sh.c sh.m) (h : Snd sh ws) : Snd sh (rowW n ws).ws := by
  have hb := (may_iff _ _ _).1 hm
  have hw := words_ge hm hn
  refine h.congr hm (fun q q0 q1 => ?_) (fun q i q0 q1 i0 i1 => ?_) (fun c i c0 c1 i0 i1 => ?_)
  · unfold pgAt; rw [page_yes hm q0 q1]; exact tu_key (by omega)
  · unfold slAt; exact tu_key (by omega)
  · have := Int.mul_le_mul_of_nonneg_right (by omega : c + 1 ≤ sh.c) (by omega : 0 ≤ sh.m)
    rw [Int.add_mul] at this
    have := Int.mul_nonneg c0 (by omega : 0 ≤ sh.m)
    unfold mgAt; exact tu_key (by omega)
theorem tu_shp {v : Rv} {w : Wd} {s : Sh} {c : Int} (ho : v.of s c) (hw : w.of s) (hd : v.dn = false) : w.of v.shp := by
  cases v with
  | sk t => rw [show (Rv.sk t).shp = t.s from rfl, ho.1]; exact hw
  | rn t => rw [show (Rv.rn t).shp = t.s from rfl, ho.1]; exact hw
  | no => cases hd
theorem tu_row {h : Hp} {a : Option Addr} {n : Nat} {ws : Nat → Int} (hr : RowU h a n ws) : RowU h a n (rowW n ws).ws := by
  rcases hr with hr | ⟨b, o, rfl, hr⟩
  · exact .inl hr
  · exact .inr ⟨b, o, rfl, fun i hi => by rw [hr i hi, tu_key hi]⟩
section
variable {W : World} {H h : Hp} {l : List Hp} {n cap : Nat} {a : Option Addr} {ws : Nat → Int}
def taG (x z b k n cap : Nat) (a : Option Addr) (F' : Fr) : Prop := gt F' 1 = .slice a n cap ∧ gt F' 3 = .pointer (some ⟨x, 0, none⟩) ∧ gt F' 5 = .pointer (some ⟨z, 0, none⟩) ∧ gt F' 7 = .pointer (some ⟨b, 0, none⟩) ∧ gt F' 8 = .pointer (some ⟨k, 0, none⟩)
def taA (sh : Sh) (ws0 : Nat → Int) (c m f : Int) (x z b k k2 s n cap : Nat) (a : Option Addr) (L : List Hp) (F' : Fr) (H' : Hp) : Prop :=
  ∃ (i : Int) (kn : Nat) (t : Rv) (w : Wd), 0 ≤ i ∧ i ≤ sh.m + 80 * sh.p + 80 ∧ gt F' 9 = .int .i64 i ∧ taG x z b k n cap a F' ∧ w.of sh ∧ t.wf ∧ t.of sh c ∧ t.Al sh ws0 c m f w ∧ t.left ≤ max 0 (sh.m + 80 * sh.p + 80 - i) ∧ Sep (rvB k k2 t :: rvA k2 kn t :: rvN kn t :: wB b s w :: wR s w :: L) H'
def taH (x z b q km n cap L bc : Nat) (a ba : Option Addr) (F' : Fr) : Prop := gt F' 1 = .slice a n cap ∧ gt F' 3 = .pointer (some ⟨x, 0, none⟩) ∧ gt F' 5 = .pointer (some ⟨z, 0, none⟩) ∧ gt F' 7 = .pointer (some ⟨b, 0, none⟩) ∧ gt F' 10 = .pointer (some ⟨q, 0, none⟩) ∧ gt F' 12 = .pointer (some ⟨km, 0, none⟩) ∧ gt F' 13 = .slice ba L bc
def taM (A : List (Int × Int)) (P : Int) (x z b q km n cap bc : Nat) (a ba : Option Addr) (R : List Hp) (F' : Fr) (H' : Hp) : Prop :=
  ∃ (i cap4 : Nat) (a4 : Option Addr) (g : Hp), i ≤ A.length ∧ gt F' 14 = .int .i64 (i : Int) ∧ taH x z b q km n cap A.length bc a ba F' ∧ mdR a4 cap4 (A.take i) g ∧ Sep (mjB km a4 (A.take i).length cap4 (P * 64) :: g :: R) H'
def taO (lo hi : Int) (x z b q km n cap L bc : Nat) (a ba : Option Addr) (R : List Hp) (F' : Fr) (H' : Hp) : Prop :=
  ∃ i : Int, lo ≤ i ∧ i ≤ hi ∧ gt F' 17 = .int .i64 i ∧ taH x z b q km n cap L bc a ba F' ∧ Sep R H'
def taE (C : List (Int × Int)) (km bc2 : Nat) (ba2 : Option Addr) (R : List Hp) (F' : Fr) (H' : Hp) : Prop :=
  ∃ i : Nat, i ≤ C.length ∧ gt F' 22 = .int .i64 (i : Int) ∧ gt F' 21 = .slice ba2 C.length bc2 ∧ gt F' 12 = .pointer (some ⟨km, 0, none⟩) ∧ Sep R H'
set_option maxHeartbeats 4000000 in
theorem c_takeapart (sh : Sh) (c n1 n2 : Int) (hr : RowU h a n ws) (hU : ∀ i, i < n → U (ws i)) (hS : Sep (h :: l) H) :
    CallP Tryz.prog W 3 #[.agg #[.int .i64 sh.p, .int .i64 sh.c, .int .i64 sh.m], .slice a n cap, .agg #[.int .i64 c, .int .i64 n1, .int .i64 n2]] H fun v H' => v = .bool true ∧ Sep (h :: l) H' := by
  refine CallP.of mixed Tryz.func3 tr3 (by show 3 ≤ _; decide) fun W _ => ?_
  simp only [↓DD, UU, ↓reduceIte, xA, xB, xC, xD, xE, xF, xG, xH, xI, xJ, xK, xL, xM, xN, xO, xP, xQ, ne_eq, eq_self]
  refine newB_intro fun x hx f1 f2 => ?_
  simp only [↓DD, UU, ↓reduceIte, xA, xB, xC, xD, xE, xF, xG, xH, xI, xJ, xK, xL, xM, xN, xO, xP, xQ, ne_eq, eq_self]
  refine newB_intro fun z hz f3 f4 => ?_
  simp only [↓DD, UU, ↓reduceIte, xA, xB, xC, xD, xE, xF, xG, xH, xI, xJ, xK, xL, xM, xN, xO, xP, xQ, ne_eq, eq_self]
  have hS := (hS.new f1 (.cells #[.int .i64 sh.p, .int .i64 sh.c, .int .i64 sh.m] 23 (0, 0))).new f3 (.cells #[.int .i64 c, .int .i64 n1, .int .i64 n2] 25 (0, 0))
  have nzx := hS.neq 0 1 (by decide) rfl rfl
  have nxz := hS.qen 0 1 (by decide) rfl rfl
  refine callT_of (c_awake15 hS) ?_
  rintro v H' ⟨rfl, hS⟩
  have hx1 := hS.lk 1 rfl
  have r0 := fun o => rd_of hx1 o
  have r1 := fun o n => rdn_of hx1 o n
  simp only [hx1, r1, ↓DD, UU, ↓reduceIte, xA, xB, xC, xD, xE, xF, xG, xH, xI, xJ, xK, xL, xM, xN, xO, xP, xQ, ne_eq, eq_self]
  refine callT_of (c_fair (sh := sh) hS) ?_
  rintro v H' ⟨rfl, hS⟩
  have hx1 := hS.lk 1 rfl
  have r0 := fun o => rd_of hx1 o
  have r1 := fun o n => rdn_of hx1 o n
  cases hfair : (may sh.p sh.c sh.m && ((n : Int) == words sh.p sh.c sh.m))
  · simp only [hfair, ↓DD, UU, ↓reduceIte, xA, xB, xC, xD, xE, xF, xG, xH, xI, xJ, xK, xL, xM, xN, xO, xP, xQ, ne_eq, eq_self]
    exact hS.tail.tail
  have hfair' := hfair
  simp only [Bool.and_eq_true, beq_iff_eq] at hfair
  obtain ⟨hm, hn⟩ := hfair
  simp only [hfair', hx1, r0, r1, ↓DD, UU, ↓reduceIte, xA, xB, xC, xD, xE, xF, xG, xH, xI, xJ, xK, xL, xM, xN, xO, xP, xQ, ne_eq, eq_self]
  refine callT_of (c_soundV hm hn hr hU hS.p2) ?_
  rintro v H' ⟨sb, rfl, hsnd, hS⟩
  cases sb
  · simp only [↓DD, UU, ↓reduceIte, xA, xB, xC, xD, xE, xF, xG, xH, xI, xJ, xK, xL, xM, xN, xO, xP, xQ, ne_eq, eq_self]
    exact hS.p1.tail.p1.tail
  have hsnd0 := hsnd.1 rfl
  clear hsnd
  have hx1 := hS.lk 2 rfl
  have hz1 := hS.lk 1 rfl
  have r1 := fun o n => rdn_of hx1 o n
  have r2 := fun o => rd_of hz1 o
  have i0 : (0 : Int) < ((3 : Nat) : Int) := by decide
  have i1 : (1 : Int) < ((3 : Nat) : Int) := by decide
  have i2 : (2 : Int) < ((3 : Nat) : Int) := by decide
  by_cases hst : status sh.p sh.c sh.m c < 0
  · have g3 : decide (status sh.p sh.c sh.m c < 0) = true := decide_eq_true hst
    simp only [hx1, hz1, r1, r2, i0, i2, u_status, g3, ↓DD, UU, ↓reduceIte, xA, xB, xC, xD, xE, xF, xG, xH, xI, xJ, xK, xL, xM, xN, xO, xP, xQ, ne_eq, eq_self]
    exact hS.p1.tail.p1.tail
  have g3 : decide (status sh.p sh.c sh.m c < 0) = false := decide_eq_false hst
  have hcb : 0 ≤ c ∧ c < sh.c := by
    rw [status_lt0] at hst
    simp only [Decidable.not_not] at hst
    exact hst.2
  by_cases hpt : page sh.p sh.c sh.m n2 < 0
  · have g4 : decide (page sh.p sh.c sh.m n2 < 0) = true := decide_eq_true hpt
    simp only [hx1, hz1, r1, r2, i0, i2, u_status, u_page, g3, g4, ↓DD, UU, ↓reduceIte, xA, xB, xC, xD, xE, xF, xG, xH, xI, xJ, xK, xL, xM, xN, xO, xP, xQ, ne_eq, eq_self]
    exact hS.p1.tail.p1.tail
  have g4 : decide (page sh.p sh.c sh.m n2 < 0) = false := decide_eq_false hpt
  have hfb : 0 ≤ n2 ∧ n2 < sh.p := by
    rw [page_lt0] at hpt
    simp only [Decidable.not_not] at hpt
    exact hpt.2
  have hb := (may_iff _ _ _).1 hm
  have hwl := words_le hm
  have hwg := words_ge hm hn
  have hn2 : n ≤ 2000 := by omega
  simp only [hx1, hz1, r1, r2, i0, i2, u_status, u_page, g3, g4, ↓DD, UU, ↓reduceIte, xA, xB, xC, xD, xE, xF, xG, xH, xI, xJ, xK, xL, xM, xN, xO, xP, xQ, ne_eq, eq_self]
  refine callT_of (c_fill hn2 hr hS) ?_
  rintro v H' ⟨b, s, rfl, hS⟩
  have hx1 := hS.lk 4 rfl
  have hz1 := hS.lk 3 rfl
  have r1 := fun o n => rdn_of hx1 o n
  have r2 := fun o => rd_of hz1 o
  simp only [hx1, hz1, r1, r2, i0, i1, i2, ↓DD, UU, ↓reduceIte, xA, xB, xC, xD, xE, xF, xG, xH, xI, xJ, xK, xL, xM, xN, xO, xP, xQ, ne_eq, eq_self]
  refine callT_of (c_rvnew (sh := sh) (c := c) (n := n1) (f := n2) hS) ?_
  rintro v H' ⟨k, k2, kn, rfl, hS⟩
  simp only [↓DD, UU, ↓reduceIte, xA, xB, xC, xD, xE, xF, xG, xH, xI, xJ, xK, xL, xM, xN, xO, xP, xQ, ne_eq, eq_self]
  have hof0 : (rowW n ws).of sh := rowW_of hn fun i hi => hU i hi
  have hsn0 : Snd sh (rowW n ws).ws := tu_snd hm hn hsnd0
  have hal0 := Rv.Al.init (s := sh) (c := c) (n := n1) (f := n2) hm hof0 hcb.1 hcb.2 hfb.1 hfb.2 hsn0
  have hl0 := Rv.new_left sh c n1 n2 hm
  obtain ⟨ws0, hws0⟩ : ∃ ws0, (rowW n ws).ws = ws0 := ⟨_, rfl⟩
  have hr0 : RowU h a n ws0 := by rw [← hws0]; exact tu_row hr
  have hU0 : ∀ i, i < n → U (ws0 i) := fun i _ => by rw [← hws0]; exact hof0.u i
  rw [hws0] at hal0 hsn0
  obtain ⟨zB, hzB⟩ : ∃ zB, sg z (.cells #[.int .i64 c, .int .i64 n1, .int .i64 n2] 25 (0, 0)) = zB := ⟨_, rfl⟩
  obtain ⟨hpX, hxB⟩ : ∃ hpX, sg x (.cells #[.int .i64 sh.p, .int .i64 sh.c, .int .i64 sh.m] 23 (0, 0)) = hpX := ⟨_, rfl⟩
  rw [hzB, hxB] at hS
  refine loop_intro (taA sh ws0 c n1 n2 x z b k k2 s n cap a (h :: zB :: hpX :: l)) (fun F' _ => (sh.m + 80 * sh.p + 80 - iv (gt F' 9)).toNat)
    ⟨0, kn, _, _, Int.le_refl _, by omega, by simp [gt], ⟨by simp [gt], by simp [gt], by simp [gt], by simp [gt], by simp [gt]⟩, hof0, Rv.new_wf .., Rv.new_of .., hal0, by omega, hS⟩ ?_
  clear hS hx1 hz1 r1 r2 r0 hal0 hl0
  rintro F' H' ⟨i, kn, t, w, j0, j1, e9, ⟨e1, e3, e5, e7, e8⟩, aw, twf, tof, hal, hl, hS⟩
  have lkx : ∀ {L : List Hp} {Z : Hp}, Sep L Z → hpX ∈ L → Z x = some (.cells #[.int .i64 sh.p, .int .i64 sh.c, .int .i64 sh.m] 23 (0, 0)) := fun g hx => (g.sb _ hx) _ _ (by rw [← hxB]; exact sg_at _ _)
  have lkz : ∀ {L : List Hp} {Z : Hp}, Sep L Z → zB ∈ L → Z z = some (.cells #[.int .i64 c, .int .i64 n1, .int .i64 n2] 25 (0, 0)) := fun g hx => (g.sb _ hx) _ _ (by rw [← hzB]; exact sg_at _ _)
  have hx1 := lkx hS (by simp)
  have rx := fun o => rd_of hx1 o
  have r1 := fun o n => rdn_of hx1 o n
  have m1 : w64 (80 * sh.p) = 80 * sh.p := w64_eq (by omega) (by omega)
  have m2 : w64 (sh.m + 80 * sh.p) = sh.m + 80 * sh.p := w64_eq (by omega) (by omega)
  have m3 : w64 (sh.m + 80 * sh.p + 80) = sh.m + 80 * sh.p + 80 := w64_eq (by omega) (by omega)
  have wi : w64 (i + 1) = i + 1 := w64_eq (by omega) (by omega)
  by_cases hlt : i < sh.m + 80 * sh.p + 80
  · have d1 : decide (i < sh.m + 80 * sh.p + 80) = true := decide_eq_true hlt
    simp only [e9, e1, e3, e5, e7, e8, hx1, rx, wrap_w64, m1, m2, m3, d1, ↓DD, UU, ↓reduceIte, xA, xB, xC, xD, xE, xF, xG, xH, xI, xJ, xK, xL, xM, xN, xO, xP, xQ, ne_eq, eq_self]
    refine callT_of (c_rvstep twf (fun hd => tu_shp tof aw hd) hS) ?_
    rintro v H' ⟨rfl, kn2, hS⟩
    have hl2 := Rv.left_step (m := sh.m + 80 * sh.p + 80 - i) (w := w) twf hl
    simp only [e9, e1, e3, e5, e7, e8, wrap_w64, wi, ↓DD, UU, ↓reduceIte, xA, xB, xC, xD, xE, xF, xG, xH, xI, xJ, xK, xL, xM, xN, xO, xP, xQ, ne_eq, eq_self]
    exact ⟨⟨i + 1, kn2, _, _, by omega, by omega, by simp [gt], ⟨by simp [gt, e1], by simp [gt, e3], by simp [gt, e5], by simp [gt, e7], by simp [gt, e8]⟩, Rv.step_of twf aw, Rv.step_wf twf, Rv.step_ofs twf tof, hal.step, by omega, hS⟩, by simp [gt, iv, e9]; omega⟩
  have d1 : decide (i < sh.m + 80 * sh.p + 80) = false := decide_eq_false hlt
  have hdn : t.dn = true := Rv.left_dn twf (by omega)
  simp only [e9, e1, e3, e5, e7, e8, hx1, rx, wrap_w64, m1, m2, m3, d1, ↓DD, UU, ↓reduceIte, xA, xB, xC, xD, xE, xF, xG, xH, xI, xJ, xK, xL, xM, xN, xO, xP, xQ, ne_eq, eq_self]
  refine callT_of (c_rvfound hS) ?_
  rintro v H' ⟨rfl, hS⟩
  have hz0 := lkz hS (by simp)
  simp only [e9, e1, e3, e5, e7, e8, bkV, ↓DD, UU, ↓reduceIte, xA, xB, xC, xD, xE, xF, xG, xH, xI, xJ, xK, xL, xM, xN, xO, xP, xQ, ne_eq, eq_self]
  refine newB_intro fun q hq f7 f8 => ?_
  have nzq : (z = q) = False := f7 z (by rw [hz0]; rfl)
  have nqz : (q = z) = False := f8 z (by rw [hz0]; rfl)
  have hS := (hS.new f7 (.cells #[.bool t.bk.lg, .int .i64 t.bk.p, .int .i64 t.bk.i, .int .i64 t.bk.k, .int .i64 t.bk.n] 35 (0, 0)))
  simp only [Ev.upd_upd, e9, e1, e3, e5, e7, e8, ↓DD, UU, ↓reduceIte, xA, xB, xC, xD, xE, xF, xG, xH, xI, xJ, xK, xL, xM, xN, xO, xP, xQ, ne_eq, eq_self]
  refine callT_of (c_rvdone hS.r3) ?_
  rintro v H' ⟨rfl, hS⟩
  have hS := hS.tail.tail.tail
  cases hf : t.fd
  · simp only [hdn, hf, e9, e1, e3, e5, e7, e8, ↓DD, UU, ↓reduceIte, xA, xB, xC, xD, xE, xF, xG, xH, xI, xJ, xK, xL, xM, xN, xO, xP, xQ, ne_eq, eq_self]
    exact hS.tail.tail.tail.p1.tail.p1.tail
  obtain ⟨hgot, hlen⟩ := hal.got hdn hf
  have hfine := hal.fine hf
  obtain ⟨BK, hBK⟩ : ∃ BK, t.bk = BK := ⟨_, rfl⟩
  have hb3 : (BK.lg = true → BK.i = 0) ∧ (BK.lg = false → BK.n = 0) := by rw [← hBK]; exact Re.rvbk t
  rw [hBK] at hgot hlen hS
  have hx1 := lkx hS (by simp)
  have rx := fun o => rd_of hx1 o
  have w64p : w64 (sh.p * 64) = sh.p * 64 := w64_eq (by omega) (by omega)
  simp only [hdn, hf, e9, e1, e3, e5, e7, e8, hx1, rx, wrap_w64, w64p, ↓DD, UU, ↓reduceIte, xA, xB, xC, xD, xE, xF, xG, xH, xI, xJ, xK, xL, xM, xN, xO, xP, xQ, ne_eq, eq_self]
  refine callT_of (c_mnew (words := sh.p * 64) (by omega) (by omega) hS) ?_
  rintro v H' ⟨km, rfl, hS⟩
  have hx1 := lkx hS (by simp)
  have r1 := fun o n => rdn_of hx1 o n
  simp only [e9, e1, e3, e5, e7, e8, hx1, r1, ↓DD, UU, ↓reduceIte, xA, xB, xC, xD, xE, xF, xG, xH, xI, xJ, xK, xL, xM, xN, xO, xP, xQ, ne_eq, eq_self]
  refine callT_of (c_blocks (sh := sh) hm hn hr0 hU0 hS.p5) ?_
  rintro v H' ⟨ba, bc, g, rfl, hBL, hS⟩
  have hS := hS.p2.p3.p1
  obtain ⟨A, hA⟩ : ∃ A, blks sh ws0 sh.p.toNat = A := ⟨_, rfl⟩
  rw [hA] at hBL
  have hAl : A.length ≤ 1024 := by have := blks_len (s := sh) (ws := ws0) sh.p.toNat; rw [hA] at this; omega
  have hpA : ∀ y ∈ A, 0 ≤ y.1 ∧ 1 ≤ y.2 ∧ y.1 + y.2 ≤ sh.p * 64 := fun y hy => blks_pos hm hsn0 (by rw [hA]; exact hy)
  have hsrA : Srt A := by rw [← hA]; exact hsn0.srt hm _ (by omega)
  obtain ⟨pre, post, hput, hcm⟩ := hgot.res.put hm hgot.snd
  rw [hgot.blks hm (by omega), hA] at hput
  have hb2 := hput.b
  have hbd : (0 ≤ BK.p ∧ BK.p ≤ 64) ∧ (0 ≤ BK.i ∧ BK.i ≤ 64) ∧ (0 ≤ BK.n ∧ BK.n ≤ 64) := by
    have p0 := hgot.res.f.p0
    have p1 := hgot.res.f.p1
    cases e : BK.lg
    · have g1 := hgot.res.f.s e
      have sb := slots_bd BK.k
      have := hb3.2 e
      exact ⟨by omega, by omega, by omega⟩
    · have g1 := hgot.res.f.l e
      have := hb3.1 e
      exact ⟨by omega, by omega, by omega⟩
  obtain ⟨Q, hQ⟩ : ∃ Q, Q = sg q (.cells #[.bool BK.lg, .int .i64 BK.p, .int .i64 BK.i, .int .i64 BK.k, .int .i64 BK.n] 35 (0, 0)) := ⟨_, rfl⟩
  rw [← hQ] at hS
  have lkq : ∀ {L : List Hp} {Z : Hp}, Sep L Z → Q ∈ L → Z q = some (.cells #[.bool BK.lg, .int .i64 BK.p, .int .i64 BK.i, .int .i64 BK.k, .int .i64 BK.n] 35 (0, 0)) := fun g hx => (g.sb _ hx) _ _ (by rw [hQ]; exact sg_at _ _)
  simp only [e9, e1, e3, e5, e7, e8, hA, ↓DD, UU, ↓reduceIte, xA, xB, xC, xD, xE, xF, xG, xH, xI, xJ, xK, xL, xM, xN, xO, xP, xQ, ne_eq, eq_self]
  refine loop_intro (taM A sh.p x z b q km n cap bc a ba (g :: h :: Q :: wB b s w :: wR s w :: zB :: hpX :: l)) (fun F' _ => (A.length - iv (gt F' 14)).toNat)
    ⟨0, 0, none, _, by omega, by simp [gt], ⟨by simp [gt, e1], by simp [gt, e3], by simp [gt, e5], by simp [gt, e7], by simp [gt], by simp [gt], by simp [gt, hA]⟩, .inl ⟨rfl, rfl, rfl, rfl⟩, hS⟩ ?_
  clear hS hx1 rx r1 e9 e1 e3 e5 e7 e8 d1 hlt m1 m2 m3 wi j0 j1
  rintro F' H' ⟨i, cap4, a4, g4, hi, e14, ⟨e1, e3, e5, e7, e10, e12, e13⟩, hmd, hS⟩
  by_cases hlt : i < A.length
  · have d1 : decide ((i : Int) < (A.length : Int)) = true := decide_eq_true (by omega)
    have p0 : (0 : Int) ≤ (i : Int) := by omega
    have p1 : (i : Int) < (A.length : Int) := by omega
    have wi : w64 ((i : Int) + 1) = (i : Int) + 1 := w64_eq (by omega) (by omega)
    have hBL' := hBL
    rcases hBL' with ⟨-, h0, -, -⟩ | ⟨zb, cb, rfl, hg, -, -, hce⟩
    · omega
    obtain ⟨hc0, hc1⟩ := hce i hlt
    have hg1 := hS.lk 2 (b := zb) (o := .cells cb 43 (0, 0)) (by rw [hg]; rfl)
    have rg := fun o => rd_of hg1 o
    obtain ⟨y, hy⟩ : ∃ y, A.getD i (0, 0) = y := ⟨_, rfl⟩
    have hc0 : cb[i * 2]? = some (.int .i64 (A.getD i (0, 0)).1) := hc0
    have hc1 : cb[i * 2 + 1]? = some (.int .i64 (A.getD i (0, 0)).2) := hc1
    rw [hy] at hc0 hc1
    have hyA : y ∈ A := by
      rw [← hy, List.getD_eq_getElem?_getD, List.getElem?_eq_getElem hlt]
      exact List.getElem_mem _
    have htk : A.take i ++ [(y.1, y.2)] = A.take (i + 1) := by
      rw [List.take_add_one, List.getElem?_eq_getElem hlt]
      rw [List.getD_eq_getElem?_getD, List.getElem?_eq_getElem hlt] at hy
      have hy : A[i] = y := hy
      rw [hy]; rfl
    have hlo : ∀ b ∈ A.take i, 0 ≤ b.1 ∧ 1 ≤ b.2 ∧ b.1 + b.2 ≤ y.1 := fun b hb => by
      have hbA := hpA b (List.mem_of_mem_take hb)
      have hs2 : Srt (A.take i ++ A.drop i) := by rw [List.take_append_drop]; exact hsrA
      refine ⟨hbA.1, hbA.2.1, (srt_app hs2).2.2 b hb y ?_⟩
      rw [← hy, List.getD_eq_getElem?_getD, List.getElem?_eq_getElem hlt, List.drop_eq_getElem_cons hlt]
      exact List.mem_cons_self ..
    have hyb := hpA y hyA
    simp only [e14, e1, e3, e5, e7, e10, e12, e13, d1, ↓DD, UU, ↓reduceIte, xA, xB, xC, xD, xE, xF, xG, xH, xI, xJ, xK, xL, xM, xN, xO, xP, xQ, ne_eq, eq_self]
    refine draw_intro [(zb, cb, [])] (by simp only [hg1, ↓DD, UU, ↓reduceIte, xA, xB, xC, xD, xE, xF, xG, xH, xI, xJ, xK, xL, xM, xN, xO, xP, xQ, ne_eq, eq_self]) ?_
    simp only [e14, e1, e3, e5, e7, e10, e12, e13, d1, p0, p1, Int.toNat_natCast, hg1, rg, hc0, hc1, ↓DD, UU, ↓reduceIte, xA, xB, xC, xD, xE, xF, xG, xH, xI, xJ, xK, xL, xM, xN, xO, xP, xQ, ne_eq, eq_self]
    refine callT_of (c_mtakeN hmd (by omega) (by rw [List.length_take]; omega) hyb.1 hyb.2.1 hyb.2.2 hlo hS) ?_
    rintro v H' ⟨rfl, a5, cap5, g5, hmd5, hS⟩
    rw [htk] at hmd5 hS
    simp only [e14, e1, e3, e5, e7, e10, e12, e13, wrap_w64, wi, ↓DD, UU, ↓reduceIte, xA, xB, xC, xD, xE, xF, xG, xH, xI, xJ, xK, xL, xM, xN, xO, xP, xQ, ne_eq, eq_self]
    exact ⟨⟨i + 1, cap5, a5, g5, hlt, by simp [gt], ⟨by simp [gt, e1], by simp [gt, e3], by simp [gt, e5], by simp [gt, e7], by simp [gt, e10], by simp [gt, e12], by simp [gt, e13]⟩, hmd5, hS⟩, by simp [gt, iv, e14]; omega⟩
  have hiA : i = A.length := by omega
  rw [hiA, List.take_length] at hmd hS
  have d1 : decide ((i : Int) < (A.length : Int)) = false := decide_eq_false (by omega)
  have hz1 := lkz hS (by simp)
  have rz := fun o => rd_of hz1 o
  have hq1 := lkq hS (by simp)
  have rq := fun o n => rdn_of hq1 o n
  simp only [e14, e1, e3, e5, e7, e10, e12, e13, d1, rz, i1, u_length, hfine, ↓DD, UU, ↓reduceIte, xA, xB, xC, xD, xE, xF, xG, xH, xI, xJ, xK, xL, xM, xN, xO, xP, xQ, ne_eq, eq_self]
  refine draw_intro [(q, #[.bool BK.lg, .int .i64 BK.p, .int .i64 BK.i, .int .i64 BK.k, .int .i64 BK.n], [])] (by simp only [hq1, ↓DD, UU, ↓reduceIte, xA, xB, xC, xD, xE, xF, xG, xH, xI, xJ, xK, xL, xM, xN, xO, xP, xQ, ne_eq, eq_self]) ?_
  simp only [e14, e1, e3, e5, e7, e10, e12, e13, hq1, rq, ↓DD, UU, ↓reduceIte, xA, xB, xC, xD, xE, xF, xG, xH, xI, xJ, xK, xL, xM, xN, xO, xP, xQ, ne_eq, eq_self]
  refine callT_of (c_bklen (B := BK) hbd.2.2 hS) ?_
  rintro v H' ⟨rfl, hS⟩
  have hq1 := lkq hS (by simp)
  have rq := fun o n => rdn_of hq1 o n
  have k1 : (BK.len != len n1) = false := by rw [hlen]; simp
  simp only [e14, e1, e3, e5, e7, e10, e12, e13, hq1, rq, k1, ↓DD, UU, ↓reduceIte, xA, xB, xC, xD, xE, xF, xG, xH, xI, xJ, xK, xL, xM, xN, xO, xP, xQ, ne_eq, eq_self]
  refine callT_of (c_bkat (B := BK) hbd.1 hbd.2.1 hS) ?_
  rintro v H' ⟨rfl, hS⟩
  have hq1 := lkq hS (by simp)
  have rq := fun o n => rdn_of hq1 o n
  simp only [e14, e1, e3, e5, e7, e10, e12, e13, hq1, rq, ↓DD, UU, ↓reduceIte, xA, xB, xC, xD, xE, xF, xG, xH, xI, xJ, xK, xL, xM, xN, xO, xP, xQ, ne_eq, eq_self]
  refine callT_of (c_bklen (B := BK) hbd.2.2 hS) ?_
  rintro v H' ⟨rfl, hS⟩
  have hq1 := lkq hS (by simp)
  simp only [e14, e1, e3, e5, e7, e10, e12, e13, hq1, ↓DD, UU, ↓reduceIte, xA, xB, xC, xD, xE, xF, xG, xH, xI, xJ, xK, xL, xM, xN, xO, xP, xQ, ne_eq, eq_self]
  rw [hput.eq] at hmd hS
  refine callT_of (c_mtake (pre := pre) (post := post) hmd (by omega) (by rw [← hput.eq]; omega) hb2.1 hb2.2.1 hb2.2.2 hput.lo hput.hi hS) ?_
  rintro v H' ⟨rfl, a5, cap5, g5, hmd5, hS⟩
  have hq1 := lkq hS (by simp)
  have rq := fun o n => rdn_of hq1 o n
  simp only [e14, e1, e3, e5, e7, e10, e12, e13, hq1, rq, ↓DD, UU, ↓reduceIte, xA, xB, xC, xD, xE, xF, xG, xH, xI, xJ, xK, xL, xM, xN, xO, xP, xQ, ne_eq, eq_self]
  refine callT_of (c_bkat (B := BK) hbd.1 hbd.2.1 hS) ?_
  rintro v H' ⟨rfl, hS⟩
  have eqs : pre ++ [(BK.ad, BK.len)] ++ post = pre ++ (BK.ad, BK.len) :: post := by rw [List.append_assoc]; rfl
  rw [eqs] at hmd5 hS
  obtain ⟨C, hC⟩ : ∃ C, pre ++ (BK.ad, BK.len) :: post = C := ⟨_, rfl⟩
  rw [hC] at hmd5 hS hcm
  have hCl : C.length = A.length + 1 := by rw [← hC, hput.eq]; simp; omega
  simp only [e14, e1, e3, e5, e7, e10, e12, e13, ↓DD, UU, ↓reduceIte, xA, xB, xC, xD, xE, xF, xG, xH, xI, xJ, xK, xL, xM, xN, xO, xP, xQ, ne_eq, eq_self]
  have hb4 : 0 ≤ BK.ad ∧ 1 ≤ BK.len ∧ BK.ad + BK.len ≤ sh.p * 64 := hb2
  refine loop_intro (taO BK.ad (BK.ad + BK.len) x z b q km n cap A.length bc a ba (mjB km a5 C.length cap5 (sh.p * 64) :: g5 :: g :: h :: Q :: wB b s w :: wR s w :: zB :: hpX :: l)) (fun F' _ => (BK.ad + BK.len - iv (gt F' 17)).toNat)
    ⟨BK.ad, Int.le_refl _, by omega, by simp [gt], ⟨by simp [gt, e1], by simp [gt, e3], by simp [gt, e5], by simp [gt, e7], by simp [gt, e10], by simp [gt, e12], by simp [gt, e13]⟩, hS⟩ ?_
  clear hS hz1 rz hq1 rq e14 e1 e3 e5 e7 e10 e12 e13 d1 hi hlt hiA
  rintro F' H' ⟨i, j0, j1, e17, ⟨e1, e3, e5, e7, e10, e12, e13⟩, hS⟩
  have hq1 := lkq hS (by simp)
  have rq := fun o n => rdn_of hq1 o n
  refine draw_intro [(q, #[.bool BK.lg, .int .i64 BK.p, .int .i64 BK.i, .int .i64 BK.k, .int .i64 BK.n], [])] (by simp only [hq1, ↓DD, UU, ↓reduceIte, xA, xB, xC, xD, xE, xF, xG, xH, xI, xJ, xK, xL, xM, xN, xO, xP, xQ, ne_eq, eq_self]) ?_
  simp only [e17, e1, e3, e5, e7, e10, e12, e13, hq1, rq, ↓DD, UU, ↓reduceIte, xA, xB, xC, xD, xE, xF, xG, xH, xI, xJ, xK, xL, xM, xN, xO, xP, xQ, ne_eq, eq_self]
  refine callT_of (c_bkat (B := BK) hbd.1 hbd.2.1 hS) ?_
  rintro v H' ⟨rfl, hS⟩
  have hq1 := lkq hS (by simp)
  have rq := fun o n => rdn_of hq1 o n
  simp only [e17, e1, e3, e5, e7, e10, e12, e13, hq1, rq, ↓DD, UU, ↓reduceIte, xA, xB, xC, xD, xE, xF, xG, xH, xI, xJ, xK, xL, xM, xN, xO, xP, xQ, ne_eq, eq_self]
  refine callT_of (c_bklen (B := BK) hbd.2.2 hS) ?_
  rintro v H' ⟨rfl, hS⟩
  have hq1 := lkq hS (by simp)
  have v1 : w64 (BK.ad + BK.len) = BK.ad + BK.len := w64_eq (by omega) (by omega)
  have wi : w64 (i + 1) = i + 1 := w64_eq (by omega) (by omega)
  by_cases hlt : i < BK.ad + BK.len
  · have d1 : decide (i < BK.ad + BK.len) = true := decide_eq_true hlt
    have hx1 := lkx hS (by simp)
    have r1 := fun o n => rdn_of hx1 o n
    simp only [e17, e1, e3, e5, e7, e10, e12, e13, hq1, wrap_w64, v1, d1, hx1, r1, ↓DD, UU, ↓reduceIte, xA, xB, xC, xD, xE, xF, xG, xH, xI, xJ, xK, xL, xM, xN, xO, xP, xQ, ne_eq, eq_self]
    refine callT_of (c_holderX (sh := sh) i (by omega) (by omega) hm hsn0 hn hr0 hU0 hS.p3) ?_
    rintro v H' ⟨c', b', rfl, hho, hS⟩
    have hS := hS.r3
    have hz1 := lkz hS (by simp)
    have rz := fun o => rd_of hz1 o
    cases b'
    · simp only [e17, e1, e3, e5, e7, e10, e12, e13, wrap_w64, wi, ↓DD, UU, ↓reduceIte, xA, xB, xC, xD, xE, xF, xG, xH, xI, xJ, xK, xL, xM, xN, xO, xP, xQ, ne_eq, eq_self]
      exact ⟨⟨i + 1, by omega, by omega, by simp [gt], ⟨by simp [gt, e1], by simp [gt, e3], by simp [gt, e5], by simp [gt, e7], by simp [gt, e10], by simp [gt, e12], by simp [gt, e13]⟩, hS⟩, by simp [gt, iv, e17]; omega⟩
    · have hcc := hgot.holder hm hsn0 j0 hlt (hho rfl)
      have k2 : (c' != c) = false := by rw [hcc]; simp
      simp only [e17, e1, e3, e5, e7, e10, e12, e13, rz, i0, k2, wrap_w64, wi, ↓DD, UU, ↓reduceIte, xA, xB, xC, xD, xE, xF, xG, xH, xI, xJ, xK, xL, xM, xN, xO, xP, xQ, ne_eq, eq_self]
      exact ⟨⟨i + 1, by omega, by omega, by simp [gt], ⟨by simp [gt, e1], by simp [gt, e3], by simp [gt, e5], by simp [gt, e7], by simp [gt, e10], by simp [gt, e12], by simp [gt, e13]⟩, hS⟩, by simp [gt, iv, e17]; omega⟩
  have d1 : decide (i < BK.ad + BK.len) = false := decide_eq_false hlt
  have hx1 := lkx hS (by simp)
  have hz1 := lkz hS (by simp)
  have r1 := fun o n => rdn_of hx1 o n
  have rz := fun o => rd_of hz1 o
  have rq := fun o n => rdn_of hq1 o n
  simp only [e17, e1, e3, e5, e7, e10, e12, e13, hq1, wrap_w64, v1, d1, hx1, r1, hz1, rz, rq, i0, ↓DD, UU, ↓reduceIte, xA, xB, xC, xD, xE, xF, xG, xH, xI, xJ, xK, xL, xM, xN, xO, xP, xQ, ne_eq, eq_self]
  refine callT_of (c_cmnew (sh := sh) (c := c) (B := BK) hS) ?_
  rintro v H' ⟨kc, rfl, hS⟩
  obtain ⟨cd, cs, cw⟩ := Cm.one hgot.res
  simp only [e1, e3, e5, e7, e10, e12, e13, ↓DD, UU, ↓reduceIte, xA, xB, xC, xD, xE, xF, xG, xH, xI, xJ, xK, xL, xM, xN, xO, xP, xQ, ne_eq, eq_self]
  refine callT_of (c_cmstep (t := Cm.new sh c BK) (w := w) (Cm.new_wf sh c BK) (fun _ => aw) hS.p7.p7.p2) ?_
  rintro v H' ⟨rfl, hS⟩
  obtain ⟨w1, hw1⟩ : ∃ w1, ((Cm.new sh c BK).step w).2 = w1 := ⟨_, rfl⟩
  rw [hw1] at hS cw
  have aw1 : w1.of sh := by rw [← hw1]; exact Cm.step_of aw
  rw [← cw] at hcm
  have hsn1 : Snd sh w1.ws := by rw [cw]; exact hgot.res.cm_snd hm hgot.snd
  have hx1 := lkx hS (by simp)
  have r1 := fun o n => rdn_of hx1 o n
  have hwn : w1.n ≤ 2000 := by have := aw1.n; omega
  have hnW : ((w1.n : Nat) : Int) = words sh.p sh.c sh.m := by rw [aw1.n]
  rw [cs] at hS
  simp only [e1, e3, e5, e7, e10, e12, e13, ↓DD, UU, ↓reduceIte, xA, xB, xC, xD, xE, xF, xG, xH, xI, xJ, xK, xL, xM, xN, xO, xP, xQ, ne_eq, eq_self]
  refine draw_intro [(x, #[.int .i64 sh.p, .int .i64 sh.c, .int .i64 sh.m], [])] (by simp only [hx1, ↓DD, UU, ↓reduceIte, xA, xB, xC, xD, xE, xF, xG, xH, xI, xJ, xK, xL, xM, xN, xO, xP, xQ, ne_eq, eq_self]) ?_
  simp only [e1, e3, e5, e7, e10, e12, e13, hx1, r1, ↓DD, UU, ↓reduceIte, xA, xB, xC, xD, xE, xF, xG, xH, xI, xJ, xK, xL, xM, xN, xO, xP, xQ, ne_eq, eq_self]
  refine callT_of (c_all (w := w1) hwn hS.r2) ?_
  rintro v H' ⟨a3, cap3, h3, rfl, hr3, hS⟩
  have hx1 := lkx hS (by simp)
  have r1 := fun o n => rdn_of hx1 o n
  simp only [e1, e3, e5, e7, e10, e12, e13, hx1, r1, ↓DD, UU, ↓reduceIte, xA, xB, xC, xD, xE, xF, xG, xH, xI, xJ, xK, xL, xM, xN, xO, xP, xQ, ne_eq, eq_self]
  refine callT_of (c_blocks (sh := sh) hm hnW hr3 (fun i _ => aw1.u i) hS) ?_
  rintro v H' ⟨ba2, bc2, g2, rfl, hBL2, hS⟩
  rw [hcm] at hBL2 ⊢
  have hx1 := lkx hS (by simp)
  have r1 := fun o n => rdn_of hx1 o n
  simp only [e1, e3, e5, e7, e10, e12, e13, hx1, ↓DD, UU, ↓reduceIte, xA, xB, xC, xD, xE, xF, xG, xH, xI, xJ, xK, xL, xM, xN, xO, xP, xQ, ne_eq, eq_self]
  refine draw_intro [(x, #[.int .i64 sh.p, .int .i64 sh.c, .int .i64 sh.m], [])] (by simp only [hx1, ↓DD, UU, ↓reduceIte, xA, xB, xC, xD, xE, xF, xG, xH, xI, xJ, xK, xL, xM, xN, xO, xP, xQ, ne_eq, eq_self]) ?_
  simp only [e1, e3, e5, e7, e10, e12, e13, ↓DD, UU, ↓reduceIte, xA, xB, xC, xD, xE, xF, xG, xH, xI, xJ, xK, xL, xM, xN, xO, xP, xQ, ne_eq, eq_self]
  refine callT_of (c_cmdone hS.p4) ?_
  rintro v H' ⟨rfl, hS⟩
  have hS := hS.r4
  have hx1 := lkx hS (by simp)
  have r1 := fun o n => rdn_of hx1 o n
  have v3 : w64 ((A.length : Int) + 1) = (A.length : Int) + 1 := w64_eq (by omega) (by omega)
  have v4 : ((C.length : Int) != (A.length : Int) + 1) = false := by rw [hCl]; simp
  simp only [e1, e3, e5, e7, e10, e12, e13, hx1, r1, wrap_w64, v3, v4, ↓DD, UU, ↓reduceIte, xA, xB, xC, xD, xE, xF, xG, xH, xI, xJ, xK, xL, xM, xN, xO, xP, xQ, ne_eq, eq_self]
  refine callT_of (c_all (w := w1) hwn hS.p3.p3) ?_
  rintro v H' ⟨a4, cap4, h4, rfl, hr4, hS⟩
  have hx1 := lkx hS (by simp)
  have r1 := fun o n => rdn_of hx1 o n
  simp only [e1, e3, e5, e7, e10, e12, e13, hx1, r1, ↓DD, UU, ↓reduceIte, xA, xB, xC, xD, xE, xF, xG, xH, xI, xJ, xK, xL, xM, xN, xO, xP, xQ, ne_eq, eq_self]
  refine callT_of (c_soundV hm hnW hr4 (fun i _ => aw1.u i) hS) ?_
  rintro v H' ⟨sb, rfl, hsb, hS⟩
  have hsb := hsb.2 hsn1
  subst hsb
  have hx1 := lkx hS (by simp)
  simp only [e1, e3, e5, e7, e10, e12, e13, hx1, ↓DD, UU, ↓reduceIte, xA, xB, xC, xD, xE, xF, xG, xH, xI, xJ, xK, xL, xM, xN, xO, xP, xQ, ne_eq, eq_self]
  have hS := hS.tail.tail.tail.p3.p4.p1
  have hsrC : Srt C := by rw [← hcm]; exact hsn1.srt hm _ (by omega)
  have hpC : ∀ y ∈ C, 1 ≤ y.2 := fun y hy => (blks_pos hm hsn1 (by rw [hcm]; exact hy)).2.1
  refine loop_intro (taE C km bc2 ba2 (mjB km a5 C.length cap5 (sh.p * 64) :: g5 :: g2 :: h3 :: cmB kc { Cm.new sh c BK with dn := true } :: g :: h :: Q :: zB :: hpX :: l)) (fun F' _ => (C.length - iv (gt F' 22)).toNat)
    ⟨0, by omega, by simp [gt], by simp [gt], by simp [gt, e12], hS⟩ ?_
  clear hS hx1 r1 rz rq hq1 hz1 e17 e1 e3 e5 e7 e10 e12 e13 d1 hlt
  rintro F' H' ⟨i, hi, e22, e21, e12, hS⟩
  by_cases hlt : i < C.length
  · have d1 : decide ((i : Int) < (C.length : Int)) = true := decide_eq_true (by omega)
    have p0 : (0 : Int) ≤ (i : Int) := by omega
    have p1 : (i : Int) < (C.length : Int) := by omega
    have wi : w64 ((i : Int) + 1) = (i : Int) + 1 := w64_eq (by omega) (by omega)
    have hBL' := hBL2
    rcases hBL' with ⟨-, h0, -, -⟩ | ⟨zb, cb, rfl, hg, -, -, hce⟩
    · omega
    obtain ⟨hc0, hc1⟩ := hce i hlt
    have hg1 := hS.lk 2 (b := zb) (o := .cells cb 43 (0, 0)) (by rw [hg]; rfl)
    have rg := fun o => rd_of hg1 o
    obtain ⟨y, hy⟩ : ∃ y, C.getD i (0, 0) = y := ⟨_, rfl⟩
    have hc0 : cb[i * 2]? = some (.int .i64 (C.getD i (0, 0)).1) := hc0
    have hc1 : cb[i * 2 + 1]? = some (.int .i64 (C.getD i (0, 0)).2) := hc1
    rw [hy] at hc0 hc1
    have hy2 : C[i] = y := by
      rw [List.getD_eq_getElem?_getD, List.getElem?_eq_getElem hlt] at hy
      exact hy
    have hsC : C.take i ++ y :: C.drop (i + 1) = C := by
      rw [← hy2, ← List.drop_eq_getElem_cons hlt, List.take_append_drop]
    have hne : ∀ b ∈ C.take i, b.1 ≠ y.1 := fun b hb => by
      have h1 := hpC b (List.mem_of_mem_take hb)
      have hs2 := hsrC
      rw [← hsC] at hs2
      have := (srt_app hs2).2.2 b hb y (by simp)
      omega
    simp only [e22, e21, e12, d1, p0, p1, Int.toNat_natCast, hg1, rg, hc0, ↓DD, UU, ↓reduceIte, xA, xB, xC, xD, xE, xF, xG, xH, xI, xJ, xK, xL, xM, xN, xO, xP, xQ, ne_eq, eq_self]
    refine callT_of (c_mat (pre := C.take i) (post := C.drop (i + 1)) (y := y) (by rw [hsC]; exact hmd5) (by rw [hsC]; omega) rfl hne (by rw [hsC]; exact hS)) ?_
    rintro v H' ⟨rfl, hS⟩
    rw [hsC] at hS
    have hg1 := hS.lk 2 (b := zb) (o := .cells cb 43 (0, 0)) (by rw [hg]; rfl)
    simp only [e22, e21, e12, ↓DD, UU, ↓reduceIte, xA, xB, xC, xD, xE, xF, xG, xH, xI, xJ, xK, xL, xM, xN, xO, xP, xQ, ne_eq, eq_self]
    refine newB_intro fun xx hxx f9 f0 => ?_
    have nzx := f9 zb (by rw [hg1]; rfl)
    have nxz := f0 zb (by rw [hg1]; rfl)
    have hS := hS.new f9 (.cells #[.int .i64 y.1, .int .i64 y.2] 52 (0, 0))
    have hxx1 := hS.look
    have rxx := fun o => rd_of hxx1 o
    have hg1 := hS.lk 3 (b := zb) (o := .cells cb 43 (0, 0)) (by rw [hg]; rfl)
    have rg := fun o => rd_of hg1 o
    have k3 : (y.2 != y.2) = false := by simp
    simp only [Ev.upd_upd, e22, e21, e12, d1, p0, p1, Int.toNat_natCast, hg1, rg, hc1, hxx1, rxx, nzx, nxz, k3, wrap_w64, wi, ↓DD, UU, ↓reduceIte, xA, xB, xC, xD, xE, xF, xG, xH, xI, xJ, xK, xL, xM, xN, xO, xP, xQ, ne_eq, eq_self]
    exact ⟨⟨i + 1, hlt, by simp [gt], by simp [gt, e21], by simp [gt, e12], hS.tail⟩, by simp [gt, iv, e22]; omega⟩
  have d1 : decide ((i : Int) < (C.length : Int)) = false := decide_eq_false (by omega)
  simp only [e22, e21, e12, d1, ↓DD, UU, ↓reduceIte, xA, xB, xC, xD, xE, xF, xG, xH, xI, xJ, xK, xL, xM, xN, xO, xP, xQ, ne_eq, eq_self]
  exact hS.tail.tail.tail.tail.tail.tail.p1.tail.p1.tail.p1.tail
end
theorem l_takeapart {W : World} {a : Option Addr} {n cap : Nat} {ws : Nat → Int} (p q m : Int) (hp : -9223372036854775808 ≤ p ∧ p ≤ 9223372036854775807) (hq : -9223372036854775808 ≤ q ∧ q ≤ 9223372036854775807) (hm : -9223372036854775808 ≤ m ∧ m ≤ 9223372036854775807)
    (hn : n ≤ 9223372036854775807) (hr : RowU (memOf W) a n ws) (hU : ∀ i, i < n → IntKind.u64.has (ws i)) (c n1 n2 : Int) (hc : -9223372036854775808 ≤ c ∧ c ≤ 9223372036854775807) (h1 : -9223372036854775808 ≤ n1 ∧ n1 ≤ 9223372036854775807) (h2 : -9223372036854775808 ≤ n2 ∧ n2 ≤ 9223372036854775807) :
    CallP Tryz.prog W 3 #[.agg #[.int .i64 p, .int .i64 q, .int .i64 m], .slice a n cap, .agg #[.int .i64 c, .int .i64 n1, .int .i64 n2]] (memOf W) fun v H' => v = .bool true ∧ Sub (memOf W) H' :=
  (c_takeapart ⟨p, q, m⟩ c n1 n2 hr (fun i hi => u64_bd (hU i hi)) (Sep.one _)).mono fun v H' ⟨h1, h2⟩ => ⟨h1, h2.head⟩
end Go.Proofs.YtlolfghimbcoaaaGreat
