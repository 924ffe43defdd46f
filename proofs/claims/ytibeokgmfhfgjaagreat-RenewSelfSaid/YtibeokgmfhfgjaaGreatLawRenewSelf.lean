/-
  RenewSelf, walked: one renews the only block again and again. Conditions: none.
-/
import Derived.Test.YtibeokgmfhfgjaaGreatCodeAllotmentlaw17
import Derived.Test.YtibeokgmfhfgjaaGreatRenew
import Derived.Test.YtibeokgmfhfgjaaGreatRowV
import Derived.Test.YtibeokgmfhfgjaaGreatSoundA
import Derived.Test.YtibeokgmfhfgjaaGreatAlt
import Derived.Test.YtibeokgmfhfgjaaGreatMaSo
open Nat renaming reduceAdd → xA, reduceMul → xB, reduceSub → xC, reduceEqDiff → xD, reduceBEq → xE, reduceLeDiff → xF, reduceLT → xG
open Int renaming reduceAdd → xH, reduceMul → xI, reduceSub → xJ, reduceLT → xK, reduceLE → xL, reduceToNat → xM, reduceEq → xN, reduceNe → xO, reduceBEq → xP, reduceBNe → xQ
set_option linter.unusedVariables false
set_option linter.unusedSimpArgs false
set_option maxRecDepth 8000
namespace Go.Ev
theorem Sep.fr {X L Y : List Hp} {H : Hp} (h : Sep (X ++ (L ++ Y)) H) : Sep (L ++ (X ++ Y)) H := h.perm (List.perm_append_comm_assoc X L Y)
end Go.Ev
namespace Go.Proofs.YtibeokgmfhfgjaaGreat
open Go Go.Ev Go.Pl Go.Ma
/-- The blank heap. -/
def sfS (P : Int) : Sh := ⟨P, 1, 0⟩
def sfW (P : Int) : Wd := rowW (1 + 17 * P).toNat (fun _ => 0)
def sfR (P : Int) (i : Nat) : Rv × Wd := its Rv.step i (Rv.new ⟨P, 1, 0⟩ 0 8 0) (sfW P)
theorem sf_zero (P : Int) (j : Nat) : (sfW P).ws j = 0 := by
  show (if _ then (0 : Int) else 0) = 0
  split <;> rfl
theorem sf_may {P : Int} (h : 17 ≤ P ∧ P ≤ 24) : may P 1 0 = true := (may_iff _ _ _).2 (by omega)
theorem sf_n {P : Int} (h : 17 ≤ P ∧ P ≤ 24) : words P 1 0 = ((1 + 17 * P).toNat : Nat) := by
  unfold words; rw [if_pos (sf_may h)]; omega
theorem sf_dn {P : Int} (h : 17 ≤ P ∧ P ≤ 24) : (sfR P 100).1.dn = true := by
  rcases (by omega : P = 17 ∨ P = 18 ∨ P = 19 ∨ P = 20 ∨ P = 21 ∨ P = 22 ∨ P = 23 ∨ P = 24) with e | e | e | e | e | e | e | e <;> (subst e; decide +kernel)
theorem sf_of {P : Int} (h : 17 ≤ P ∧ P ≤ 24) : (sfW P).of (sfS P) := ⟨(sf_n h).symm, fun i => by rw [sf_zero]; exact U_0⟩
theorem sf_al {P : Int} (h : 17 ≤ P ∧ P ≤ 24) : ∀ i, (sfR P i).1.Al (sfS P) (sfW P).ws 0 8 0 (sfR P i).2 ∧ (sfR P i).1.wf ∧ (sfR P i).1.of (sfS P) 0 ∧ (sfR P i).2.of (sfS P)
  | 0 => ⟨Rv.Al.init (s := sfS P) (sf_may h) (sf_of h) (Int.le_refl _) (by show (0 : Int) < 1; decide) (Int.le_refl _) (by show 0 < P; omega) (Re.blank_snd (s := sfS P) (sf_may h) (sf_zero P)).1, Rv.new_wf (sfS P) 0 8 0, Rv.new_of (sfS P) 0 8 0, sf_of h⟩
  | i + 1 => by
    obtain ⟨h1, h2, h3, h4⟩ := sf_al h i
    exact ⟨h1.step, Rv.step_wf h2, Rv.step_ofs h2 h3, Rv.step_of h2 h4⟩
theorem sf_fd {P : Int} (h : 17 ≤ P ∧ P ≤ 24) {i : Nat} (hd : (sfR P i).1.dn = true) : (sfR P i).1.fd = true :=
  (sf_al h i).1.fin hd (by decide) fun m hm => ⟨0, Int.le_refl _, by rw [hm]; show (0 : Int) + 1 ≤ P; omega, fun q q0 q1 => .inl (by
    have : pgAt (sfS P) (sfW P).ws q = 0 := sf_zero P _
    rw [this]; exact pgK_zero ..)⟩
theorem sf_shp {v : Rv} {w : Wd} {s : Sh} (ho : v.of s 0) (hw : w.of s) (hd : v.dn = false) : w.of v.shp := by
  cases v with
  | sk t => rw [show (Rv.sk t).shp = t.s from rfl, ho.1]; exact hw
  | rn t => rw [show (Rv.rn t).shp = t.s from rfl, ho.1]; exact hw
  | no => cases hd
theorem sf_bk {b : Bk} {s : Sh} {c : Int} (hm : s.p ≤ 64) (h : b.Fit s c) (hl : b.lg = true → b.i = 0) (hn : b.lg = false → b.n = 0) : (0 ≤ b.p ∧ b.p ≤ 64) ∧ (0 ≤ b.i ∧ b.i ≤ 64) ∧ (0 ≤ b.n ∧ b.n ≤ 64) := by
  have p0 := h.p0
  have p1 := h.p1
  cases e : b.lg
  · have h1 := h.s e
    have sb := slots_bd b.k
    have := hn e
    exact ⟨by omega, by omega, by omega⟩
  · have h1 := h.l e
    have := hl e
    exact ⟨by omega, by omega, by omega⟩
theorem sf_rvbk (v : Rv) : (v.bk.lg = true → v.bk.i = 0) ∧ (v.bk.lg = false → v.bk.n = 0) := by
  cases v with
  | no => exact ⟨fun _ => rfl, fun _ => rfl⟩
  | sk t => cases hf : t.fd <;> simp [Rv.bk, hf, Bk.zero]
  | rn t => cases hf : t.fd <;> simp [Rv.bk, hf, Bk.zero]
section
variable {W : World} {H h : Hp} {l : List Hp} {n cap : Nat} {a : Option Addr} {S : Nat → Int}
def sfI1 (P : Int) (n cap : Nat) (a : Option Addr) (x b s k k2 : Nat) (L : List Hp) (F' : Fr) (H' : Hp) : Prop :=
  ∃ (i kn : Nat), i ≤ 100 ∧ gt F' 8 = .int .i64 (i : Int) ∧ (gt F' 1 = .slice a n cap ∧ gt F' 5 = .pointer (some ⟨x, 0, none⟩) ∧ gt F' 6 = .pointer (some ⟨b, 0, none⟩) ∧ gt F' 7 = .pointer (some ⟨k, 0, none⟩)) ∧
    Sep (rvB k k2 (sfR P i).1 :: rvA k2 kn (sfR P i).1 :: rvN kn (sfR P i).1 :: wB b s (sfR P i).2 :: wR s (sfR P i).2 :: L) H'
def sfI2 (P : Int) (n cap : Nat) (a : Option Addr) (x b s : Nat) (h : Hp) (l : List Hp) (F' : Fr) (H' : Hp) : Prop :=
  ∃ (i : Nat) (A M : Int) (w : Wd), i ≤ n ∧ gt F' 14 = .int .i64 (i : Int) ∧ (gt F' 1 = .slice a n cap ∧ gt F' 5 = .pointer (some ⟨x, 0, none⟩) ∧ gt F' 6 = .pointer (some ⟨b, 0, none⟩) ∧ gt F' 12 = .int .i64 A ∧ gt F' 13 = .int .i64 M) ∧
    Re.Self (sfS P) w.ws A M ∧ w.of (sfS P) ∧ Sep (wB b s w :: wR s w :: sg x (.cells #[.int .i64 P, .int .i64 1, .int .i64 0] 25 (0, 0)) :: h :: l) H'
def sfI3 (P : Int) (n cap : Nat) (a : Option Addr) (x b s i : Nat) (A M X : Int) (ws0 : Nat → Int) (k kr k2 kg : Nat) (h : Hp) (l : List Hp) (F' : Fr) (H' : Hp) : Prop :=
  ∃ (j : Int) (t : Re) (w : Wd) (kn kp km : Nat), 0 ≤ j ∧ j ≤ 70 * P + 80 ∧ gt F' 17 = .int .i64 j ∧ (gt F' 1 = .slice a n cap ∧ gt F' 5 = .pointer (some ⟨x, 0, none⟩) ∧ gt F' 6 = .pointer (some ⟨b, 0, none⟩) ∧ gt F' 12 = .int .i64 A ∧ gt F' 13 = .int .i64 M) ∧
    (gt F' 14 = .int .i64 (i : Int) ∧ gt F' 15 = .int .i64 X ∧ gt F' 16 = .pointer (some ⟨k, 0, none⟩)) ∧ t.Al (sfS P) ws0 0 A X ((i : Int) % P) w ∧ t.left ≤ max 0 (70 * P + 80 - j) ∧
    Sep (reL k kr k2 kn kg kp km t ++ wB b s w :: wR s w :: sg x (.cells #[.int .i64 P, .int .i64 1, .int .i64 0] 25 (0, 0)) :: h :: l) H'
theorem sf_ok {P A M X : Int} {ws : Nat → Int} (h : 17 ≤ P ∧ P ≤ 24) (hs : Re.Self (sfS P) ws A M) (hx : fine X = true) : Re.ok (sfS P) 0 A X = true ∧ 0 ≤ A ∧ A ≤ P * 64 ∧ 0 ≤ M ∧ M ≤ 256 := by
  have hm : may (sfS P).p (sfS P).c (sfS P).m = true := sf_may h
  have hin : (A, M) ∈ blks (sfS P) ws (sfS P).p.toNat := by rw [hs.bl]; exact List.mem_singleton.2 rfl
  obtain ⟨p, hp, hz⟩ := blks_mem.1 hin
  have hpp : (p : Int) < (sfS P).p := by
    have h0 : 0 ≤ (sfS P).p := by show 0 ≤ P; omega
    omega
  have h1 : (p : Int) * 64 ≤ A ∧ A < (p : Int) * 64 + 64 := blkPg_in hz
  have h2 := blkPg_pos hm hs.snd hpp hz
  have h3 : 1 ≤ M := h2.1
  have h4 : A + M ≤ P * 64 := h2.2.1
  refine ⟨?_, by omega, by omega, by omega, hs.m4⟩
  have hst : status P 1 0 0 = 0 := status_yes (sf_may h) (Int.le_refl _) (by decide)
  have hth : there P 1 0 A = true := by unfold there; rw [sf_may h, (win_iff ..).2 (by omega)]; rfl
  show (there P 1 0 A && fine X && decide (0 ≤ status P 1 0 0)) = true
  rw [hth, hx, hst]; rfl
theorem c_renewself {g0 : Int} (hg0 : 0 ≤ g0) (hg1 : g0 ≤ 255) (hr : RowV h a n (fun i => .int .u16 (S i))) (hb : ∀ i, i < n → 0 ≤ S i ∧ S i ≤ 65535) (hnn : n ≤ 9223372036854775807) (hS : Sep (h :: l) H) :
    CallP Tryz.prog W 3 #[.int .u8 g0, .slice a n cap] H fun v H' => v = .bool true ∧ Sep (h :: l) H' := by
  refine CallP.of mixed Tryz.func3 tr3 (by show 2 ≤ _; decide) fun W _ => ?_
  simp only [↓DD, UU, ↓reduceIte, xA, xB, xC, xD, xE, xF, xG, xH, xI, xJ, xK, xL, xM, xN, xO, xP, xQ, ne_eq, eq_self]
  refine callT_of (c_awake17 hS) ?_
  rintro v H' ⟨rfl, hS⟩
  simp only [↓DD, UU, ↓reduceIte, xA, xB, xC, xD, xE, xF, xG, xH, xI, xJ, xK, xL, xM, xN, xO, xP, xQ, ne_eq, eq_self]
  by_cases hbig : (12 : Int) < (n : Int)
  · have d2 : decide ((12 : Int) < (n : Int)) = true := decide_eq_true hbig
    simp only [d2, ↓DD, UU, ↓reduceIte, xA, xB, xC, xD, xE, xF, xG, xH, xI, xJ, xK, xL, xM, xN, xO, xP, xQ, ne_eq, eq_self]
    exact hS
  have d2 : decide ((12 : Int) < (n : Int)) = false := decide_eq_false hbig
  have eg0 : w64 g0 = g0 := w64_eq (by omega) (by omega)
  have et0 : g0.tmod 8 = g0 % 8 := Int.tmod_eq_emod_of_nonneg hg0
  have wq : w64 (g0 % 8) = g0 % 8 := w64_eq (by omega) (by omega)
  have wm : w64 (17 + g0 % 8) = 17 + g0 % 8 := w64_eq (by omega) (by omega)
  obtain ⟨P, hP⟩ : ∃ P, 17 + g0 % 8 = P := ⟨_, rfl⟩
  have hPb : 17 ≤ P ∧ P ≤ 24 := by omega
  rw [hP] at wm
  simp only [d2, wrap_w64, eg0, et0, wq, hP, wm, ↓DD, UU, ↓reduceIte, xA, xB, xC, xD, xE, xF, xG, xH, xI, xJ, xK, xL, xM, xN, xO, xP, xQ, ne_eq, eq_self]
  refine newB_intro fun x hx f3 f4 => ?_
  have hS := hS.new f3 (.cells #[.int .i64 0, .int .i64 0, .int .i64 0] 25 (0, 0))
  have hS := hS.set (.cells #[.int .i64 P, .int .i64 1, .int .i64 0] 25 (0, 0))
  rw [Ev.upd_upd] at hS
  have hx1 := hS.look
  have r1 := fun o n => rdn_of hx1 o n
  have hmay := sf_may hPb
  obtain ⟨N, hN⟩ : ∃ N : Nat, (1 + 17 * P).toNat = N := ⟨_, rfl⟩
  have hNw : words P 1 0 = (N : Int) := by rw [← hN]; exact sf_n hPb
  have hN2 : N ≤ 2000 := by omega
  have n0 : (0 : Int) ≤ (N : Int) := by omega
  have n8 : 8 * (N : Int) ≤ 281474976710656 := by omega
  have n9 : (N : Int) ≤ 9223372036854775807 := by omega
  have nle : (N : Int) ≤ (N : Int) := Int.le_refl _
  simp only [Ev.upd_upd, hx1, r1, u_words, hNw, n0, n8, n9, nle, Int.toNat_natCast, ↓DD, UU, ↓reduceIte, xA, xB, xC, xD, xE, xF, xG, xH, xI, xJ, xK, xL, xM, xN, xO, xP, xQ, ne_eq, eq_self]
  refine newB_intro fun y hy f5 f6 => ?_
  have hS := hS.new f5 (.cells (urow N fun _ => 0) 53 (0, 0))
  simp only [urow_zero, ↓DD, UU, ↓reduceIte, xA, xB, xC, xD, xE, xF, xG, xH, xI, xJ, xK, xL, xM, xN, xO, xP, xQ, ne_eq, eq_self]
  refine callT_of (c_fill (n := N) hN2 (RowU.own y N _ _ _) hS) ?_
  rintro v H' ⟨b, s, rfl, hS⟩
  have hx1 := hS.lk 3 rfl
  have r1 := fun o n => rdn_of hx1 o n
  simp only [hx1, r1, ↓DD, UU, ↓reduceIte, xA, xB, xC, xD, xE, xF, xG, xH, xI, xJ, xK, xL, xM, xN, xO, xP, xQ, ne_eq, eq_self]
  refine callT_of (c_rvnew (sh := ⟨P, 1, 0⟩) (c := 0) (n := 8) (f := 0) hS) ?_
  rintro v H' ⟨k, k2, kn, rfl, hS⟩
  simp only [↓DD, UU, ↓reduceIte, xA, xB, xC, xD, xE, xF, xG, xH, xI, xJ, xK, xL, xM, xN, xO, xP, xQ, ne_eq, eq_self]
  have hw0 : rowW N (fun _ => (0 : Int)) = sfW P := by unfold sfW; rw [hN]
  rw [hw0] at hS
  refine loop_intro (sfI1 P n cap a x b s k k2 (sg y (.cells (urow N fun _ => 0) 53 (0, 0)) :: sg x (.cells #[.int .i64 P, .int .i64 1, .int .i64 0] 25 (0, 0)) :: h :: l)) (fun F' _ => (200 - iv (gt F' 8)).toNat)
    ⟨0, kn, by omega, by simp [gt], ⟨by simp [gt], by simp [gt], by simp [gt], by simp [gt]⟩, hS⟩ ?_
  clear hS hx1 r1
  rintro F' H' ⟨i, kn, hi, e8, ⟨e1, e5, e6, e7⟩, hS⟩
  obtain ⟨al, awf, aof, aw⟩ := sf_al hPb i
  have hlt : (i : Int) < 200 := by omega
  have d1 : decide ((i : Int) < 200) = true := decide_eq_true hlt
  simp only [e8, e1, e5, e6, e7, d1, ↓DD, UU, ↓reduceIte, xA, xB, xC, xD, xE, xF, xG, xH, xI, xJ, xK, xL, xM, xN, xO, xP, xQ, ne_eq, eq_self]
  refine callT_of (c_rvdone hS) ?_
  rintro v H' ⟨rfl, hS⟩
  cases hdn : (sfR P i).1.dn
  · have hi2 : i < 100 := by
      rcases Nat.lt_or_ge i 100 with g | g
      · exact g
      · rw [show i = 100 by omega, sf_dn hPb] at hdn; cases hdn
    simp only [e8, e1, e5, e6, e7, hdn, ↓DD, UU, ↓reduceIte, xA, xB, xC, xD, xE, xF, xG, xH, xI, xJ, xK, xL, xM, xN, xO, xP, xQ, ne_eq, eq_self]
    refine callT_of (c_rvstep awf (fun hd => sf_shp aof aw hd) hS) ?_
    rintro v H' ⟨rfl, kn2, hS⟩
    have wi : w64 ((i : Int) + 1) = (i : Int) + 1 := w64_eq (by omega) (by omega)
    simp only [e8, e1, e5, e6, e7, wrap_w64, wi, ↓DD, UU, ↓reduceIte, xA, xB, xC, xD, xE, xF, xG, xH, xI, xJ, xK, xL, xM, xN, xO, xP, xQ, ne_eq, eq_self]
    exact ⟨⟨i + 1, kn2, by omega, by simp [gt], ⟨by simp [gt, e1], by simp [gt, e5], by simp [gt, e6], by simp [gt, e7]⟩, hS⟩, by simp [gt, iv, e8]; omega⟩
  have hfd := sf_fd hPb hdn
  obtain ⟨hgot, hlen⟩ := al.got hdn hfd
  have hbk := sf_bk (s := sfS P) (by show P ≤ 64; omega) hgot.res.f (sf_rvbk _).1 (sf_rvbk _).2
  simp only [e8, e1, e5, e6, e7, hdn, ↓DD, UU, ↓reduceIte, xA, xB, xC, xD, xE, xF, xG, xH, xI, xJ, xK, xL, xM, xN, xO, xP, xQ, ne_eq, eq_self]
  refine callT_of (c_rvfound hS) ?_
  rintro v H' ⟨rfl, hS⟩
  obtain ⟨B, hB⟩ : ∃ B, (sfR P i).1.bk = B := ⟨_, rfl⟩
  rw [hB] at hgot hlen hbk
  simp only [e8, e1, e5, e6, e7, hfd, hB, bkV, ↓DD, UU, ↓reduceIte, xA, xB, xC, xD, xE, xF, xG, xH, xI, xJ, xK, xL, xM, xN, xO, xP, xQ, ne_eq, eq_self]
  have hS := hS.tail.tail.tail
  obtain ⟨w, hw⟩ : ∃ w, (sfR P i).2 = w := ⟨_, rfl⟩
  rw [hw] at hS hgot aw
  have hx1 := hS.lk 3 rfl
  refine newB_intro fun q hq f7 f8 => ?_
  have nxq : (x = q) = False := f7 x (by rw [hx1]; rfl)
  have nqx : (q = x) = False := f8 x (by rw [hx1]; rfl)
  have hS := (hS.new f7 (.cells #[.bool B.lg, .int .i64 B.p, .int .i64 B.i, .int .i64 B.k, .int .i64 B.n] 34 (0, 0)))
  have hx1 := hS.lk 4 rfl
  have r1 := fun o n => rdn_of hx1 o n
  have hq1 := hS.look
  have rq := fun o n => rdn_of hq1 o n
  simp only [Ev.upd_upd, e1, e5, e6, e7, hx1, r1, hq1, rq, nxq, nqx, ↓DD, UU, ↓reduceIte, xA, xB, xC, xD, xE, xF, xG, xH, xI, xJ, xK, xL, xM, xN, xO, xP, xQ, ne_eq, eq_self]
  refine callT_of (c_cmnew (sh := ⟨P, 1, 0⟩) (c := 0) (B := B) hS) ?_
  rintro v H' ⟨kc, rfl, hS⟩
  obtain ⟨cd, cs, cw⟩ := Cm.one hgot.res
  simp only [e1, e5, e6, e7, ↓DD, UU, ↓reduceIte, xA, xB, xC, xD, xE, xF, xG, xH, xI, xJ, xK, xL, xM, xN, xO, xP, xQ, ne_eq, eq_self]
  refine callT_of (c_cmstep (t := Cm.new (sfS P) 0 B) (w := w) (Cm.new_wf (sfS P) 0 B) (fun _ => aw) hS.p3.p3.p2) ?_
  rintro v H' ⟨rfl, hS⟩
  have hS := hS.tail
  obtain ⟨w1, hw1⟩ : ∃ w1, ((Cm.new (sfS P) 0 B).step w).2 = w1 := ⟨_, rfl⟩
  rw [hw1] at hS cw
  have aw1 : w1.of (sfS P) := by rw [← hw1]; exact Cm.step_of aw
  have hq1 := hS.lk 2 rfl
  have rq := fun o n => rdn_of hq1 o n
  refine draw_intro [(q, #[.bool B.lg, .int .i64 B.p, .int .i64 B.i, .int .i64 B.k, .int .i64 B.n], [])] (by simp only [hq1, ↓DD, UU, ↓reduceIte, xA, xB, xC, xD, xE, xF, xG, xH, xI, xJ, xK, xL, xM, xN, xO, xP, xQ, ne_eq, eq_self]) ?_
  simp only [e1, e5, e6, e7, hq1, rq, ↓DD, UU, ↓reduceIte, xA, xB, xC, xD, xE, xF, xG, xH, xI, xJ, xK, xL, xM, xN, xO, xP, xQ, ne_eq, eq_self]
  refine callT_of (c_bkat (B := B) hbk.1 hbk.2.1 hS) ?_
  rintro v H' ⟨rfl, hS⟩
  have hq1 := hS.lk 2 rfl
  have rq := fun o n => rdn_of hq1 o n
  simp only [e1, e5, e6, e7, hq1, rq, ↓DD, UU, ↓reduceIte, xA, xB, xC, xD, xE, xF, xG, xH, xI, xJ, xK, xL, xM, xN, xO, xP, xQ, ne_eq, eq_self]
  refine callT_of (c_bklen (B := B) hbk.2.2 hS) ?_
  rintro v H' ⟨rfl, hS⟩
  have hq1 := hS.lk 2 rfl
  simp only [e1, e5, e6, e7, hq1, ↓DD, UU, ↓reduceIte, xA, xB, xC, xD, xE, xF, xG, xH, xI, xJ, xK, xL, xM, xN, xO, xP, xQ, ne_eq, eq_self]
  have hself := Re.Self.first (s := sfS P) (n := 8) (sf_may hPb) (sf_zero P) hgot hlen (by decide)
  rw [← cw] at hself
  refine loop_intro (sfI2 P n cap a x b s h l) (fun F' _ => (n - iv (gt F' 14)).toNat)
    ⟨0, _, _, w1, by omega, by simp [gt], ⟨by simp [gt, e1], by simp [gt, e5], by simp [gt, e6], by simp [gt], by simp [gt]⟩, hself, aw1, hS.p2.tail.p2.tail⟩ ?_
  clear hS hself cw cs cd hgot hlen hbk hB hw hw1 aw aw1 hdn hfd hi hlt d1 e8 e1 e5 e6 e7 al awf aof hx1 hq1 rq r1
  rintro F' H' ⟨i, A, M, w, hi, e14, ⟨e1, e5, e6, e12, e13⟩, hself, aw, hS⟩
  by_cases hlt : (i : Int) < (n : Int)
  · have d1 : decide ((i : Int) < (n : Int)) = true := decide_eq_true hlt
    obtain ⟨c1, o1, rfl, hrd⟩ := (hr.sub (hS.sb h (by simp))).at' (i := i) (by omega)
    have hrd : rd H' c1 (o1 + i) = some (.int .u16 (S i)) := hrd
    have hSb := hb i (by omega)
    have z0 : w64 (S i) = S i := w64_eq (by omega) (by omega)
    have z1 : (S i).tmod 256 = S i % 256 := Int.tmod_eq_emod_of_nonneg hSb.1
    have z2 : w64 (S i % 256) = S i % 256 := w64_eq (by omega) (by omega)
    have z3 : w64 (1 + S i % 256) = 1 + S i % 256 := w64_eq (by omega) (by omega)
    have z4 : (i : Int).tmod P = (i : Int) % P := Int.tmod_eq_emod_of_nonneg (by omega)
    have hmb : 0 ≤ (i : Int) % P ∧ (i : Int) % P < P := ⟨Int.emod_nonneg _ (by omega), Int.emod_lt_of_pos _ (by omega)⟩
    have z5 : w64 ((i : Int) % P) = (i : Int) % P := w64_eq (by omega) (by omega)
    have z6 : (P == 0) = false := by simp; omega
    have i0 : (0 : Int) ≤ (i : Int) := by omega
    obtain ⟨X, hX⟩ : ∃ X, 1 + S i % 256 = X := ⟨_, rfl⟩
    have hXb : 1 ≤ X ∧ X ≤ 256 := by omega
    have hfx : fine X = true := by unfold fine small large; simp only [Bool.or_eq_true, win_iff]; omega
    have hx1 := hS.lk 2 rfl
    have r1 := fun o n => rdn_of hx1 o n
    have rx := fun o => rd_of hx1 o
    rw [hX] at z3
    simp only [e14, e1, e5, e6, e12, e13, d1, hlt, i0, Int.toNat_natCast, hrd, wrap_w64, z0, z1, z2, hX, z3, ↓DD, UU, ↓reduceIte, xA, xB, xC, xD, xE, xF, xG, xH, xI, xJ, xK, xL, xM, xN, xO, xP, xQ, ne_eq, eq_self]
    refine draw_intro [(x, #[.int .i64 P, .int .i64 1, .int .i64 0], [])] (by simp only [hx1, ↓DD, UU, ↓reduceIte, xA, xB, xC, xD, xE, xF, xG, xH, xI, xJ, xK, xL, xM, xN, xO, xP, xQ, ne_eq, eq_self]) ?_
    simp only [e14, e1, e5, e6, e12, e13, hx1, r1, rx, wrap_w64, z4, z5, z6, ↓DD, UU, ↓reduceIte, xA, xB, xC, xD, xE, xF, xG, xH, xI, xJ, xK, xL, xM, xN, xO, xP, xQ, ne_eq, eq_self]
    refine ⟨by omega, ?_⟩
    refine callT_of (c_renew (sh := ⟨P, 1, 0⟩) (c := 0) (a := A) (n := X) (f := (i : Int) % P) hS) ?_
    rintro v H' ⟨k, kr, k2, kn, kg, kp, km, rfl, hS⟩
    have hx1 := hS.offL.lk 2 rfl
    simp only [e14, e1, e5, e6, e12, e13, hx1, ↓DD, UU, ↓reduceIte, xA, xB, xC, xD, xE, xF, xG, xH, xI, xJ, xK, xL, xM, xN, xO, xP, xQ, ne_eq, eq_self]
    obtain ⟨hok, hA0, hA1, hM0, hM1⟩ := sf_ok hPb hself hfx
    have hal := Re.Al.init (s := sfS P) (c := 0) (a := A) (n := X) (f := (i : Int) % P) (sf_may hPb) aw (Int.le_refl _) (by show (0 : Int) < 1; decide) hmb.1 hmb.2 hself.snd hok
    have hle := Re.new_left (sfS P) 0 A X ((i : Int) % P) (sf_may hPb)
    have hle : (Re.new (sfS P) 0 A X ((i : Int) % P)).left ≤ 2 * 0 + 70 * P + 80 := hle
    refine loop_intro (sfI3 P n cap (some ⟨c1, o1, none⟩) x b s i A M X w.ws k kr k2 kg h l) (fun F' _ => (70 * P + 80 - iv (gt F' 17)).toNat)
      ⟨0, _, w, kn, kp, km, Int.le_refl _, by omega, by simp [gt], ⟨by simp [gt, e1], by simp [gt, e5], by simp [gt, e6], by simp [gt, e12], by simp [gt, e13]⟩, ⟨by simp [gt, e14], by simp [gt], by simp [gt]⟩, hal, by omega, hS⟩ ?_
    clear hS hal hle hx1 r1 rx hrd d1 e14 e1 e5 e6 e12 e13 aw
    rintro F' H' ⟨j, t, w', kn, kp, km, j0, j1, e17, ⟨e1, e5, e6, e12, e13⟩, ⟨e14, e15, e16⟩, hal, hl, hS⟩
    have aw := hal.of
    have hx1 := hS.offL.lk 2 rfl
    have rx := fun o => rd_of hx1 o
    have m0 : w64 0 = 0 := by decide
    have m1 : w64 (80 * P) = 80 * P := w64_eq (by omega) (by omega)
    have m2 : w64 (0 + 80 * P) = 80 * P := by rw [Int.zero_add]; exact m1
    have m3 : w64 (80 * P + 130) = 80 * P + 130 := w64_eq (by omega) (by omega)
    have d3 : decide (j < 80 * P + 130) = true := decide_eq_true (by omega)
    simp only [e17, e14, e15, e16, e1, e5, e6, e12, e13, hx1, rx, wrap_w64, m0, m1, m2, m3, d3, ↓DD, UU, ↓reduceIte, xA, xB, xC, xD, xE, xF, xG, xH, xI, xJ, xK, xL, xM, xN, xO, xP, xQ, ne_eq, eq_self]
    refine callT_of (c_redone' (t := t) hS) ?_
    rintro v H' ⟨rfl, hS⟩
    cases hdn : t.dn
    · have hj : j < 70 * P + 80 := by
        rcases Int.lt_or_le j (70 * P + 80) with g | g
        · exact g
        · rw [Re.left_dn hal.wf (by omega)] at hdn; cases hdn
      simp only [e17, e14, e15, e16, e1, e5, e6, e12, e13, hdn, ↓DD, UU, ↓reduceIte, xA, xB, xC, xD, xE, xF, xG, xH, xI, xJ, xK, xL, xM, xN, xO, xP, xQ, ne_eq, eq_self]
      refine callT_of (c_restep hal.wf (fun _ => by rw [hal.es.1]; exact aw) hS) ?_
      rintro v H' ⟨rfl, kn2, kp2, km2, hS⟩
      have hl2 := Re.left_step (m := 70 * P + 80 - j) hal.wf (by rw [hal.es.1]; exact aw) (w := w') hl
      have wi : w64 (j + 1) = j + 1 := w64_eq (by omega) (by omega)
      simp only [e17, e14, e15, e16, e1, e5, e6, e12, e13, wrap_w64, wi, ↓DD, UU, ↓reduceIte, xA, xB, xC, xD, xE, xF, xG, xH, xI, xJ, xK, xL, xM, xN, xO, xP, xQ, ne_eq, eq_self]
      exact ⟨⟨j + 1, _, _, kn2, kp2, km2, by omega, by omega, by simp [gt], ⟨by simp [gt, e1], by simp [gt, e5], by simp [gt, e6], by simp [gt, e12], by simp [gt, e13]⟩, ⟨by simp [gt, e14], by simp [gt, e15], by simp [gt, e16]⟩, hal.step, by omega, hS⟩, by simp [gt, iv, e17]; omega⟩
    obtain ⟨he, hrf, hlen, hself2, hap⟩ := hself.ends (by show 17 ≤ P; omega) rfl hfx hXb.2 hal hdn
    simp only [e17, e14, e15, e16, e1, e5, e6, e12, e13, hdn, ↓DD, UU, ↓reduceIte, xA, xB, xC, xD, xE, xF, xG, xH, xI, xJ, xK, xL, xM, xN, xO, xP, xQ, ne_eq, eq_self]
    refine callT_of (c_refound hal.wf hS) ?_
    rintro v H' ⟨rfl, hS⟩
    have hfd : t.fd = true := by unfold Re.fd; rw [hdn, he, hrf]; rfl
    have hbk : t.bk = t.rv.bk := by unfold Re.bk; rw [hdn, he]; rfl
    obtain ⟨B, hB⟩ : ∃ B, t.rv.bk = B := ⟨_, rfl⟩
    rw [hB] at hbk hlen hself2 hap
    simp only [e17, e14, e15, e16, e1, e5, e6, e12, e13, hfd, hbk, bkV, ↓DD, UU, ↓reduceIte, xA, xB, xC, xD, xE, xF, xG, xH, xI, xJ, xK, xL, xM, xN, xO, xP, xQ, ne_eq, eq_self]
    have hx1 := hS.offL.lk 2 rfl
    refine newB_intro fun q hq f7 f8 => ?_
    have nxq : (x = q) = False := f7 x (by rw [hx1]; rfl)
    have nqx : (q = x) = False := f8 x (by rw [hx1]; rfl)
    have hS := (hS.new f7 (.cells #[.bool B.lg, .int .i64 B.p, .int .i64 B.i, .int .i64 B.k, .int .i64 B.n] 34 (0, 0)))
    obtain ⟨LA, hLA⟩ : ∃ LA, LA = reL k kr k2 kn kg kp km t := ⟨_, rfl⟩
    obtain ⟨T, hT⟩ : ∃ T, T = (sg x (.cells #[.int .i64 P, .int .i64 1, .int .i64 0] 25 (0, 0)) :: h :: l) := ⟨_, rfl⟩
    obtain ⟨Q, hQ⟩ : ∃ Q, Q = sg q (.cells #[.bool B.lg, .int .i64 B.p, .int .i64 B.i, .int .i64 B.k, .int .i64 B.n] 34 (0, 0)) := ⟨_, rfl⟩
    rw [← hLA, ← hQ, ← hT] at hS
    have hS : Sep (wB b s w' :: wR s w' :: Q :: (LA ++ T)) _ := Sep.fr (X := Q :: LA) (L := [wB b s w', wR s w']) (Y := T) hS
    have lx : ∀ Z : Hp, Sep (LA ++ T) Z → Z x = some (.cells #[.int .i64 P, .int .i64 1, .int .i64 0] 25 (0, 0)) := fun Z g => by
      have g2 := g.offL
      rw [hT] at g2
      exact g2.lk 0 rfl
    have hwn : w'.n ≤ 2000 := by have := aw.n; have h9 : words (sfS P).p (sfS P).c (sfS P).m = ((1 + 17 * P).toNat : Nat) := sf_n hPb; omega
    have hx1 := lx _ hS.tail.tail.tail
    have r1 := fun o n => rdn_of hx1 o n
    simp only [Ev.upd_upd, e17, e14, e15, e16, e1, e5, e6, e12, e13, u_length, hfx, hx1, nxq, nqx, ↓DD, UU, ↓reduceIte, xA, xB, xC, xD, xE, xF, xG, xH, xI, xJ, xK, xL, xM, xN, xO, xP, xQ, ne_eq, eq_self]
    refine draw_intro [(x, #[.int .i64 P, .int .i64 1, .int .i64 0], [])] (by simp only [hx1, nxq, nqx, ↓DD, UU, ↓reduceIte, xA, xB, xC, xD, xE, xF, xG, xH, xI, xJ, xK, xL, xM, xN, xO, xP, xQ, ne_eq, eq_self]) ?_
    simp only [e17, e14, e15, e16, e1, e5, e6, e12, e13, hx1, r1, ↓DD, UU, ↓reduceIte, xA, xB, xC, xD, xE, xF, xG, xH, xI, xJ, xK, xL, xM, xN, xO, xP, xQ, ne_eq, eq_self]
    refine callT_of (c_all (w := w') hwn hS) ?_
    rintro v H' ⟨a3, cap3, h3, rfl, hr3, hS⟩
    have hx1 := lx _ hS.tail.tail.tail.tail
    have r1 := fun o n => rdn_of hx1 o n
    simp only [e17, e14, e15, e16, e1, e5, e6, e12, e13, hx1, r1, ↓DD, UU, ↓reduceIte, xA, xB, xC, xD, xE, xF, xG, xH, xI, xJ, xK, xL, xM, xN, xO, xP, xQ, ne_eq, eq_self]
    have hnW : ((w'.n : Nat) : Int) = words (sfS P).p (sfS P).c (sfS P).m := by rw [aw.n]
    refine callT_of (c_blocks (sh := sfS P) (sf_may hPb) hnW hr3 (fun i _ => aw.u i) hS) ?_
    rintro v H' ⟨ba, bc, g, rfl, hBL, hS⟩
    rw [hself2.bl] at hBL ⊢
    have hBL2 : BsV ba 1 bc (fun j => ([(B.ad, len X)] : List (Int × Int)).getD j (0, 0)) g := hBL
    rcases hBL2 with ⟨-, g1, -⟩ | ⟨zb, cb, rfl, hgz, -, hcs, hce⟩
    · cases g1
    have hce := hce 0 (by decide)
    have hc0 : cb[0]? = some (.int .i64 B.ad) := hce.1
    have hc1 : cb[1]? = some (.int .i64 (len X)) := hce.2
    rw [hgz, hQ] at hS
    have hx1 := lx _ hS.tail.tail.tail.tail.tail
    simp only [e17, e14, e15, e16, e1, e5, e6, e12, e13, hx1, ↓DD, UU, ↓reduceIte, xA, xB, xC, xD, xE, xF, xG, xH, xI, xJ, xK, xL, xM, xN, xO, xP, xQ, ne_eq, eq_self]
    obtain ⟨-, hB0, hB1, hL0, hL1⟩ := sf_ok hPb hself2 hfx
    have v1 : w64 (A + M) = A + M := w64_eq (by omega) (by omega)
    have v2 : w64 (B.ad + len X) = B.ad + len X := w64_eq (by omega) (by omega)
    have k0 : ((0 : Int) != 0) = false := rfl
    have k1 : (len X != len X) = false := by simp
    have k2 : (B.ad != B.ad) = false := by simp
    have k3 : ((1 : Int) != 1) = false := rfl
    have o0 : (0 : Int) < ((1 : Nat) : Int) := by decide
    have hFit : B.Fit (sfS P) 0 := by
      cases hal.ph with
      | won _ _ _ _ _ _ hg => rw [← hB]; exact hg.got.res.f
      | rv _ g => rw [hdn] at g; cases g
      | gv _ g => rw [hdn] at g; cases g
      | cm _ g => rw [hdn] at g; cases g
      | uo _ _ g => rw [hdn] at g; cases g
      | lost _ g => rw [he] at g; cases g
      | none _ g => rw [he] at g; cases g
    have hbd := sf_bk (s := sfS P) (by show P ≤ 64; omega) hFit (by rw [← hB]; exact (sf_rvbk _).1) (by rw [← hB]; exact (sf_rvbk _).2)
    have hq1 := hS.lk 4 rfl
    have hg1 := hS.lk 0 rfl
    have rq := fun o n => rdn_of hq1 o n
    have rg := fun o => rd_of hg1 o
    have nzq := hS.neq 0 4 (by decide) rfl rfl
    have nqz := hS.qen 0 4 (by decide) rfl rfl
    refine draw_intro [(q, #[.bool B.lg, .int .i64 B.p, .int .i64 B.i, .int .i64 B.k, .int .i64 B.n], []), (zb, cb, [])] (by simp only [hq1, hg1, ↓DD, UU, ↓reduceIte, xA, xB, xC, xD, xE, xF, xG, xH, xI, xJ, xK, xL, xM, xN, xO, xP, xQ, ne_eq, eq_self]) ?_
    simp only [e17, e14, e15, e16, e1, e5, e6, e12, e13, ↓DD, UU, ↓reduceIte, xA, xB, xC, xD, xE, xF, xG, xH, xI, xJ, xK, xL, xM, xN, xO, xP, xQ, ne_eq, eq_self]
    refine callT_of (c_redone' (t := t) (by rw [← hLA]; exact Sep.fr (X := [sg zb _, h3, wB b s w', wR s w', sg q _]) (L := LA) (Y := T) hS)) ?_
    rintro v H' ⟨rfl, hS⟩
    rw [← hLA] at hS
    have hS : Sep (sg zb _ :: h3 :: wB b s w' :: wR s w' :: sg q _ :: (LA ++ T)) _ := Sep.fr (X := LA) (L := [sg zb _, h3, wB b s w', wR s w', sg q _]) (Y := T) hS
    have hq1 := hS.lk 4 rfl
    have hg1 := hS.lk 0 rfl
    simp only [e17, e14, e15, e16, e1, e5, e6, e12, e13, hq1, hg1, hdn, ↓DD, UU, ↓reduceIte, xA, xB, xC, xD, xE, xF, xG, xH, xI, xJ, xK, xL, xM, xN, xO, xP, xQ, ne_eq, eq_self]
    refine callT_of (c_reerr' (t := t) (by rw [← hLA]; exact Sep.fr (X := [sg zb _, h3, wB b s w', wR s w', sg q _]) (L := LA) (Y := T) hS)) ?_
    rintro v H' ⟨rfl, hS⟩
    rw [← hLA] at hS
    have hS : Sep (sg zb _ :: h3 :: wB b s w' :: wR s w' :: sg q _ :: (LA ++ T)) _ := Sep.fr (X := LA) (L := [sg zb _, h3, wB b s w', wR s w', sg q _]) (Y := T) hS
    have hq1 := hS.lk 4 rfl
    have hg1 := hS.lk 0 rfl
    have rq := fun o n => rdn_of hq1 o n
    simp only [e17, e14, e15, e16, e1, e5, e6, e12, e13, hq1, hg1, rq, he, k0, ↓DD, UU, ↓reduceIte, xA, xB, xC, xD, xE, xF, xG, xH, xI, xJ, xK, xL, xM, xN, xO, xP, xQ, ne_eq, eq_self]
    refine callT_of (c_bklen (B := B) hbd.2.2 hS) ?_
    rintro v H' ⟨rfl, hS⟩
    have hq1 := hS.lk 4 rfl
    have hg1 := hS.lk 0 rfl
    have rq := fun o n => rdn_of hq1 o n
    simp only [e17, e14, e15, e16, e1, e5, e6, e12, e13, hq1, hg1, rq, hlen, k1, wrap_w64, v1, ↓DD, UU, ↓reduceIte, xA, xB, xC, xD, xE, xF, xG, xH, xI, xJ, xK, xL, xM, xN, xO, xP, xQ, ne_eq, eq_self]
    refine callT_of (c_bkat (B := B) hbd.1 hbd.2.1 hS) ?_
    rintro v H' ⟨rfl, hS⟩
    have hq1 := hS.lk 4 rfl
    have hg1 := hS.lk 0 rfl
    have rq := fun o n => rdn_of hq1 o n
    have rg := fun o => rd_of hg1 o
    by_cases hov : B.ad < A + M
    · have d5 : decide (B.ad < A + M) = true := decide_eq_true hov
      simp only [e17, e14, e15, e16, e1, e5, e6, e12, e13, hq1, hg1, rq, d5, ↓DD, UU, ↓reduceIte, xA, xB, xC, xD, xE, xF, xG, xH, xI, xJ, xK, xL, xM, xN, xO, xP, xQ, ne_eq, eq_self]
      refine callT_of (c_bkat (B := B) hbd.1 hbd.2.1 hS) ?_
      rintro v H' ⟨rfl, hS⟩
      have hq1 := hS.lk 4 rfl
      have hg1 := hS.lk 0 rfl
      have rq := fun o n => rdn_of hq1 o n
      have rg := fun o => rd_of hg1 o
      have d6 : decide (A < B.ad + len X) = false := decide_eq_false (by omega)
      simp only [e17, e14, e15, e16, e1, e5, e6, e12, e13, hq1, hg1, rq, rg, hc0, hc1, o0, nzq, nqz, k3, wrap_w64, v2, d6, ↓DD, UU, ↓reduceIte, xA, xB, xC, xD, xE, xF, xG, xH, xI, xJ, xK, xL, xM, xN, xO, xP, xQ, ne_eq, eq_self]
      refine callT_of (c_bkat (B := B) hbd.1 hbd.2.1 hS) ?_
      rintro v H' ⟨rfl, hS⟩
      have hq1 := hS.lk 4 rfl
      have hg1 := hS.lk 0 rfl
      have rq := fun o n => rdn_of hq1 o n
      have rg := fun o => rd_of hg1 o
      simp only [e17, e14, e15, e16, e1, e5, e6, e12, e13, hq1, hg1, rq, rg, hc0, hc1, o0, nzq, nqz, k2, k1, ↓DD, UU, ↓reduceIte, xA, xB, xC, xD, xE, xF, xG, xH, xI, xJ, xK, xL, xM, xN, xO, xP, xQ, ne_eq, eq_self]
      refine callT_of (c_bkat (B := B) hbd.1 hbd.2.1 hS) ?_
      rintro v H' ⟨rfl, hS⟩
      have wi : w64 ((i : Int) + 1) = (i : Int) + 1 := w64_eq (by omega) (by omega)
      simp only [e17, e14, e15, e16, e1, e5, e6, e12, e13, wrap_w64, wi, ↓DD, UU, ↓reduceIte, xA, xB, xC, xD, xE, xF, xG, xH, xI, xJ, xK, xL, xM, xN, xO, xP, xQ, ne_eq, eq_self]
      have hS := hS.tail.tail
      have hS := (Sep.fr (X := [wB b s w', wR s w', sg q _]) (L := LA) (Y := T) hS).offL.p2.tail
      rw [hT] at hS
      exact ⟨⟨i + 1, B.ad, len X, w', by omega, by simp [gt], ⟨by simp [gt, e1], by simp [gt, e5], by simp [gt, e6], by simp [gt], by simp [gt]⟩, hself2, aw, hS⟩, by simp [gt, iv, e14]; omega⟩
    · have d5 : decide (B.ad < A + M) = false := decide_eq_false hov
      simp only [e17, e14, e15, e16, e1, e5, e6, e12, e13, hq1, hg1, rq, rg, hc0, hc1, o0, nzq, nqz, k3, d5, ↓DD, UU, ↓reduceIte, xA, xB, xC, xD, xE, xF, xG, xH, xI, xJ, xK, xL, xM, xN, xO, xP, xQ, ne_eq, eq_self]
      refine callT_of (c_bkat (B := B) hbd.1 hbd.2.1 hS) ?_
      rintro v H' ⟨rfl, hS⟩
      have hq1 := hS.lk 4 rfl
      have hg1 := hS.lk 0 rfl
      have rq := fun o n => rdn_of hq1 o n
      have rg := fun o => rd_of hg1 o
      simp only [e17, e14, e15, e16, e1, e5, e6, e12, e13, hq1, hg1, rq, rg, hc0, hc1, o0, nzq, nqz, k2, k1, ↓DD, UU, ↓reduceIte, xA, xB, xC, xD, xE, xF, xG, xH, xI, xJ, xK, xL, xM, xN, xO, xP, xQ, ne_eq, eq_self]
      refine callT_of (c_bkat (B := B) hbd.1 hbd.2.1 hS) ?_
      rintro v H' ⟨rfl, hS⟩
      have wi : w64 ((i : Int) + 1) = (i : Int) + 1 := w64_eq (by omega) (by omega)
      simp only [e17, e14, e15, e16, e1, e5, e6, e12, e13, wrap_w64, wi, ↓DD, UU, ↓reduceIte, xA, xB, xC, xD, xE, xF, xG, xH, xI, xJ, xK, xL, xM, xN, xO, xP, xQ, ne_eq, eq_self]
      have hS := hS.tail.tail
      have hS := (Sep.fr (X := [wB b s w', wR s w', sg q _]) (L := LA) (Y := T) hS).offL.p2.tail
      rw [hT] at hS
      exact ⟨⟨i + 1, B.ad, len X, w', by omega, by simp [gt], ⟨by simp [gt, e1], by simp [gt, e5], by simp [gt, e6], by simp [gt], by simp [gt]⟩, hself2, aw, hS⟩, by simp [gt, iv, e14]; omega⟩
  have d1 : decide ((i : Int) < (n : Int)) = false := decide_eq_false hlt
  have hx1 := hS.lk 2 rfl
  have r1 := fun o n => rdn_of hx1 o n
  simp only [e14, e1, e5, e6, e12, e13, d1, ↓DD, UU, ↓reduceIte, xA, xB, xC, xD, xE, xF, xG, xH, xI, xJ, xK, xL, xM, xN, xO, xP, xQ, ne_eq, eq_self]
  refine draw_intro [(x, #[.int .i64 P, .int .i64 1, .int .i64 0], [])] (by simp only [hx1, ↓DD, UU, ↓reduceIte, xA, xB, xC, xD, xE, xF, xG, xH, xI, xJ, xK, xL, xM, xN, xO, xP, xQ, ne_eq, eq_self]) ?_
  simp only [e14, e1, e5, e6, e12, e13, hx1, r1, ↓DD, UU, ↓reduceIte, xA, xB, xC, xD, xE, xF, xG, xH, xI, xJ, xK, xL, xM, xN, xO, xP, xQ, ne_eq, eq_self]
  have hwn : w.n ≤ 2000 := by have := aw.n; have h9 : words (sfS P).p (sfS P).c (sfS P).m = ((1 + 17 * P).toNat : Nat) := sf_n hPb; omega
  refine callT_of (c_all (w := w) hwn hS) ?_
  rintro v H' ⟨a3, cap3, h3, rfl, hr3, hS⟩
  have hx1 := hS.lk 3 rfl
  have r1 := fun o n => rdn_of hx1 o n
  simp only [e14, e1, e5, e6, e12, e13, hx1, r1, ↓DD, UU, ↓reduceIte, xA, xB, xC, xD, xE, xF, xG, xH, xI, xJ, xK, xL, xM, xN, xO, xP, xQ, ne_eq, eq_self]
  have hnW : ((w.n : Nat) : Int) = words (sfS P).p (sfS P).c (sfS P).m := by rw [aw.n]
  refine callT_of (c_soundV (sh := sfS P) (sf_may hPb) hnW hr3 (fun i _ => aw.u i) hS) ?_
  rintro v H' ⟨sb, rfl, hsb, hS⟩
  have hsb := hsb.2 hself.snd
  subst hsb
  have hx1 := hS.lk 3 rfl
  simp only [e14, e1, e5, e6, e12, e13, hx1, ↓DD, UU, ↓reduceIte, xA, xB, xC, xD, xE, xF, xG, xH, xI, xJ, xK, xL, xM, xN, xO, xP, xQ, ne_eq, eq_self]
  exact hS.tail.tail.tail.tail
end
theorem l_renewself {W : World} {n cap : Nat} {a : Option Addr} {S : Nat → Int} (g0 : Int) (h0 : 0 ≤ g0 ∧ g0 ≤ 255) (hn : n ≤ 9223372036854775807) (hr : RowV (memOf W) a n (fun i => .int .u16 (S i))) (hu : ∀ i, i < n → IntKind.u16.has (S i)) :
    CallP Tryz.prog W 3 #[.int .u8 g0, .slice a n cap] (memOf W) fun v H' => v = .bool true ∧ Sub (memOf W) H' :=
  (c_renewself h0.1 h0.2 hr (fun i hi => u16_bd (hu i hi)) hn (Sep.one _)).mono fun v H' ⟨h1, h2⟩ => ⟨h1, h2.head⟩
end Go.Proofs.YtibeokgmfhfgjaaGreat
