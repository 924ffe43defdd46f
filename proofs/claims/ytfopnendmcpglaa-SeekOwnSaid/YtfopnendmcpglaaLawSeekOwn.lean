/-
  SeekOwn, walked: who has a slot of the class in its magazine takes that, with nothing else looked at. Conditions: none.
-/
import Derived.Test.YtfopnendmcpglaaCodeAllotmentlaw13
import Derived.Test.YtfopnendmcpglaaSeekK
import Derived.Test.YtfopnendmcpglaaMaSeekOwn
import Derived.Test.YtfopnendmcpglaaRowV
set_option linter.unusedVariables false
set_option linter.unusedSectionVars false
set_option linter.unusedSimpArgs false
set_option maxRecDepth 8000
namespace Go.Proofs.Ytfopnendmcpglaa
open Go Go.Ev Go.Pl Go.Ma

theorem so_shr (v : Int) : Int.fdiv v (2 ^ min 6 IntKind.u8.bits) = v / 64 := by
  rw [show min 6 IntKind.u8.bits = 6 from rfl, Int.fdiv_eq_ediv_of_nonneg v (by decide)]; rfl
/-- The entries' classes and slots. -/
def soE (ks : Nat → Int) (j : Int) : Int := ks j.toNat % 5
def soBt (ks : Nat → Int) (j : Int) : Int := ks j.toNat / 64 % 2
/-- The least one of the class, from i on. -/
def AtI (E : Int → Int) (k : Int) (n i at' : Int) : Prop := (at' = -1 ∧ ∀ j, i ≤ j → j < n → E j ≠ k) ∨ (i ≤ at' ∧ at' < n ∧ E at' = k ∧ ∀ j, i ≤ j → j < at' → E j ≠ k)
section
variable {W : World} {H h : Hp} {l : List Hp} {m cap : Nat} {a : Option Addr} {ks : Nat → Int}
def soG (cl fi : Int) (m cap n : Nat) (a : Option Addr) (x : Nat) (K : Int) (F' : Fr) : Prop :=
  gt F' 0 = .slice a m cap ∧ gt F' 1 = .int .u8 cl ∧ gt F' 2 = .int .u8 fi ∧ gt F' 7 = .int .i64 (n : Int) ∧ gt F' 8 = .int .i64 K ∧ gt F' 9 = .pointer (some ⟨x, 0, none⟩)
def soA (E B : Int → Int) (cl fi : Int) (m cap n N : Nat) (a : Option Addr) (x y : Nat) (K : Int) (L : List Hp) (F' : Fr) (H' : Hp) : Prop :=
  ∃ (i : Nat) (f : Nat → Int) (at' : Int), i ≤ n ∧ gt F' 12 = .int .i64 ((i : Int) - 1) ∧ gt F' 11 = .int .i64 at' ∧ gt F' 10 = .slice (some ⟨y, 0, none⟩) N N ∧ soG cl fi m cap n a x K F' ∧
    (∀ j : Nat, j < N → f j = if 69 + i ≤ j then Sk.ownV E B ((j : Int) - 69) else 0) ∧ AtI E K n i at' ∧ Sep (sg y (.cells (urow N f) 46 (0, 0)) :: L) H'
def soI (E B : Int → Int) (cl fi : Int) (m cap n : Nat) (a : Option Addr) (x b k s : Nat) (K at' : Int) (L : List Hp) (F' : Fr) (H' : Hp) : Prop :=
  ∃ (i kn : Nat) (t : Sk) (w : Wd), i ≤ 500 ∧ gt F' 16 = .int .i64 (i : Int) ∧ gt F' 14 = .pointer (some ⟨b, 0, none⟩) ∧ gt F' 15 = .pointer (some ⟨k, 0, none⟩) ∧ gt F' 11 = .int .i64 at' ∧ soG cl fi m cap n a x K F' ∧
    Sk.One n K (fi % 4) E B t w ∧ t.left ≤ max 0 ((500 : Int) - (i : Int)) ∧ Sep (skB k kn t :: nwB kn t.nw :: wB b s w :: wR s w :: L) H'
set_option maxHeartbeats 8000000 in
theorem c_seekown {cl fi : Int} (hcl : 0 ≤ cl ∧ cl ≤ 255) (hfi : 0 ≤ fi ∧ fi ≤ 255) (hm : m ≤ 9223372036854775807) (hr : RowV h a m (fun i => .int .u8 (ks i))) (hks : ∀ i, i < m → 0 ≤ ks i ∧ ks i ≤ 255) (hS : Sep (h :: l) H) :
    CallP Try.prog W 9 #[.slice a m cap, .int .u8 cl, .int .u8 fi] H fun v H' => v = .bool true ∧ Sep (h :: l) H' := by
  refine CallP.of mixed Try.func9 tr9 (by show 3 ≤ _; decide) fun W _ => ?_
  simp only [↓D0, ↓D1, ↓D2, ↓D3, ↓D4, ↓D5, ↓D6, ↓D7, ↓D8, ↓D9, ↓D10, U0, U1, U2, U3, U4, U5, U6, U7, U8, U9, U10, ↓reduceIte, Nat.reduceAdd, Nat.reduceMul, Nat.reduceSub, Nat.reduceEqDiff, Nat.reduceBEq, Nat.reduceLeDiff, Nat.reduceLT, Int.reduceAdd, Int.reduceMul, Int.reduceSub, Int.reduceLT, Int.reduceLE, Int.reduceToNat, Int.reduceEq, Int.reduceNe, Int.reduceBEq, Int.reduceBNe, ne_eq, eq_self]
  refine callT_of (c_awake13 hS) ?_
  rintro v H' ⟨rfl, hS⟩
  obtain ⟨n, hn, hn8, hnm⟩ : ∃ n : Nat, (if (8 : Int) < (m : Int) then (8 : Int) else (m : Int)) = (n : Int) ∧ n ≤ 8 ∧ n ≤ m := by
    by_cases h8 : (8 : Int) < (m : Int)
    · exact ⟨8, if_pos h8, by omega, by omega⟩
    · exact ⟨m, if_neg h8, by omega, by omega⟩
  have ec : w64 cl = cl := w64_eq (by omega) (by omega)
  have et : cl.tmod 4 = cl % 4 := Int.tmod_eq_emod_of_nonneg hcl.1
  have ef : w64 fi = fi := w64_eq (by omega) (by omega)
  have eft : fi.tmod 4 = fi % 4 := Int.tmod_eq_emod_of_nonneg hfi.1
  obtain ⟨K, hK⟩ : ∃ K, cl % 4 = K := ⟨_, rfl⟩
  have hKb : 0 ≤ K ∧ K < 4 := by omega
  simp only [hn, wrap_w64, ec, et, hK, ↓D0, ↓D1, ↓D2, ↓D3, ↓D4, ↓D5, ↓D6, ↓D7, ↓D8, ↓D9, ↓D10, U0, U1, U2, U3, U4, U5, U6, U7, U8, U9, U10, ↓reduceIte, Nat.reduceAdd, Nat.reduceMul, Nat.reduceSub, Nat.reduceEqDiff, Nat.reduceBEq, Nat.reduceLeDiff, Nat.reduceLT, Int.reduceAdd, Int.reduceMul, Int.reduceSub, Int.reduceLT, Int.reduceLE, Int.reduceToNat, Int.reduceEq, Int.reduceNe, Int.reduceBEq, Int.reduceBNe, ne_eq, eq_self]
  refine newB_intro fun x hx f1 f2 => ?_
  have hS := hS.new f1 (.cells #[.int .i64 0, .int .i64 0, .int .i64 0] 23 (0, 0))
  have hS := hS.set (.cells #[.int .i64 4, .int .i64 1, .int .i64 (n : Int)] 23 (0, 0))
  rw [Ev.upd_upd] at hS
  have hx1 := hS.look
  have r1 := fun o n => rdn_of hx1 o n
  have hmay : may 4 1 (n : Int) = true := Sk.ok4 (by omega)
  obtain ⟨N, hN⟩ : ∃ N : Nat, 69 + n = N := ⟨_, rfl⟩
  have hNw : words 4 1 (n : Int) = (N : Int) := by unfold words; rw [if_pos hmay]; omega
  simp only [Ev.upd_upd, hx1, r1, ↓D0, ↓D1, ↓D2, ↓D3, ↓D4, ↓D5, ↓D6, ↓D7, ↓D8, ↓D9, ↓D10, U0, U1, U2, U3, U4, U5, U6, U7, U8, U9, U10, ↓reduceIte, Nat.reduceAdd, Nat.reduceMul, Nat.reduceSub, Nat.reduceEqDiff, Nat.reduceBEq, Nat.reduceLeDiff, Nat.reduceLT, Int.reduceAdd, Int.reduceMul, Int.reduceSub, Int.reduceLT, Int.reduceLE, Int.reduceToNat, Int.reduceEq, Int.reduceNe, Int.reduceBEq, Int.reduceBNe, ne_eq, eq_self]
  refine callT_of (c_blank (sh := ⟨4, 1, n⟩) hNw (by omega) hS) ?_
  rintro v H' ⟨y, rfl, hS⟩
  have wn1 : w64 ((n : Int) - 1) = (n : Int) - 1 := w64_eq (by omega) (by omega)
  simp only [wrap_w64, wn1, ↓D0, ↓D1, ↓D2, ↓D3, ↓D4, ↓D5, ↓D6, ↓D7, ↓D8, ↓D9, ↓D10, U0, U1, U2, U3, U4, U5, U6, U7, U8, U9, U10, ↓reduceIte, Nat.reduceAdd, Nat.reduceMul, Nat.reduceSub, Nat.reduceEqDiff, Nat.reduceBEq, Nat.reduceLeDiff, Nat.reduceLT, Int.reduceAdd, Int.reduceMul, Int.reduceSub, Int.reduceLT, Int.reduceLE, Int.reduceToNat, Int.reduceEq, Int.reduceNe, Int.reduceBEq, Int.reduceBNe, ne_eq, eq_self]
  obtain ⟨E, hE⟩ : ∃ E, E = soE ks := ⟨_, rfl⟩
  obtain ⟨B, hB⟩ : ∃ B, B = soBt ks := ⟨_, rfl⟩
  have hEB : ∀ j, 0 ≤ E j ∧ E j ≤ 4 ∧ 0 ≤ B j ∧ B j ≤ 1 := fun j => by rw [hE, hB]; unfold soE soBt; omega
  refine loop_intro (soA E B cl fi m cap n N a x y K (sg x (.cells #[.int .i64 4, .int .i64 1, .int .i64 (n : Int)] 23 (0, 0)) :: h :: l)) (fun F' _ => (iv (gt F' 12) + 1).toNat)
    ⟨n, fun _ => 0, -1, Nat.le_refl _, by simp [gt], by simp [gt], by simp [gt], ⟨by simp [gt], by simp [gt], by simp [gt], by simp [gt], by simp [gt], by simp [gt]⟩, fun j hj => by rw [if_neg (by omega)], .inl ⟨rfl, fun j j0 j1 => by omega⟩, hS⟩ ?_
  clear hS hx1 r1
  rintro F' H' ⟨i, f, at', hi, e12, e11, e10, ⟨e0, e1, e2, e7, e8, e9⟩, hf, hat, hS⟩
  by_cases h0 : (0 : Int) ≤ (i : Int) - 1
  · obtain ⟨i', rfl⟩ : ∃ i', i = i' + 1 := ⟨i - 1, by omega⟩
    have ei : ((i' + 1 : Nat) : Int) - 1 = (i' : Int) := by omega
    rw [ei] at e12
    have d1 : decide ((0 : Int) ≤ (i' : Int)) = true := decide_eq_true (by omega)
    have p0 : (0 : Int) ≤ (i' : Int) := by omega
    have p1 : (i' : Int) < (m : Int) := by omega
    have wi : w64 ((i' : Int) - 1) = (i' : Int) - 1 := w64_eq (by omega) (by omega)
    have hx1 := hS.lk 1 rfl
    have hy1 := hS.look
    have r1 := fun o n => rdn_of hx1 o n
    rcases hr with hr0 | ⟨eb, eo, rfl, hq⟩
    · omega
    obtain ⟨c, T, fc, hc, hco, hfar⟩ := part_cell hS 2 rfl (hq i' (by omega))
    obtain ⟨m1, m2⟩ := hfar 1 x _ (by decide) rfl
    obtain ⟨m3, m4⟩ := hfar 0 y _ (by decide) rfl
    have hkv := hks i' (by omega)
    have r2 := fun o => rd_of hc o
    have nyx := hS.neq 0 1 (by decide) rfl rfl
    have nxy := hS.qen 0 1 (by decide) rfl rfl
    have we : w64 (ks i') = ks i' := w64_eq (by omega) (by omega)
    have te : (ks i').tmod 5 = ks i' % 5 := Int.tmod_eq_emod_of_nonneg hkv.1
    have hEi : ks i' % 5 = E i' := by rw [hE]; unfold soE; rw [Int.toNat_natCast]
    have ws : w64 (ks i' / 64) = ks i' / 64 := w64_eq (by omega) (by omega)
    have ts : (ks i' / 64).tmod 2 = ks i' / 64 % 2 := Int.tmod_eq_emod_of_nonneg (by omega)
    have hBi : ks i' / 64 % 2 = B i' := by rw [hB]; unfold soBt; rw [Int.toNat_natCast]
    have ti : (i' : Int).tmod 4 = (i' : Int) % 4 := Int.tmod_eq_emod_of_nonneg p0
    have hmg : mag 4 1 (n : Int) 0 (i' : Int) = 69 + (i' : Int) := by
      rw [mag_yes hmay (by decide) (by decide) p0 (by omega)]; omega
    have q0 : (0 : Int) ≤ 69 + (i' : Int) := by omega
    have q1 : 69 + (i' : Int) < (N : Int) := by omega
    have q2 : (69 + (i' : Int)).toNat = 69 + i' := by omega
    have q3 : 69 + i' < N := by omega
    have hEb := hEB i'
    have hat2 : ∀ b : Bool, b = (E i' == K) → AtI E K n i' (if b then (i' : Int) else at') := fun b hb => by
      by_cases e : E i' = K
      · have : b = true := by rw [hb]; exact beq_iff_eq.2 e
        rw [this]
        exact .inr ⟨Int.le_refl _, by show (i' : Int) < n; omega, e, fun j j0 j1 => by have j1 : j < (i' : Int) := j1; omega⟩
      · have : b = false := by rw [hb]; exact beq_eq_false_iff_ne.2 e
        rw [this]
        rcases hat with ⟨rfl, hno⟩ | ⟨a0, a1, a2, a3⟩
        · refine .inl ⟨rfl, fun j j0 j1 => ?_⟩
          by_cases ej : j = i'
          · subst ej; exact e
          · exact hno j (by omega) j1
        · refine .inr ⟨by show (i' : Int) ≤ at'; omega, a1, a2, fun j j0 j1 => ?_⟩
          by_cases ej : j = i'
          · subst ej; exact e
          · exact a3 j (by omega) j1
    have hf0 : ¬ E i' < 4 → ∀ j : Nat, j < N → f j = if 69 + i' ≤ j then Sk.ownV E B ((j : Int) - 69) else 0 := fun h4 j hj => by
      rw [hf j hj]
      by_cases ej : j = 69 + i'
      · rw [if_neg (by omega), if_pos (by omega)]
        have : (j : Int) - 69 = i' := by omega
        rw [this]; unfold Sk.ownV; rw [if_neg h4]
      · by_cases h : 69 + (i' + 1) ≤ j
        · rw [if_pos h, if_pos (by omega)]
        · rw [if_neg h, if_neg (by omega)]
    have hf1 : E i' < 4 → ∀ j : Nat, j < N → (if j = 69 + i' then putEn ((i' : Int) % 4) (B i') (E i') else f j) = if 69 + i' ≤ j then Sk.ownV E B ((j : Int) - 69) else 0 := fun h4 j hj => by
      by_cases ej : j = 69 + i'
      · rw [if_pos ej, if_pos (by omega)]
        have : (j : Int) - 69 = i' := by omega
        rw [this]; unfold Sk.ownV; rw [if_pos h4]
      · rw [if_neg ej, hf j hj]
        by_cases h : 69 + (i' + 1) ≤ j
        · rw [if_pos h, if_pos (by omega)]
        · rw [if_neg h, if_neg (by omega)]
    by_cases h4 : E i' < 4
    · have d4 : decide (E i' < 4) = true := decide_eq_true h4
      have hS3 := hS.set (.cells (urow N (fun j => if j = 69 + i' then putEn ((i' : Int) % 4) (B i') (E i') else f j)) 46 (0, 0))
      cases eK : (E i' == K)
      all_goals
        have hat3 := hat2 _ eK.symm
        simp only [if_true, Bool.false_eq_true, if_false] at hat3
        simp only [e12, e11, e10, e0, e1, e2, e7, e8, e9, d1, p0, p1, Int.toNat_natCast, r2, hco, wrap_w64, we, te, hEi, d4, ↓D0, ↓D1, ↓D2, ↓D3, ↓D4, ↓D5, ↓D6, ↓D7, ↓D8, ↓D9, ↓D10, U0, U1, U2, U3, U4, U5, U6, U7, U8, U9, U10, ↓reduceIte, Nat.reduceAdd, Nat.reduceMul, Nat.reduceSub, Nat.reduceEqDiff, Nat.reduceBEq, Nat.reduceLeDiff, Nat.reduceLT, Int.reduceAdd, Int.reduceMul, Int.reduceSub, Int.reduceLT, Int.reduceLE, Int.reduceToNat, Int.reduceEq, Int.reduceNe, Int.reduceBEq, Int.reduceBNe, ne_eq, eq_self]
        refine draw_intro [(x, #[.int .i64 4, .int .i64 1, .int .i64 (n : Int)], []), (eb, c, [])] (by simp only [hx1, hc, ↓D0, ↓D1, ↓D2, ↓D3, ↓D4, ↓D5, ↓D6, ↓D7, ↓D8, ↓D9, ↓D10, U0, U1, U2, U3, U4, U5, U6, U7, U8, U9, U10, ↓reduceIte, Nat.reduceAdd, Nat.reduceMul, Nat.reduceSub, Nat.reduceEqDiff, Nat.reduceBEq, Nat.reduceLeDiff, Nat.reduceLT, Int.reduceAdd, Int.reduceMul, Int.reduceSub, Int.reduceLT, Int.reduceLE, Int.reduceToNat, Int.reduceEq, Int.reduceNe, Int.reduceBEq, Int.reduceBNe, ne_eq, eq_self]) ?_
        simp only [e12, e11, e10, e0, e1, e2, e7, e8, e9, hx1, r1, hy1, p0, p1, Int.toNat_natCast, hc, r2, hco, m1, m2, so_shr, wrap_w64, we, ws, ts, hBi, ti, u_mag, u_puten, hmg, q0, q1, q2, q3, urow_size, urow_set, eK, wi, ↓D0, ↓D1, ↓D2, ↓D3, ↓D4, ↓D5, ↓D6, ↓D7, ↓D8, ↓D9, ↓D10, U0, U1, U2, U3, U4, U5, U6, U7, U8, U9, U10, ↓reduceIte, Nat.reduceAdd, Nat.reduceMul, Nat.reduceSub, Nat.reduceEqDiff, Nat.reduceBEq, Nat.reduceLeDiff, Nat.reduceLT, Int.reduceAdd, Int.reduceMul, Int.reduceSub, Int.reduceLT, Int.reduceLE, Int.reduceToNat, Int.reduceEq, Int.reduceNe, Int.reduceBEq, Int.reduceBNe, ne_eq, eq_self]
        exact ⟨⟨i', _, _, by omega, by simp [gt, wi], by simp [gt, e11], by simp [gt, e10], ⟨by simp [gt, e0], by simp [gt, e1], by simp [gt, e2], by simp [gt, e7], by simp [gt, e8], by simp [gt, e9]⟩, hf1 h4, hat3, hS3⟩, by simp [gt, iv, e12, wi]⟩
    · have d4 : decide (E i' < 4) = false := decide_eq_false h4
      cases eK : (E i' == K)
      all_goals
        have hat3 := hat2 _ eK.symm
        simp only [if_true, Bool.false_eq_true, if_false] at hat3
        simp only [e12, e11, e10, e0, e1, e2, e7, e8, e9, d1, p0, p1, Int.toNat_natCast, r2, hco, wrap_w64, we, te, hEi, d4, eK, wi, ↓D0, ↓D1, ↓D2, ↓D3, ↓D4, ↓D5, ↓D6, ↓D7, ↓D8, ↓D9, ↓D10, U0, U1, U2, U3, U4, U5, U6, U7, U8, U9, U10, ↓reduceIte, Nat.reduceAdd, Nat.reduceMul, Nat.reduceSub, Nat.reduceEqDiff, Nat.reduceBEq, Nat.reduceLeDiff, Nat.reduceLT, Int.reduceAdd, Int.reduceMul, Int.reduceSub, Int.reduceLT, Int.reduceLE, Int.reduceToNat, Int.reduceEq, Int.reduceNe, Int.reduceBEq, Int.reduceBNe, ne_eq, eq_self]
        exact ⟨⟨i', _, _, by omega, by simp [gt, wi], by simp [gt, e11], by simp [gt, e10], ⟨by simp [gt, e0], by simp [gt, e1], by simp [gt, e2], by simp [gt, e7], by simp [gt, e8], by simp [gt, e9]⟩, hf0 h4, hat3, hS⟩, by simp [gt, iv, e12, wi]⟩
  have d1 : decide ((0 : Int) ≤ (i : Int) - 1) = false := decide_eq_false h0
  have hi0 : i = 0 := by omega
  subst hi0
  simp only [e12, e11, e10, e0, e1, e2, e7, e8, e9, d1, ↓D0, ↓D1, ↓D2, ↓D3, ↓D4, ↓D5, ↓D6, ↓D7, ↓D8, ↓D9, ↓D10, U0, U1, U2, U3, U4, U5, U6, U7, U8, U9, U10, ↓reduceIte, Nat.reduceAdd, Nat.reduceMul, Nat.reduceSub, Nat.reduceEqDiff, Nat.reduceBEq, Nat.reduceLeDiff, Nat.reduceLT, Int.reduceAdd, Int.reduceMul, Int.reduceSub, Int.reduceLT, Int.reduceLE, Int.reduceToNat, Int.reduceEq, Int.reduceNe, Int.reduceBEq, Int.reduceBNe, ne_eq, eq_self]
  refine callT_of (c_fill (n := N) (by omega) (RowU.own y N _ _ _) hS) ?_
  rintro v H' ⟨b, s, rfl, hS⟩
  have hx1 := hS.lk 3 rfl
  have r1 := fun o n => rdn_of hx1 o n
  simp only [e12, e11, e10, e0, e1, e2, e7, e8, e9, hx1, r1, wrap_w64, ef, eft, ↓D0, ↓D1, ↓D2, ↓D3, ↓D4, ↓D5, ↓D6, ↓D7, ↓D8, ↓D9, ↓D10, U0, U1, U2, U3, U4, U5, U6, U7, U8, U9, U10, ↓reduceIte, Nat.reduceAdd, Nat.reduceMul, Nat.reduceSub, Nat.reduceEqDiff, Nat.reduceBEq, Nat.reduceLeDiff, Nat.reduceLT, Int.reduceAdd, Int.reduceMul, Int.reduceSub, Int.reduceLT, Int.reduceLE, Int.reduceToNat, Int.reduceEq, Int.reduceNe, Int.reduceBEq, Int.reduceBNe, ne_eq, eq_self]
  refine callT_of (c_sknew (sh := ⟨4, 1, n⟩) hS) ?_
  rintro v H' ⟨k, kn, rfl, hS⟩
  have hfU : ∀ i, i < N → U (f i) := fun i hi => by
    rw [hf i hi]
    split
    · unfold Sk.ownV; split
      · exact U_putEn ..
      · exact U_0
    · exact U_0
  have hof : (rowW N f).of ⟨4, 1, n⟩ := rowW_of hNw.symm hfU
  have hgo : ∀ j : Nat, j < N → (rowW N f).get (j : Int) = if 69 ≤ j then Sk.ownV E B ((j : Int) - 69) else 0 := fun j hj => by
    show (if (j : Int).toNat < N then f (j : Int).toNat else 0) = _
    rw [Int.toNat_natCast, if_pos hj, hf j hj]
  have hwok : Sk.Wok n E B (rowW N f) := by
    refine ⟨fun q q0 q1 => ?_, fun j j0 j1 => ?_⟩
    · have := hgo (1 + q).toNat (by omega)
      rw [if_neg (by omega), show (((1 + q).toNat : Nat) : Int) = 1 + q by omega] at this; exact this
    · have := hgo (69 + j).toNat (by omega)
      rw [if_pos (by omega), show (((69 + j).toNat : Nat) : Int) = 69 + j by omega, show 69 + j - 69 = j by omega] at this; exact this
  have hO := Sk.One.init (n := n) (k := K) (f := fi % 4) (by omega) hKb (by omega) hEB hof hwok rfl
  have hl0 := Sk.new_left ⟨4, 1, n⟩ 0 K (fi % 4) hmay
  have hl1 : (Sk.new ⟨4, 1, n⟩ 0 K (fi % 4)).left ≤ n + 316 := by
    have : (Sk.new ⟨4, 1, n⟩ 0 K (fi % 4)).left ≤ (n : Int) + 70 * 4 + 36 := hl0
    omega
  simp only [e12, e11, e10, e0, e1, e2, e7, e8, e9, ↓D0, ↓D1, ↓D2, ↓D3, ↓D4, ↓D5, ↓D6, ↓D7, ↓D8, ↓D9, ↓D10, U0, U1, U2, U3, U4, U5, U6, U7, U8, U9, U10, ↓reduceIte, Nat.reduceAdd, Nat.reduceMul, Nat.reduceSub, Nat.reduceEqDiff, Nat.reduceBEq, Nat.reduceLeDiff, Nat.reduceLT, Int.reduceAdd, Int.reduceMul, Int.reduceSub, Int.reduceLT, Int.reduceLE, Int.reduceToNat, Int.reduceEq, Int.reduceNe, Int.reduceBEq, Int.reduceBNe, ne_eq, eq_self]
  refine loop_intro (soI E B cl fi m cap n a x b k s K at' (sg y (.cells (urow N f) 46 (0, 0)) :: sg x (.cells #[.int .i64 4, .int .i64 1, .int .i64 (n : Int)] 23 (0, 0)) :: h :: l)) (fun F' _ => (500 - iv (gt F' 16)).toNat)
    ⟨0, kn, _, _, by decide, by simp [gt], by simp [gt], by simp [gt], by simp [gt, e11], ⟨by simp [gt, e0], by simp [gt, e1], by simp [gt, e2], by simp [gt, e7], by simp [gt, e8], by simp [gt, e9]⟩, hO, by omega, hS⟩ ?_
  clear hS hx1 r1 e12 e11 e10 e0 e1 e2 e7 e8 e9 hO hl0 hl1 hof hgo hwok
  rintro F' H' ⟨i, kn, t, w, hi, e16, e14, e15, e11, ⟨e0, e1, e2, e7, e8, e9⟩, hO, hl, hS⟩
  by_cases hlt : (i : Int) < 500
  · have d1 : decide ((i : Int) < 500) = true := decide_eq_true hlt
    have wi : w64 ((i : Int) + 1) = (i : Int) + 1 := w64_eq (by omega) (by omega)
    simp only [e16, e14, e15, d1, ↓D0, ↓D1, ↓D2, ↓D3, ↓D4, ↓D5, ↓D6, ↓D7, ↓D8, ↓D9, ↓D10, U0, U1, U2, U3, U4, U5, U6, U7, U8, U9, U10, ↓reduceIte, Nat.reduceAdd, Nat.reduceMul, Nat.reduceSub, Nat.reduceEqDiff, Nat.reduceBEq, Nat.reduceLeDiff, Nat.reduceLT, Int.reduceAdd, Int.reduceMul, Int.reduceSub, Int.reduceLT, Int.reduceLE, Int.reduceToNat, Int.reduceEq, Int.reduceNe, Int.reduceBEq, Int.reduceBNe, ne_eq, eq_self]
    refine callT_of (c_skstep hO.wf (fun _ => by rw [hO.s]; exact hO.of) hS) ?_
    rintro v H' ⟨rfl, kn2, hS⟩
    simp only [e16, e14, e15, wrap_w64, wi, ↓D0, ↓D1, ↓D2, ↓D3, ↓D4, ↓D5, ↓D6, ↓D7, ↓D8, ↓D9, ↓D10, U0, U1, U2, U3, U4, U5, U6, U7, U8, U9, U10, ↓reduceIte, Nat.reduceAdd, Nat.reduceMul, Nat.reduceSub, Nat.reduceEqDiff, Nat.reduceBEq, Nat.reduceLeDiff, Nat.reduceLT, Int.reduceAdd, Int.reduceMul, Int.reduceSub, Int.reduceLT, Int.reduceLE, Int.reduceToNat, Int.reduceEq, Int.reduceNe, Int.reduceBEq, Int.reduceBNe, ne_eq, eq_self]
    refine ⟨⟨i + 1, kn2, _, _, by omega, by simp [gt, wi], by simp [gt, e14], by simp [gt, e15], by simp [gt, e11], ⟨by simp [gt, e0], by simp [gt, e1], by simp [gt, e2], by simp [gt, e7], by simp [gt, e8], by simp [gt, e9]⟩, hO.step, ?_, hS⟩, by simp [gt, iv, e16, wi]; omega⟩
    have := Sk.left_step (w := w) hO.wf hl; omega
  have d1 : decide ((i : Int) < 500) = false := decide_eq_false hlt
  have hd : t.dn = true := Sk.left_dn hO.wf (by omega)
  obtain ⟨hfd, hfin⟩ := hO.fin hd
  have hoN : (w.n : Int) = N := by rw [hO.of.n]; exact hNw
  simp only [e16, e14, e15, d1, ↓D0, ↓D1, ↓D2, ↓D3, ↓D4, ↓D5, ↓D6, ↓D7, ↓D8, ↓D9, ↓D10, U0, U1, U2, U3, U4, U5, U6, U7, U8, U9, U10, ↓reduceIte, Nat.reduceAdd, Nat.reduceMul, Nat.reduceSub, Nat.reduceEqDiff, Nat.reduceBEq, Nat.reduceLeDiff, Nat.reduceLT, Int.reduceAdd, Int.reduceMul, Int.reduceSub, Int.reduceLT, Int.reduceLE, Int.reduceToNat, Int.reduceEq, Int.reduceNe, Int.reduceBEq, Int.reduceBNe, ne_eq, eq_self]
  refine callT_of (c_skfound hS) ?_
  rintro v H' ⟨rfl, hS⟩
  simp only [e16, e14, e15, hfd, ↓D0, ↓D1, ↓D2, ↓D3, ↓D4, ↓D5, ↓D6, ↓D7, ↓D8, ↓D9, ↓D10, U0, U1, U2, U3, U4, U5, U6, U7, U8, U9, U10, ↓reduceIte, Nat.reduceAdd, Nat.reduceMul, Nat.reduceSub, Nat.reduceEqDiff, Nat.reduceBEq, Nat.reduceLeDiff, Nat.reduceLT, Int.reduceAdd, Int.reduceMul, Int.reduceSub, Int.reduceLT, Int.reduceLE, Int.reduceToNat, Int.reduceEq, Int.reduceNe, Int.reduceBEq, Int.reduceBNe, ne_eq, eq_self]
  refine callT_of (c_skdone hS) ?_
  rintro v H' ⟨rfl, hS⟩
  simp only [e16, e14, e15, hd, ↓D0, ↓D1, ↓D2, ↓D3, ↓D4, ↓D5, ↓D6, ↓D7, ↓D8, ↓D9, ↓D10, U0, U1, U2, U3, U4, U5, U6, U7, U8, U9, U10, ↓reduceIte, Nat.reduceAdd, Nat.reduceMul, Nat.reduceSub, Nat.reduceEqDiff, Nat.reduceBEq, Nat.reduceLeDiff, Nat.reduceLT, Int.reduceAdd, Int.reduceMul, Int.reduceSub, Int.reduceLT, Int.reduceLE, Int.reduceToNat, Int.reduceEq, Int.reduceNe, Int.reduceBEq, Int.reduceBNe, ne_eq, eq_self]
  have hsb := slots_bd K
  have hsn : 0 ≤ w.n := by omega
  rcases hat with ⟨rfl, hno⟩ | ⟨a0, a1, a2, a3⟩
  · obtain ⟨at'', b0, b1, b2, -⟩ | ⟨-, hpg, hsl, hst⟩ := hfin
    · exact absurd b2 (hno at'' (by omega) b1)
    have dl : decide ((-1 : Int) < 0) = true := by decide
    have gp : (t.pg == fi % 4) = true := beq_iff_eq.2 hpg
    have gs : (t.sl == 0) = true := beq_iff_eq.2 hsl
    have hx1 := hS.lk 5 rfl
    have r0 := fun o => rd_of hx1 o
    have w1 : w64 ((n : Int) + 4) = (n : Int) + 4 := w64_eq (by omega) (by omega)
    have w2 : w64 ((n : Int) + 4 + 2) = (n : Int) + 4 + 2 := w64_eq (by omega) (by omega)
    have w3 : w64 ((n : Int) + 4 + 2 + 16) = (n : Int) + 4 + 2 + 16 := w64_eq (by omega) (by omega)
    have w4 : w64 ((n : Int) + 4 + 2 + 16 + slots K) = (n : Int) + 4 + 2 + 16 + slots K := w64_eq (by omega) (by omega)
    have gw : (w.st == (n : Int) + 4 + 2 + 16 + slots K) = true := beq_iff_eq.2 (by rw [hst]; omega)
    simp only [e16, e14, e15, e11, e0, e1, e2, e7, e8, e9, dl, ↓D0, ↓D1, ↓D2, ↓D3, ↓D4, ↓D5, ↓D6, ↓D7, ↓D8, ↓D9, ↓D10, U0, U1, U2, U3, U4, U5, U6, U7, U8, U9, U10, ↓reduceIte, Nat.reduceAdd, Nat.reduceMul, Nat.reduceSub, Nat.reduceEqDiff, Nat.reduceBEq, Nat.reduceLeDiff, Nat.reduceLT, Int.reduceAdd, Int.reduceMul, Int.reduceSub, Int.reduceLT, Int.reduceLE, Int.reduceToNat, Int.reduceEq, Int.reduceNe, Int.reduceBEq, Int.reduceBNe, ne_eq, eq_self]
    refine draw_intro [(x, #[.int .i64 4, .int .i64 1, .int .i64 (n : Int)], [])] (by simp only [hx1, ↓D0, ↓D1, ↓D2, ↓D3, ↓D4, ↓D5, ↓D6, ↓D7, ↓D8, ↓D9, ↓D10, U0, U1, U2, U3, U4, U5, U6, U7, U8, U9, U10, ↓reduceIte, Nat.reduceAdd, Nat.reduceMul, Nat.reduceSub, Nat.reduceEqDiff, Nat.reduceBEq, Nat.reduceLeDiff, Nat.reduceLT, Int.reduceAdd, Int.reduceMul, Int.reduceSub, Int.reduceLT, Int.reduceLE, Int.reduceToNat, Int.reduceEq, Int.reduceNe, Int.reduceBEq, Int.reduceBNe, ne_eq, eq_self]) ?_
    simp only [e16, e14, e15, e11, e0, e1, e2, e7, e8, e9, hx1, r0, wrap_w64, ef, eft, gp, gs, w1, w2, w3, ↓D0, ↓D1, ↓D2, ↓D3, ↓D4, ↓D5, ↓D6, ↓D7, ↓D8, ↓D9, ↓D10, U0, U1, U2, U3, U4, U5, U6, U7, U8, U9, U10, ↓reduceIte, Nat.reduceAdd, Nat.reduceMul, Nat.reduceSub, Nat.reduceEqDiff, Nat.reduceBEq, Nat.reduceLeDiff, Nat.reduceLT, Int.reduceAdd, Int.reduceMul, Int.reduceSub, Int.reduceLT, Int.reduceLE, Int.reduceToNat, Int.reduceEq, Int.reduceNe, Int.reduceBEq, Int.reduceBNe, ne_eq, eq_self]
    refine callT_of (c_steps hS.tail.tail) ?_
    rintro v H' ⟨rfl, hS⟩
    have hx1 := hS.lk 3 rfl
    have r0 := fun o => rd_of hx1 o
    simp only [e16, e14, e15, e11, e0, e1, e2, e7, e8, e9, hx1, r0, u_slots, wrap_w64, w1, w2, w3, w4, gw, ↓D0, ↓D1, ↓D2, ↓D3, ↓D4, ↓D5, ↓D6, ↓D7, ↓D8, ↓D9, ↓D10, U0, U1, U2, U3, U4, U5, U6, U7, U8, U9, U10, ↓reduceIte, Nat.reduceAdd, Nat.reduceMul, Nat.reduceSub, Nat.reduceEqDiff, Nat.reduceBEq, Nat.reduceLeDiff, Nat.reduceLT, Int.reduceAdd, Int.reduceMul, Int.reduceSub, Int.reduceLT, Int.reduceLE, Int.reduceToNat, Int.reduceEq, Int.reduceNe, Int.reduceBEq, Int.reduceBNe, ne_eq, eq_self]
    exact hS.tail.tail.tail.tail
  · obtain ⟨at'', b0, b1, b2, b3, hpg, hsl, hst, hg⟩ | ⟨hno, -⟩ := hfin
    rotate_left
    · exact absurd a2 (hno at' (by omega) a1)
    have hee : at'' = at' := by
      rcases Int.lt_trichotomy at'' at' with h | h | h
      · exact absurd b2 (a3 at'' (by omega) h)
      · exact h
      · exact absurd a2 (b3 at' (by omega) h)
    subst hee
    have dl : decide (at'' < 0) = false := decide_eq_false (by omega)
    have tt : at''.tmod 4 = at'' % 4 := Int.tmod_eq_emod_of_nonneg b0
    have gp : (t.pg == at'' % 4) = true := beq_iff_eq.2 hpg
    rcases hr with hr0 | ⟨eb, eo, rfl, hq⟩
    · omega
    obtain ⟨c, T, fc, hc, hco, hfar⟩ := part_cell hS 6 rfl (hq at''.toNat (by omega))
    have r2 := fun o => rd_of hc o
    have p1 : at'' < (m : Int) := by omega
    have hkv := hks at''.toNat (by omega)
    have ws : w64 (ks at''.toNat / 64) = ks at''.toNat / 64 := w64_eq (by omega) (by omega)
    have ts : (ks at''.toNat / 64).tmod 2 = ks at''.toNat / 64 % 2 := Int.tmod_eq_emod_of_nonneg (by omega)
    have hBi : ks at''.toNat / 64 % 2 = B at'' := by rw [hB]; rfl
    have gs : (t.sl == B at'') = true := beq_iff_eq.2 hsl
    have w1 : w64 (at'' + 2) = at'' + 2 := w64_eq (by omega) (by omega)
    have gw : (w.st == at'' + 2) = true := beq_iff_eq.2 hst
    have hmg : mag 4 1 (n : Int) 0 at'' = 69 + at'' := by
      rw [mag_yes hmay (by decide) (by decide) b0 b1]; omega
    simp only [e16, e14, e15, e11, e0, e1, e2, e7, e8, e9, dl, tt, gp, b0, p1, r2, hco, so_shr, wrap_w64, ws, ts, hBi, gs, ↓D0, ↓D1, ↓D2, ↓D3, ↓D4, ↓D5, ↓D6, ↓D7, ↓D8, ↓D9, ↓D10, U0, U1, U2, U3, U4, U5, U6, U7, U8, U9, U10, ↓reduceIte, Nat.reduceAdd, Nat.reduceMul, Nat.reduceSub, Nat.reduceEqDiff, Nat.reduceBEq, Nat.reduceLeDiff, Nat.reduceLT, Int.reduceAdd, Int.reduceMul, Int.reduceSub, Int.reduceLT, Int.reduceLE, Int.reduceToNat, Int.reduceEq, Int.reduceNe, Int.reduceBEq, Int.reduceBNe, ne_eq, eq_self]
    refine callT_of (c_steps hS.tail.tail) ?_
    rintro v H' ⟨rfl, hS⟩
    have hx1 := hS.lk 3 rfl
    have r1 := fun o n => rdn_of hx1 o n
    simp only [e16, e14, e15, e11, e0, e1, e2, e7, e8, e9, wrap_w64, w1, gw, hx1, r1, u_mag, hmg, ↓D0, ↓D1, ↓D2, ↓D3, ↓D4, ↓D5, ↓D6, ↓D7, ↓D8, ↓D9, ↓D10, U0, U1, U2, U3, U4, U5, U6, U7, U8, U9, U10, ↓reduceIte, Nat.reduceAdd, Nat.reduceMul, Nat.reduceSub, Nat.reduceEqDiff, Nat.reduceBEq, Nat.reduceLeDiff, Nat.reduceLT, Int.reduceAdd, Int.reduceMul, Int.reduceSub, Int.reduceLT, Int.reduceLE, Int.reduceToNat, Int.reduceEq, Int.reduceNe, Int.reduceBEq, Int.reduceBNe, ne_eq, eq_self]
    refine callT_of (c_look (69 + at'') (by omega) (by omega) hS) ?_
    rintro v H' ⟨rfl, hS⟩
    simp only [hg, ↓D0, ↓D1, ↓D2, ↓D3, ↓D4, ↓D5, ↓D6, ↓D7, ↓D8, ↓D9, ↓D10, U0, U1, U2, U3, U4, U5, U6, U7, U8, U9, U10, ↓reduceIte, Nat.reduceAdd, Nat.reduceMul, Nat.reduceSub, Nat.reduceEqDiff, Nat.reduceBEq, Nat.reduceLeDiff, Nat.reduceLT, Int.reduceAdd, Int.reduceMul, Int.reduceSub, Int.reduceLT, Int.reduceLE, Int.reduceToNat, Int.reduceEq, Int.reduceNe, Int.reduceBEq, Int.reduceBNe, ne_eq, eq_self]
    exact hS.tail.tail.tail.tail
end

theorem l_seekown {W : World} {m cap : Nat} {a : Option Addr} {ks : Nat → Int} (hm : m ≤ 9223372036854775807) (hr : RowV (memOf W) a m (fun i => .int .u8 (ks i))) (hk : ∀ i, i < m → IntKind.u8.has (ks i)) (c : Int) (hc : 0 ≤ c ∧ c ≤ 255) (f : Int) (hf : 0 ≤ f ∧ f ≤ 255) :
    CallP Try.prog W 9 #[.slice a m cap, .int .u8 c, .int .u8 f] (memOf W) fun v H' => v = .bool true ∧ Sub (memOf W) H' :=
  (c_seekown hc hf hm hr (fun i hi => u8_bd (hk i hi)) (Sep.one _)).mono fun v H' ⟨h1, h2⟩ => ⟨h1, h2.head⟩
end Go.Proofs.Ytfopnendmcpglaa
