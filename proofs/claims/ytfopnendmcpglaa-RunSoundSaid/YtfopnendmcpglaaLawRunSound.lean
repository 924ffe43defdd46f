/-
  RunSound, walked: one that looks for a row of pages alone in a sound heap. Conditions: none.
-/
import Derived.Test.YtfopnendmcpglaaCodeAllotmentlaw14
import Derived.Test.YtfopnendmcpglaaRunK
import Derived.Test.YtfopnendmcpglaaSoundV
import Derived.Test.YtfopnendmcpglaaBlk
import Derived.Test.YtfopnendmcpglaaRoom
import Derived.Test.YtfopnendmcpglaaRowV
import Derived.Test.YtfopnendmcpglaaMaRunSnd
set_option linter.unusedVariables false
set_option linter.unusedSectionVars false
set_option linter.unusedSimpArgs false
set_option maxRecDepth 8000
namespace Go.Proofs.Ytfopnendmcpglaa
open Go Go.Ev Go.Pl Go.Ma

theorem BsL.cell {l : List Hp} {H g : Hp} {a : Option Addr} {cap : Nat} {bl : List (Int × Int)} (h : BsL a cap bl g) (hS : Sep l H) (hm : g ∈ l) {j : Nat} (hj : j < bl.length) :
    ∃ z, a = some ⟨z, 0, none⟩ ∧ rd H z (j * 2) = some (.int .i64 (bl.getD j (0, 0)).1) ∧ rdn H z (j * 2) 2 = some #[.int .i64 (bl.getD j (0, 0)).1, .int .i64 (bl.getD j (0, 0)).2] := by
  rcases h with ⟨-, h, -, -⟩ | ⟨z, c, rfl, rfl, h1, h2, h3⟩
  · omega
  · have hz := hS.sb _ hm z _ (sg_at _ _)
    obtain ⟨e1, e2⟩ := h3 j hj
    refine ⟨z, rfl, by rw [rd_of hz, e1], ?_⟩
    have hsz : j * 2 + 2 ≤ c.size := by
      have := (Array.getElem?_eq_some_iff.1 e2).1; omega
    rw [rdn_of hz, if_pos hsz]
    congr 1
    apply Array.ext
    · simp
      omega
    · intro i i1 i2
      have hi : i = 0 ∨ i = 1 := by simp at i2; omega
      simp only [Array.getElem_extract]
      rcases hi with rfl | rfl
      · have := (Array.getElem?_eq_some_iff.1 e1).2; simpa using this
      · have := (Array.getElem?_eq_some_iff.1 e2).2; simpa using this
theorem eq_pair (u v : Int) : eqL [(0, false), (1, false)] #[.int .i64 u, .int .i64 v] #[.int .i64 u, .int .i64 v] = some true := by simp [eqL, eqS]
theorem snd_row' {sh : Sh} {n : Nat} {ws : Nat → Int} (hm : may sh.p sh.c sh.m = true) (hn : (n : Int) = words sh.p sh.c sh.m) (h : Snd sh ws) : Snd sh (rowW n ws).ws := by
  have hb := (may_iff _ _ _).1 hm
  have hw := words_ge hm hn
  have key : ∀ j : Nat, j < n → (rowW n ws).ws j = ws j := fun j hj => if_pos hj
  refine h.congr hm (fun q q0 q1 => ?_) (fun q i q0 q1 i0 i1 => ?_) (fun c i c0 c1 i0 i1 => ?_)
  · unfold pgAt; rw [page_yes hm q0 q1]; exact key _ (by omega)
  · unfold slAt; exact key _ (by omega)
  · have := Int.mul_le_mul_of_nonneg_right (by omega : c + 1 ≤ sh.c) (by omega : 0 ≤ sh.m)
    rw [Int.add_mul] at this
    have := Int.mul_nonneg c0 (by omega : 0 ≤ sh.m)
    unfold mgAt; exact key _ (by omega)
theorem blks_row' {sh : Sh} {n : Nat} {ws : Nat → Int} (hm : may sh.p sh.c sh.m = true) (hn : (n : Int) = words sh.p sh.c sh.m) {k : Nat} (hk : (k : Int) ≤ sh.p) : blks sh (rowW n ws).ws k = blks sh ws k := by
  have hb := (may_iff _ _ _).1 hm
  have hw := words_ge hm hn
  have key : ∀ j : Nat, j < n → (rowW n ws).ws j = ws j := fun j hj => if_pos hj
  have hp : ∀ q : Nat, (q : Int) < sh.p → pgAt sh (rowW n ws).ws q = pgAt sh ws q := fun q hq => by unfold pgAt; rw [page_yes hm (by omega) hq]; exact key _ (by omega)
  refine blks_congr fun p hp' => blkPg_congr (by rw [hp p (by omega)]) (fun _ => by rw [hp p (by omega)]) fun _ i hi => ?_
  rw [show slAt sh (rowW n ws).ws p i = slAt sh ws p i from key _ (by omega)]
theorem RowU.congr' {h : Hp} {a : Option Addr} {n : Nat} {ws ws' : Nat → Int} (hr : RowU h a n ws) (he : ∀ i, i < n → ws i = ws' i) : RowU h a n ws' := by
  rcases hr with hr | ⟨b, o, rfl, hr⟩
  · exact .inl hr
  · exact .inr ⟨b, o, rfl, fun i hi => by rw [hr i hi, he i hi]⟩
theorem rn_left {t : Rn} {w : Wd} {m : Int} (h : t.wf) (hl : t.left ≤ max 0 m) : (t.step w).1.left ≤ max 0 (m - 1) := by
  cases hd : t.dn
  · have := Rn.step_left (w := w) h hd; omega
  · rw [Rn.step_dn hd]
    show t.left ≤ _
    have : t.left = 0 := Rn.left_0 hd
    omega
theorem free_row {sh : Sh} {n : Nat} {ws : Nat → Int} (hm : may sh.p sh.c sh.m = true) (hn : (n : Int) = words sh.p sh.c sh.m) {q : Int} (q0 : 0 ≤ q) (q1 : q < sh.p) : Rw.Free sh (rowW n ws).ws q ↔ Rw.Free sh ws q := by
  have hb := (may_iff _ _ _).1 hm
  have hw := words_ge hm hn
  have key : ∀ j : Nat, j < n → (rowW n ws).ws j = ws j := fun j hj => if_pos hj
  have hp : pgAt sh (rowW n ws).ws q = pgAt sh ws q := by unfold pgAt; rw [page_yes hm q0 q1]; exact key _ (by omega)
  have hs : ∀ i, 0 ≤ i → i < 16 → slAt sh (rowW n ws).ws q i = slAt sh ws q i := fun i i0 i1 => key _ (by omega)
  unfold Rw.Free
  rw [hp]
  refine or_congr Iff.rfl (and_congr_right fun _ => ?_)
  have hsb := slots_bd (pgA sh q (pgAt sh ws q))
  exact ⟨fun g i i0 i1 => by rw [← hs i i0 (by omega)]; exact g i i0 i1, fun g i i0 i1 => by rw [hs i i0 (by omega)]; exact g i i0 i1⟩
theorem rs_room {M : Int} (h : 1 ≤ M ∧ M ≤ 8) : large (M * 64) = true ∧ small (M * 64) = false ∧ pages (M * 64) = M := by
  rcases (by omega : M = 1 ∨ M = 2 ∨ M = 3 ∨ M = 4 ∨ M = 5 ∨ M = 6 ∨ M = 7 ∨ M = 8) with e | e | e | e | e | e | e | e <;> subst e <;> decide
section
variable {W : World} {H h : Hp} {l : List Hp} {n cap : Nat} {a : Option Addr} {ws : Nat → Int}
def rsG (M : Int) (x z b k n cap : Nat) (a : Option Addr) (F' : Fr) : Prop := gt F' 1 = .slice a n cap ∧ gt F' 3 = .pointer (some ⟨x, 0, none⟩) ∧ gt F' 5 = .pointer (some ⟨z, 0, none⟩) ∧ gt F' 7 = .int .i64 M ∧ gt F' 8 = .pointer (some ⟨b, 0, none⟩) ∧ gt F' 9 = .pointer (some ⟨k, 0, none⟩)
def rsA (sh : Sh) (ws0 : Nat → Int) (c M : Int) (x z b k s n cap : Nat) (a : Option Addr) (L : List Hp) (F' : Fr) (H' : Hp) : Prop :=
  ∃ (i : Int) (kp : Nat) (t : Rn) (w : Wd), 0 ≤ i ∧ i ≤ 60 * sh.p + 20 ∧ gt F' 10 = .int .i64 i ∧ rsG M x z b k n cap a F' ∧ w.n = n ∧ Rw.Al sh ws0 c M t w ∧ t.left ≤ max 0 (60 * sh.p + 20 - i) ∧ Sep (rnB k kp t :: stO kp t.st :: wB b s w :: wR s w :: L) H'
def rsB (fd : Bool) (M : Int) (len : Nat) (x z b k n cap bc bc2 : Nat) (a ba ba2 : Option Addr) (L : List Hp) (F' : Fr) (H' : Hp) : Prop :=
  ∃ i : Nat, i ≤ len ∧ gt F' 15 = .int .i64 (i : Int) ∧ gt F' 13 = .slice ba len bc ∧ gt F' 14 = .slice ba2 len bc2 ∧ gt F' 12 = .bool fd ∧ rsG M x z b k n cap a F' ∧ Sep L H'
set_option maxHeartbeats 8000000 in
theorem c_runsound (sh : Sh) (c n1 : Int) (hr : RowU h a n ws) (hU : ∀ i, i < n → U (ws i)) (hS : Sep (h :: l) H) :
    CallP Try.prog W 3 #[.agg #[.int .i64 sh.p, .int .i64 sh.c, .int .i64 sh.m], .slice a n cap, .agg #[.int .i64 c, .int .i64 n1]] H fun v H' => v = .bool true ∧ Sep (h :: l) H' := by
  refine CallP.of mixed Try.func3 tr3 (by show 3 ≤ _; decide) fun W _ => ?_
  simp only [↓D0, ↓D1, ↓D2, ↓D3, ↓D4, ↓D5, ↓D6, ↓D7, ↓D8, ↓D9, ↓D10, U0, U1, U2, U3, U4, U5, U6, U7, U8, U9, U10, ↓reduceIte, Nat.reduceAdd, Nat.reduceMul, Nat.reduceSub, Nat.reduceEqDiff, Nat.reduceBEq, Nat.reduceLeDiff, Nat.reduceLT, Int.reduceAdd, Int.reduceMul, Int.reduceSub, Int.reduceLT, Int.reduceLE, Int.reduceToNat, Int.reduceEq, Int.reduceNe, Int.reduceBEq, Int.reduceBNe, ne_eq, eq_self]
  refine newB_intro fun x hx f1 f2 => ?_
  simp only [↓D0, ↓D1, ↓D2, ↓D3, ↓D4, ↓D5, ↓D6, ↓D7, ↓D8, ↓D9, ↓D10, U0, U1, U2, U3, U4, U5, U6, U7, U8, U9, U10, ↓reduceIte, Nat.reduceAdd, Nat.reduceMul, Nat.reduceSub, Nat.reduceEqDiff, Nat.reduceBEq, Nat.reduceLeDiff, Nat.reduceLT, Int.reduceAdd, Int.reduceMul, Int.reduceSub, Int.reduceLT, Int.reduceLE, Int.reduceToNat, Int.reduceEq, Int.reduceNe, Int.reduceBEq, Int.reduceBNe, ne_eq, eq_self]
  refine newB_intro fun z hz f3 f4 => ?_
  simp only [↓D0, ↓D1, ↓D2, ↓D3, ↓D4, ↓D5, ↓D6, ↓D7, ↓D8, ↓D9, ↓D10, U0, U1, U2, U3, U4, U5, U6, U7, U8, U9, U10, ↓reduceIte, Nat.reduceAdd, Nat.reduceMul, Nat.reduceSub, Nat.reduceEqDiff, Nat.reduceBEq, Nat.reduceLeDiff, Nat.reduceLT, Int.reduceAdd, Int.reduceMul, Int.reduceSub, Int.reduceLT, Int.reduceLE, Int.reduceToNat, Int.reduceEq, Int.reduceNe, Int.reduceBEq, Int.reduceBNe, ne_eq, eq_self]
  have hS := (hS.new f1 (.cells #[.int .i64 sh.p, .int .i64 sh.c, .int .i64 sh.m] 23 (0, 0))).new f3 (.cells #[.int .i64 c, .int .i64 n1] 25 (0, 0))
  have nzx := hS.neq 0 1 (by decide) rfl rfl
  have nxz := hS.qen 0 1 (by decide) rfl rfl
  refine callT_of (c_awake14 hS) ?_
  rintro v H' ⟨rfl, hS⟩
  have hx1 := hS.lk 1 rfl
  have r0 := fun o => rd_of hx1 o
  have r1 := fun o n => rdn_of hx1 o n
  simp only [hx1, r1, ↓D0, ↓D1, ↓D2, ↓D3, ↓D4, ↓D5, ↓D6, ↓D7, ↓D8, ↓D9, ↓D10, U0, U1, U2, U3, U4, U5, U6, U7, U8, U9, U10, ↓reduceIte, Nat.reduceAdd, Nat.reduceMul, Nat.reduceSub, Nat.reduceEqDiff, Nat.reduceBEq, Nat.reduceLeDiff, Nat.reduceLT, Int.reduceAdd, Int.reduceMul, Int.reduceSub, Int.reduceLT, Int.reduceLE, Int.reduceToNat, Int.reduceEq, Int.reduceNe, Int.reduceBEq, Int.reduceBNe, ne_eq, eq_self]
  refine callT_of (c_fair (sh := sh) hS) ?_
  rintro v H' ⟨rfl, hS⟩
  have hx1 := hS.lk 1 rfl
  have r0 := fun o => rd_of hx1 o
  have r1 := fun o n => rdn_of hx1 o n
  cases hfair : (may sh.p sh.c sh.m && ((n : Int) == words sh.p sh.c sh.m))
  · simp only [hfair, ↓D0, ↓D1, ↓D2, ↓D3, ↓D4, ↓D5, ↓D6, ↓D7, ↓D8, ↓D9, ↓D10, U0, U1, U2, U3, U4, U5, U6, U7, U8, U9, U10, ↓reduceIte, Nat.reduceAdd, Nat.reduceMul, Nat.reduceSub, Nat.reduceEqDiff, Nat.reduceBEq, Nat.reduceLeDiff, Nat.reduceLT, Int.reduceAdd, Int.reduceMul, Int.reduceSub, Int.reduceLT, Int.reduceLE, Int.reduceToNat, Int.reduceEq, Int.reduceNe, Int.reduceBEq, Int.reduceBNe, ne_eq, eq_self]
    exact hS.tail.tail
  have hfair' := hfair
  simp only [Bool.and_eq_true, beq_iff_eq] at hfair
  obtain ⟨hm, hn⟩ := hfair
  simp only [hfair', hx1, r0, r1, ↓D0, ↓D1, ↓D2, ↓D3, ↓D4, ↓D5, ↓D6, ↓D7, ↓D8, ↓D9, ↓D10, U0, U1, U2, U3, U4, U5, U6, U7, U8, U9, U10, ↓reduceIte, Nat.reduceAdd, Nat.reduceMul, Nat.reduceSub, Nat.reduceEqDiff, Nat.reduceBEq, Nat.reduceLeDiff, Nat.reduceLT, Int.reduceAdd, Int.reduceMul, Int.reduceSub, Int.reduceLT, Int.reduceLE, Int.reduceToNat, Int.reduceEq, Int.reduceNe, Int.reduceBEq, Int.reduceBNe, ne_eq, eq_self]
  refine callT_of (c_soundV hm hn hr hU hS.p2) ?_
  rintro v H' ⟨sb, rfl, hsnd, hS⟩
  cases sb
  · simp only [↓D0, ↓D1, ↓D2, ↓D3, ↓D4, ↓D5, ↓D6, ↓D7, ↓D8, ↓D9, ↓D10, U0, U1, U2, U3, U4, U5, U6, U7, U8, U9, U10, ↓reduceIte, Nat.reduceAdd, Nat.reduceMul, Nat.reduceSub, Nat.reduceEqDiff, Nat.reduceBEq, Nat.reduceLeDiff, Nat.reduceLT, Int.reduceAdd, Int.reduceMul, Int.reduceSub, Int.reduceLT, Int.reduceLE, Int.reduceToNat, Int.reduceEq, Int.reduceNe, Int.reduceBEq, Int.reduceBNe, ne_eq, eq_self]
    exact hS.p1.tail.p1.tail
  have hsnd0 := hsnd.1 rfl
  clear hsnd
  have hx1 := hS.lk 2 rfl
  have hz1 := hS.lk 1 rfl
  have r1 := fun o n => rdn_of hx1 o n
  have r2 := fun o => rd_of hz1 o
  have i0 : (0 : Int) < ((2 : Nat) : Int) := by decide
  have i1 : (1 : Int) < ((2 : Nat) : Int) := by decide
  by_cases hst : status sh.p sh.c sh.m c < 0
  · have g3 : decide (status sh.p sh.c sh.m c < 0) = true := decide_eq_true hst
    simp only [hx1, hz1, r1, r2, i0, u_status, g3, ↓D0, ↓D1, ↓D2, ↓D3, ↓D4, ↓D5, ↓D6, ↓D7, ↓D8, ↓D9, ↓D10, U0, U1, U2, U3, U4, U5, U6, U7, U8, U9, U10, ↓reduceIte, Nat.reduceAdd, Nat.reduceMul, Nat.reduceSub, Nat.reduceEqDiff, Nat.reduceBEq, Nat.reduceLeDiff, Nat.reduceLT, Int.reduceAdd, Int.reduceMul, Int.reduceSub, Int.reduceLT, Int.reduceLE, Int.reduceToNat, Int.reduceEq, Int.reduceNe, Int.reduceBEq, Int.reduceBNe, ne_eq, eq_self]
    exact hS.p1.tail.p1.tail
  have g3 : decide (status sh.p sh.c sh.m c < 0) = false := decide_eq_false hst
  have hcb : 0 ≤ c ∧ c < sh.c := by
    unfold status within at hst
    rw [hm] at hst
    simp at hst
    omega
  have hwl := words_le hm
  have hwg := words_ge hm hn
  have hn2 : n ≤ 2000 := by omega
  have hb := (may_iff _ _ _).1 hm
  have t0 : -8 < n1.tmod 8 := Int.lt_tmod_of_pos n1 (by decide)
  have t1 : n1.tmod 8 < 8 := Int.tmod_lt_of_pos n1 (by decide)
  have t2 : (n1.tmod 8 + 8).tmod 8 = (n1.tmod 8 + 8) % 8 := Int.tmod_eq_emod_of_nonneg (by omega)
  have t3 : w64 (n1.tmod 8 + 8) = n1.tmod 8 + 8 := w64_eq (by omega) (by omega)
  obtain ⟨M, hM⟩ : ∃ M, 1 + (n1.tmod 8 + 8) % 8 = M := ⟨_, rfl⟩
  have hMb : 1 ≤ M ∧ M ≤ 8 := by omega
  have t4 : w64 M = M := w64_eq (by omega) (by omega)
  have hMM : w64 (1 + (w64 (n1.tmod 8 + 8)).tmod 8) = M := by rw [t3, t2, hM, t4]
  simp only [hx1, hz1, r1, r2, i0, u_status, g3, ↓D0, ↓D1, ↓D2, ↓D3, ↓D4, ↓D5, ↓D6, ↓D7, ↓D8, ↓D9, ↓D10, U0, U1, U2, U3, U4, U5, U6, U7, U8, U9, U10, ↓reduceIte, Nat.reduceAdd, Nat.reduceMul, Nat.reduceSub, Nat.reduceEqDiff, Nat.reduceBEq, Nat.reduceLeDiff, Nat.reduceLT, Int.reduceAdd, Int.reduceMul, Int.reduceSub, Int.reduceLT, Int.reduceLE, Int.reduceToNat, Int.reduceEq, Int.reduceNe, Int.reduceBEq, Int.reduceBNe, ne_eq, eq_self]
  refine callT_of (c_fill hn2 hr hS) ?_
  rintro v H' ⟨b, s, rfl, hS⟩
  have hx1 := hS.lk 4 rfl
  have hz1 := hS.lk 3 rfl
  have r1 := fun o n => rdn_of hx1 o n
  have r2 := fun o => rd_of hz1 o
  have hof : (rowW n ws).of sh := rowW_of hn hU
  simp only [hx1, hz1, r1, r2, i0, i1, wrap_w64, t2, t3, hM, t4, ↓D0, ↓D1, ↓D2, ↓D3, ↓D4, ↓D5, ↓D6, ↓D7, ↓D8, ↓D9, ↓D10, U0, U1, U2, U3, U4, U5, U6, U7, U8, U9, U10, ↓reduceIte, Nat.reduceAdd, Nat.reduceMul, Nat.reduceSub, Nat.reduceEqDiff, Nat.reduceBEq, Nat.reduceLeDiff, Nat.reduceLT, Int.reduceAdd, Int.reduceMul, Int.reduceSub, Int.reduceLT, Int.reduceLE, Int.reduceToNat, Int.reduceEq, Int.reduceNe, Int.reduceBEq, Int.reduceBNe, ne_eq, eq_self]
  refine callT_of (c_rnnew (sh := sh) hS) ?_
  rintro v H' ⟨k, rfl, hS⟩
  have hAl := Rw.Al.init hm hof hcb.1 hcb.2 hMb.1 hMb.2 (snd_row' hm hn hsnd0)
  have hl0 := Rn.new_left sh c M (by omega)
  have wm1 : w64 (60 * sh.p) = 60 * sh.p := w64_eq (by omega) (by omega)
  have wm2 : w64 (60 * sh.p + 20) = 60 * sh.p + 20 := w64_eq (by omega) (by omega)
  simp only [↓D0, ↓D1, ↓D2, ↓D3, ↓D4, ↓D5, ↓D6, ↓D7, ↓D8, ↓D9, ↓D10, U0, U1, U2, U3, U4, U5, U6, U7, U8, U9, U10, ↓reduceIte, Nat.reduceAdd, Nat.reduceMul, Nat.reduceSub, Nat.reduceEqDiff, Nat.reduceBEq, Nat.reduceLeDiff, Nat.reduceLT, Int.reduceAdd, Int.reduceMul, Int.reduceSub, Int.reduceLT, Int.reduceLE, Int.reduceToNat, Int.reduceEq, Int.reduceNe, Int.reduceBEq, Int.reduceBNe, ne_eq, eq_self]
  refine loop_intro (rsA sh (rowW n ws).ws c M x z b k s n cap a (h :: sg z (.cells #[.int .i64 c, .int .i64 n1] 25 (0, 0)) :: sg x (.cells #[.int .i64 sh.p, .int .i64 sh.c, .int .i64 sh.m] 23 (0, 0)) :: l)) (fun F' _ => (60 * sh.p + 20 - iv (gt F' 10)).toNat)
    ⟨0, 0, _, _, by omega, by omega, by simp [gt], ⟨by simp [gt], by simp [gt], by simp [gt], by simp [gt, hMM], by simp [gt], by simp [gt]⟩, rfl, hAl, by omega, hS.nothing.p1⟩ ?_
  clear hS hAl hl0 hx1 hz1 r1 r2
  rintro F' H' ⟨i, kp, t, w, hi0, hi, e10, ⟨e1, e3, e5, e7, e8, e9⟩, hwn, hAl, hl, hS⟩
  have hx1 := hS.lk 6 rfl
  have r0 := fun o => rd_of hx1 o
  by_cases hgo : i < 60 * sh.p + 20 ∧ t.dn = false
  · obtain ⟨hlt, hdn⟩ := hgo
    have d1 : decide (i < 60 * sh.p + 20) = true := decide_eq_true hlt
    have wi : w64 (i + 1) = i + 1 := w64_eq (by omega) (by omega)
    have te : i.tmod 5 = i % 5 := Int.tmod_eq_emod_of_nonneg hi0
    have hws : t.s = sh := hAl.wf.2.1
    simp only [e10, e1, e3, e5, e7, e8, e9, hx1, r0, wrap_w64, wm1, wm2, d1, ↓D0, ↓D1, ↓D2, ↓D3, ↓D4, ↓D5, ↓D6, ↓D7, ↓D8, ↓D9, ↓D10, U0, U1, U2, U3, U4, U5, U6, U7, U8, U9, U10, ↓reduceIte, Nat.reduceAdd, Nat.reduceMul, Nat.reduceSub, Nat.reduceEqDiff, Nat.reduceBEq, Nat.reduceLeDiff, Nat.reduceLT, Int.reduceAdd, Int.reduceMul, Int.reduceSub, Int.reduceLT, Int.reduceLE, Int.reduceToNat, Int.reduceEq, Int.reduceNe, Int.reduceBEq, Int.reduceBNe, ne_eq, eq_self]
    refine callT_of (c_rndone hS) ?_
    rintro v H' ⟨rfl, hS⟩
    simp only [e10, e1, e3, e5, e7, e8, e9, hdn, ↓D0, ↓D1, ↓D2, ↓D3, ↓D4, ↓D5, ↓D6, ↓D7, ↓D8, ↓D9, ↓D10, U0, U1, U2, U3, U4, U5, U6, U7, U8, U9, U10, ↓reduceIte, Nat.reduceAdd, Nat.reduceMul, Nat.reduceSub, Nat.reduceEqDiff, Nat.reduceBEq, Nat.reduceLeDiff, Nat.reduceLT, Int.reduceAdd, Int.reduceMul, Int.reduceSub, Int.reduceLT, Int.reduceLE, Int.reduceToNat, Int.reduceEq, Int.reduceNe, Int.reduceBEq, Int.reduceBNe, ne_eq, eq_self]
    refine callT_of (c_rnstep hAl.wf.1 (fun _ => by rw [hws]; exact hAl.of) hS) ?_
    rintro v H' ⟨rfl, kp2, hS⟩
    have hx1 := hS.lk 6 rfl
    have r1 := fun o n => rdn_of hx1 o n
    have hAl2 := hAl.step
    have hn2' : (t.step w).2.n = n := by
      have h5 := hAl2.of.n; have := hn; omega
    have hU2 : ∀ i, i < n → U ((t.step w).2.ws i) := fun i hi => hAl2.of.u i
    have hl2 := rn_left (w := w) hAl.wf.1 hl
    cases e5' : (i % 5 == 0)
    · simp only [e10, e1, e3, e5, e7, e8, e9, te, e5', ↓D0, ↓D1, ↓D2, ↓D3, ↓D4, ↓D5, ↓D6, ↓D7, ↓D8, ↓D9, ↓D10, U0, U1, U2, U3, U4, U5, U6, U7, U8, U9, U10, ↓reduceIte, Nat.reduceAdd, Nat.reduceMul, Nat.reduceSub, Nat.reduceEqDiff, Nat.reduceBEq, Nat.reduceLeDiff, Nat.reduceLT, Int.reduceAdd, Int.reduceMul, Int.reduceSub, Int.reduceLT, Int.reduceLE, Int.reduceToNat, Int.reduceEq, Int.reduceNe, Int.reduceBEq, Int.reduceBNe, ne_eq, eq_self]
      refine draw_intro [(x, #[.int .i64 sh.p, .int .i64 sh.c, .int .i64 sh.m], [])] (by simp only [hx1, ↓D0, ↓D1, ↓D2, ↓D3, ↓D4, ↓D5, ↓D6, ↓D7, ↓D8, ↓D9, ↓D10, U0, U1, U2, U3, U4, U5, U6, U7, U8, U9, U10, ↓reduceIte, Nat.reduceAdd, Nat.reduceMul, Nat.reduceSub, Nat.reduceEqDiff, Nat.reduceBEq, Nat.reduceLeDiff, Nat.reduceLT, Int.reduceAdd, Int.reduceMul, Int.reduceSub, Int.reduceLT, Int.reduceLE, Int.reduceToNat, Int.reduceEq, Int.reduceNe, Int.reduceBEq, Int.reduceBNe, ne_eq, eq_self]) ?_
      simp only [e10, e1, e3, e5, e7, e8, e9, te, e5', hx1, r1, wrap_w64, wi, ↓D0, ↓D1, ↓D2, ↓D3, ↓D4, ↓D5, ↓D6, ↓D7, ↓D8, ↓D9, ↓D10, U0, U1, U2, U3, U4, U5, U6, U7, U8, U9, U10, ↓reduceIte, Nat.reduceAdd, Nat.reduceMul, Nat.reduceSub, Nat.reduceEqDiff, Nat.reduceBEq, Nat.reduceLeDiff, Nat.reduceLT, Int.reduceAdd, Int.reduceMul, Int.reduceSub, Int.reduceLT, Int.reduceLE, Int.reduceToNat, Int.reduceEq, Int.reduceNe, Int.reduceBEq, Int.reduceBNe, ne_eq, eq_self]
      exact ⟨⟨i + 1, kp2, _, _, by omega, by omega, by simp [gt], ⟨by simp [gt, e1], by simp [gt, e3], by simp [gt, e5], by simp [gt, e7], by simp [gt, e8], by simp [gt, e9]⟩, hn2', hAl2, by omega, hS⟩, by simp [gt, iv, e10]; omega⟩
    · simp only [e10, e1, e3, e5, e7, e8, e9, te, e5', ↓D0, ↓D1, ↓D2, ↓D3, ↓D4, ↓D5, ↓D6, ↓D7, ↓D8, ↓D9, ↓D10, U0, U1, U2, U3, U4, U5, U6, U7, U8, U9, U10, ↓reduceIte, Nat.reduceAdd, Nat.reduceMul, Nat.reduceSub, Nat.reduceEqDiff, Nat.reduceBEq, Nat.reduceLeDiff, Nat.reduceLT, Int.reduceAdd, Int.reduceMul, Int.reduceSub, Int.reduceLT, Int.reduceLE, Int.reduceToNat, Int.reduceEq, Int.reduceNe, Int.reduceBEq, Int.reduceBNe, ne_eq, eq_self]
      refine draw_intro [(x, #[.int .i64 sh.p, .int .i64 sh.c, .int .i64 sh.m], [])] (by simp only [hx1, ↓D0, ↓D1, ↓D2, ↓D3, ↓D4, ↓D5, ↓D6, ↓D7, ↓D8, ↓D9, ↓D10, U0, U1, U2, U3, U4, U5, U6, U7, U8, U9, U10, ↓reduceIte, Nat.reduceAdd, Nat.reduceMul, Nat.reduceSub, Nat.reduceEqDiff, Nat.reduceBEq, Nat.reduceLeDiff, Nat.reduceLT, Int.reduceAdd, Int.reduceMul, Int.reduceSub, Int.reduceLT, Int.reduceLE, Int.reduceToNat, Int.reduceEq, Int.reduceNe, Int.reduceBEq, Int.reduceBNe, ne_eq, eq_self]) ?_
      simp only [e10, e1, e3, e5, e7, e8, e9, te, e5', hx1, r1, ↓D0, ↓D1, ↓D2, ↓D3, ↓D4, ↓D5, ↓D6, ↓D7, ↓D8, ↓D9, ↓D10, U0, U1, U2, U3, U4, U5, U6, U7, U8, U9, U10, ↓reduceIte, Nat.reduceAdd, Nat.reduceMul, Nat.reduceSub, Nat.reduceEqDiff, Nat.reduceBEq, Nat.reduceLeDiff, Nat.reduceLT, Int.reduceAdd, Int.reduceMul, Int.reduceSub, Int.reduceLT, Int.reduceLE, Int.reduceToNat, Int.reduceEq, Int.reduceNe, Int.reduceBEq, Int.reduceBNe, ne_eq, eq_self]
      refine callT_of (c_all (w := (t.step w).2) (by omega) hS.p3.p3) ?_
      rintro v H' ⟨a3, cap3, h3, rfl, hr3, hS⟩
      rw [hn2'] at hr3
      have hx1 := hS.lk 7 rfl
      have r1 := fun o n => rdn_of hx1 o n
      simp only [e10, e1, e3, e5, e7, e8, e9, te, e5', hn2', hx1, r1, ↓D0, ↓D1, ↓D2, ↓D3, ↓D4, ↓D5, ↓D6, ↓D7, ↓D8, ↓D9, ↓D10, U0, U1, U2, U3, U4, U5, U6, U7, U8, U9, U10, ↓reduceIte, Nat.reduceAdd, Nat.reduceMul, Nat.reduceSub, Nat.reduceEqDiff, Nat.reduceBEq, Nat.reduceLeDiff, Nat.reduceLT, Int.reduceAdd, Int.reduceMul, Int.reduceSub, Int.reduceLT, Int.reduceLE, Int.reduceToNat, Int.reduceEq, Int.reduceNe, Int.reduceBEq, Int.reduceBNe, ne_eq, eq_self]
      refine callT_of (c_soundV hm hn hr3 hU2 hS) ?_
      rintro v H' ⟨sb, rfl, hsb, hS⟩
      have hsb := hsb.2 hAl2.sound
      subst hsb
      have hx1 := hS.lk 7 rfl
      have r1 := fun o n => rdn_of hx1 o n
      simp only [hx1, r1, te, e5', e10, e1, e3, e5, e7, e8, e9, wrap_w64, wi, ↓D0, ↓D1, ↓D2, ↓D3, ↓D4, ↓D5, ↓D6, ↓D7, ↓D8, ↓D9, ↓D10, U0, U1, U2, U3, U4, U5, U6, U7, U8, U9, U10, ↓reduceIte, Nat.reduceAdd, Nat.reduceMul, Nat.reduceSub, Nat.reduceEqDiff, Nat.reduceBEq, Nat.reduceLeDiff, Nat.reduceLT, Int.reduceAdd, Int.reduceMul, Int.reduceSub, Int.reduceLT, Int.reduceLE, Int.reduceToNat, Int.reduceEq, Int.reduceNe, Int.reduceBEq, Int.reduceBNe, ne_eq, eq_self]
      exact ⟨⟨i + 1, kp2, _, _, by omega, by omega, by simp [gt], ⟨by simp [gt, e1], by simp [gt, e3], by simp [gt, e5], by simp [gt, e7], by simp [gt, e8], by simp [gt, e9]⟩, hn2', hAl2, by omega, hS.tail.p3.p3⟩, by simp [gt, iv, e10]; omega⟩
  have hd : t.dn = true := by
    cases hd0 : t.dn
    · exact Rn.left_dn hAl.wf.1 (by have : ¬ i < 60 * sh.p + 20 := fun g => hgo ⟨g, hd0⟩; omega) ▸ hd0 ▸ rfl
    · rfl
  have hU2 : ∀ i, i < n → U (w.ws i) := fun i hi => hAl.of.u i
  by_cases hlt : i < 60 * sh.p + 20
  have d1 : decide (i < 60 * sh.p + 20) = true := decide_eq_true hlt
  simp only [e10, e1, e3, e5, e7, e8, e9, hx1, r0, wrap_w64, wm1, wm2, d1, ↓D0, ↓D1, ↓D2, ↓D3, ↓D4, ↓D5, ↓D6, ↓D7, ↓D8, ↓D9, ↓D10, U0, U1, U2, U3, U4, U5, U6, U7, U8, U9, U10, ↓reduceIte, Nat.reduceAdd, Nat.reduceMul, Nat.reduceSub, Nat.reduceEqDiff, Nat.reduceBEq, Nat.reduceLeDiff, Nat.reduceLT, Int.reduceAdd, Int.reduceMul, Int.reduceSub, Int.reduceLT, Int.reduceLE, Int.reduceToNat, Int.reduceEq, Int.reduceNe, Int.reduceBEq, Int.reduceBNe, ne_eq, eq_self]
  refine callT_of (c_rndone hS) ?_
  rintro v H' ⟨rfl, hS⟩
  simp only [e10, e1, e3, e5, e7, e8, e9, hd, ↓D0, ↓D1, ↓D2, ↓D3, ↓D4, ↓D5, ↓D6, ↓D7, ↓D8, ↓D9, ↓D10, U0, U1, U2, U3, U4, U5, U6, U7, U8, U9, U10, ↓reduceIte, Nat.reduceAdd, Nat.reduceMul, Nat.reduceSub, Nat.reduceEqDiff, Nat.reduceBEq, Nat.reduceLeDiff, Nat.reduceLT, Int.reduceAdd, Int.reduceMul, Int.reduceSub, Int.reduceLT, Int.reduceLE, Int.reduceToNat, Int.reduceEq, Int.reduceNe, Int.reduceBEq, Int.reduceBNe, ne_eq, eq_self]
  rotate_left
  have d1 : decide (i < 60 * sh.p + 20) = false := decide_eq_false hlt
  simp only [e10, e1, e3, e5, e7, e8, e9, hx1, r0, wrap_w64, wm1, wm2, d1, ↓D0, ↓D1, ↓D2, ↓D3, ↓D4, ↓D5, ↓D6, ↓D7, ↓D8, ↓D9, ↓D10, U0, U1, U2, U3, U4, U5, U6, U7, U8, U9, U10, ↓reduceIte, Nat.reduceAdd, Nat.reduceMul, Nat.reduceSub, Nat.reduceEqDiff, Nat.reduceBEq, Nat.reduceLeDiff, Nat.reduceLT, Int.reduceAdd, Int.reduceMul, Int.reduceSub, Int.reduceLT, Int.reduceLE, Int.reduceToNat, Int.reduceEq, Int.reduceNe, Int.reduceBEq, Int.reduceBNe, ne_eq, eq_self]
  all_goals
    refine callT_of (c_rnfound hS) ?_
    rintro v H' ⟨rfl, hS⟩
    have hx1 := hS.lk 6 rfl
    have r1 := fun o n => rdn_of hx1 o n
    simp only [e10, e1, e3, e5, e7, e8, e9, hx1, r1, ↓D0, ↓D1, ↓D2, ↓D3, ↓D4, ↓D5, ↓D6, ↓D7, ↓D8, ↓D9, ↓D10, U0, U1, U2, U3, U4, U5, U6, U7, U8, U9, U10, ↓reduceIte, Nat.reduceAdd, Nat.reduceMul, Nat.reduceSub, Nat.reduceEqDiff, Nat.reduceBEq, Nat.reduceLeDiff, Nat.reduceLT, Int.reduceAdd, Int.reduceMul, Int.reduceSub, Int.reduceLT, Int.reduceLE, Int.reduceToNat, Int.reduceEq, Int.reduceNe, Int.reduceBEq, Int.reduceBNe, ne_eq, eq_self]
    refine draw_intro [(x, #[.int .i64 sh.p, .int .i64 sh.c, .int .i64 sh.m], [])] (by simp only [hx1, ↓D0, ↓D1, ↓D2, ↓D3, ↓D4, ↓D5, ↓D6, ↓D7, ↓D8, ↓D9, ↓D10, U0, U1, U2, U3, U4, U5, U6, U7, U8, U9, U10, ↓reduceIte, Nat.reduceAdd, Nat.reduceMul, Nat.reduceSub, Nat.reduceEqDiff, Nat.reduceBEq, Nat.reduceLeDiff, Nat.reduceLT, Int.reduceAdd, Int.reduceMul, Int.reduceSub, Int.reduceLT, Int.reduceLE, Int.reduceToNat, Int.reduceEq, Int.reduceNe, Int.reduceBEq, Int.reduceBNe, ne_eq, eq_self]) ?_
    simp only [e10, e1, e3, e5, e7, e8, e9, hx1, r1, ↓D0, ↓D1, ↓D2, ↓D3, ↓D4, ↓D5, ↓D6, ↓D7, ↓D8, ↓D9, ↓D10, U0, U1, U2, U3, U4, U5, U6, U7, U8, U9, U10, ↓reduceIte, Nat.reduceAdd, Nat.reduceMul, Nat.reduceSub, Nat.reduceEqDiff, Nat.reduceBEq, Nat.reduceLeDiff, Nat.reduceLT, Int.reduceAdd, Int.reduceMul, Int.reduceSub, Int.reduceLT, Int.reduceLE, Int.reduceToNat, Int.reduceEq, Int.reduceNe, Int.reduceBEq, Int.reduceBNe, ne_eq, eq_self]
    refine callT_of (c_blocks hm hn hr hU hS.p4) ?_
    rintro v H' ⟨ba, bc, g, rfl, hB, hS⟩
    have hx1 := hS.lk 7 rfl
    have r1 := fun o n => rdn_of hx1 o n
    simp only [e10, e1, e3, e5, e7, e8, e9, hx1, r1, ↓D0, ↓D1, ↓D2, ↓D3, ↓D4, ↓D5, ↓D6, ↓D7, ↓D8, ↓D9, ↓D10, U0, U1, U2, U3, U4, U5, U6, U7, U8, U9, U10, ↓reduceIte, Nat.reduceAdd, Nat.reduceMul, Nat.reduceSub, Nat.reduceEqDiff, Nat.reduceBEq, Nat.reduceLeDiff, Nat.reduceLT, Int.reduceAdd, Int.reduceMul, Int.reduceSub, Int.reduceLT, Int.reduceLE, Int.reduceToNat, Int.reduceEq, Int.reduceNe, Int.reduceBEq, Int.reduceBNe, ne_eq, eq_self]
    refine callT_of (c_all (w := w) (by omega) hS.p5.p5) ?_
    rintro v H' ⟨a3, cap3, h3, rfl, hr3, hS⟩
    rw [hwn] at hr3
    have hx1 := hS.lk 8 rfl
    have r1 := fun o n => rdn_of hx1 o n
    simp only [e10, e1, e3, e5, e7, e8, e9, hwn, hx1, r1, ↓D0, ↓D1, ↓D2, ↓D3, ↓D4, ↓D5, ↓D6, ↓D7, ↓D8, ↓D9, ↓D10, U0, U1, U2, U3, U4, U5, U6, U7, U8, U9, U10, ↓reduceIte, Nat.reduceAdd, Nat.reduceMul, Nat.reduceSub, Nat.reduceEqDiff, Nat.reduceBEq, Nat.reduceLeDiff, Nat.reduceLT, Int.reduceAdd, Int.reduceMul, Int.reduceSub, Int.reduceLT, Int.reduceLE, Int.reduceToNat, Int.reduceEq, Int.reduceNe, Int.reduceBEq, Int.reduceBNe, ne_eq, eq_self]
    refine callT_of (c_blocks hm hn hr3 hU2 hS) ?_
    rintro v H' ⟨ba2, bc2, g2, rfl, hB2, hS⟩
    have hsame : blks sh w.ws sh.p.toNat = blks sh ws sh.p.toNat := (hAl.same (by omega)).trans (blks_row' hm hn (by omega))
    rw [hsame] at hB2
    have hbn := blks_len (s := sh) (ws := ws) sh.p.toNat
    obtain ⟨bl, hbl⟩ : ∃ bl, blks sh ws sh.p.toNat = bl := ⟨_, rfl⟩
    rw [hbl] at hB hB2 hbn
    have hx1 := hS.lk 9 rfl
    have r1 := fun o n => rdn_of hx1 o n
    have wb : ((bl.length : Int) != (bl.length : Int)) = false := by simp
    simp only [e10, e1, e3, e5, e7, e8, e9, hsame, hbl, hx1, r1, ↓D0, ↓D1, ↓D2, ↓D3, ↓D4, ↓D5, ↓D6, ↓D7, ↓D8, ↓D9, ↓D10, U0, U1, U2, U3, U4, U5, U6, U7, U8, U9, U10, ↓reduceIte, Nat.reduceAdd, Nat.reduceMul, Nat.reduceSub, Nat.reduceEqDiff, Nat.reduceBEq, Nat.reduceLeDiff, Nat.reduceLT, Int.reduceAdd, Int.reduceMul, Int.reduceSub, Int.reduceLT, Int.reduceLE, Int.reduceToNat, Int.reduceEq, Int.reduceNe, Int.reduceBEq, Int.reduceBNe, ne_eq, eq_self]
    refine draw_intro [(x, #[.int .i64 sh.p, .int .i64 sh.c, .int .i64 sh.m], [])] (by simp only [hx1, ↓D0, ↓D1, ↓D2, ↓D3, ↓D4, ↓D5, ↓D6, ↓D7, ↓D8, ↓D9, ↓D10, U0, U1, U2, U3, U4, U5, U6, U7, U8, U9, U10, ↓reduceIte, Nat.reduceAdd, Nat.reduceMul, Nat.reduceSub, Nat.reduceEqDiff, Nat.reduceBEq, Nat.reduceLeDiff, Nat.reduceLT, Int.reduceAdd, Int.reduceMul, Int.reduceSub, Int.reduceLT, Int.reduceLE, Int.reduceToNat, Int.reduceEq, Int.reduceNe, Int.reduceBEq, Int.reduceBNe, ne_eq, eq_self]) ?_
    simp only [e10, e1, e3, e5, e7, e8, e9, hsame, hbl, hx1, r1, ↓D0, ↓D1, ↓D2, ↓D3, ↓D4, ↓D5, ↓D6, ↓D7, ↓D8, ↓D9, ↓D10, U0, U1, U2, U3, U4, U5, U6, U7, U8, U9, U10, ↓reduceIte, Nat.reduceAdd, Nat.reduceMul, Nat.reduceSub, Nat.reduceEqDiff, Nat.reduceBEq, Nat.reduceLeDiff, Nat.reduceLT, Int.reduceAdd, Int.reduceMul, Int.reduceSub, Int.reduceLT, Int.reduceLE, Int.reduceToNat, Int.reduceEq, Int.reduceNe, Int.reduceBEq, Int.reduceBNe, ne_eq, eq_self]
    refine callT_of (c_rndone hS.p6) ?_
    rintro v H' ⟨rfl, hS⟩
    have hx1 := hS.lk 9 rfl
    have r1 := fun o n => rdn_of hx1 o n
    simp only [e10, e1, e3, e5, e7, e8, e9, hsame, hbl, hd, wb, hx1, r1, ↓D0, ↓D1, ↓D2, ↓D3, ↓D4, ↓D5, ↓D6, ↓D7, ↓D8, ↓D9, ↓D10, U0, U1, U2, U3, U4, U5, U6, U7, U8, U9, U10, ↓reduceIte, Nat.reduceAdd, Nat.reduceMul, Nat.reduceSub, Nat.reduceEqDiff, Nat.reduceBEq, Nat.reduceLeDiff, Nat.reduceLT, Int.reduceAdd, Int.reduceMul, Int.reduceSub, Int.reduceLT, Int.reduceLE, Int.reduceToNat, Int.reduceEq, Int.reduceNe, Int.reduceBEq, Int.reduceBNe, ne_eq, eq_self]
    refine callT_of (c_all (w := w) (by omega) hS.p4.p4) ?_
    rintro v H' ⟨a4, cap4, h4, rfl, hr4, hS⟩
    rw [hwn] at hr4
    have hx1 := hS.lk 10 rfl
    have r1 := fun o n => rdn_of hx1 o n
    simp only [e10, e1, e3, e5, e7, e8, e9, hwn, hsame, hbl, hd, wb, hx1, r1, ↓D0, ↓D1, ↓D2, ↓D3, ↓D4, ↓D5, ↓D6, ↓D7, ↓D8, ↓D9, ↓D10, U0, U1, U2, U3, U4, U5, U6, U7, U8, U9, U10, ↓reduceIte, Nat.reduceAdd, Nat.reduceMul, Nat.reduceSub, Nat.reduceEqDiff, Nat.reduceBEq, Nat.reduceLeDiff, Nat.reduceLT, Int.reduceAdd, Int.reduceMul, Int.reduceSub, Int.reduceLT, Int.reduceLE, Int.reduceToNat, Int.reduceEq, Int.reduceNe, Int.reduceBEq, Int.reduceBNe, ne_eq, eq_self]
    refine callT_of (c_soundV hm hn hr4 hU2 hS) ?_
    rintro v H' ⟨sb, rfl, hsb, hS⟩
    have hsb := hsb.2 hAl.sound
    subst hsb
    have hx1 := hS.lk 10 rfl
    have r1 := fun o n => rdn_of hx1 o n
    simp only [e10, e1, e3, e5, e7, e8, e9, hwn, hsame, hbl, hd, wb, hx1, r1, ↓D0, ↓D1, ↓D2, ↓D3, ↓D4, ↓D5, ↓D6, ↓D7, ↓D8, ↓D9, ↓D10, U0, U1, U2, U3, U4, U5, U6, U7, U8, U9, U10, ↓reduceIte, Nat.reduceAdd, Nat.reduceMul, Nat.reduceSub, Nat.reduceEqDiff, Nat.reduceBEq, Nat.reduceLeDiff, Nat.reduceLT, Int.reduceAdd, Int.reduceMul, Int.reduceSub, Int.reduceLT, Int.reduceLE, Int.reduceToNat, Int.reduceEq, Int.reduceNe, Int.reduceBEq, Int.reduceBNe, ne_eq, eq_self]
    have hfin := hAl.fin hd
    obtain ⟨L, hL⟩ : ∃ L, h4 :: wB b s w :: wR s w :: rnB k kp t :: g2 :: h3 :: g :: h :: stO kp t.st :: sg z (.cells #[.int .i64 c, .int .i64 n1] 25 (0, 0)) :: sg x (.cells #[.int .i64 sh.p, .int .i64 sh.c, .int .i64 sh.m] 23 (0, 0)) :: l = L := ⟨_, rfl⟩
    have mg : g ∈ L := by subst hL; simp
    have mg2 : g2 ∈ L := by subst hL; simp
    rw [hL] at hS
    generalize t.fd = fd at hfin ⊢
    clear hx1 r1 hAl hl r0 hr3 hr4 hU2 hgo
    refine loop_intro (rsB fd M bl.length x z b k n cap bc bc2 a ba ba2 L) (fun F' _ => (bl.length - iv (gt F' 15)).toNat)
      ⟨0, Nat.zero_le _, by simp [gt], by simp [gt, hbl], by simp [gt, hbl, hsame], by simp [gt], ⟨by simp [gt, e1], by simp [gt, e3], by simp [gt, e5], by simp [gt, e7], by simp [gt, e8], by simp [gt, e9]⟩, hS⟩ ?_
    clear hS e10 e1 e3 e5 e7 e8 e9
    rintro F' H' ⟨i, hi, e15, e13, e14, e12, ⟨e1, e3, e5, e7, e8, e9⟩, hS⟩
    by_cases hlt : i < bl.length
    · have d1 : decide ((i : Int) < (bl.length : Int)) = true := decide_eq_true (by omega)
      have p0 : (0 : Int) ≤ (i : Int) := by omega
      have p1 : (i : Int) < (bl.length : Int) := by omega
      have wi : w64 ((i : Int) + 1) = ((i + 1 : Nat) : Int) := by rw [w64_eq (by omega) (by omega)]; omega
      obtain ⟨y2, hy2, -, hcl2⟩ := hB2.cell hS mg2 hlt
      subst hy2
      obtain ⟨y, hy, -, hcl⟩ := hB.cell hS mg hlt
      subst hy
      simp only [e15, e13, e14, e12, e1, e3, e5, e7, e8, e9, d1, p0, p1, Int.toNat_natCast, hcl, hcl2, wrap_w64, wi, eq_pair, ↓D0, ↓D1, ↓D2, ↓D3, ↓D4, ↓D5, ↓D6, ↓D7, ↓D8, ↓D9, ↓D10, U0, U1, U2, U3, U4, U5, U6, U7, U8, U9, U10, ↓reduceIte, Nat.reduceAdd, Nat.reduceMul, Nat.reduceSub, Nat.reduceEqDiff, Nat.reduceBEq, Nat.reduceLeDiff, Nat.reduceLT, Int.reduceAdd, Int.reduceMul, Int.reduceSub, Int.reduceLT, Int.reduceLE, Int.reduceToNat, Int.reduceEq, Int.reduceNe, Int.reduceBEq, Int.reduceBNe, ne_eq, eq_self]
      exact ⟨⟨i + 1, hlt, by simp [gt], by simp [gt, e13], by simp [gt, e14], by simp [gt, e12], ⟨by simp [gt, e1], by simp [gt, e3], by simp [gt, e5], by simp [gt, e7], by simp [gt, e8], by simp [gt, e9]⟩, hS⟩, by simp [gt, iv, e15]; omega⟩
    have hil : i = bl.length := by omega
    subst hil
    subst hL
    have hx1 := hS.lk 10 rfl
    have r1 := fun o n => rdn_of hx1 o n
    have d1 : decide ((bl.length : Int) < (bl.length : Int)) = false := decide_eq_false (by omega)
    have wM : w64 (M * 64) = M * 64 := w64_eq (by omega) (by omega)
    simp only [e15, e13, e14, e12, e1, e3, e5, e7, e8, e9, hx1, r1, d1, wrap_w64, wM, ↓D0, ↓D1, ↓D2, ↓D3, ↓D4, ↓D5, ↓D6, ↓D7, ↓D8, ↓D9, ↓D10, U0, U1, U2, U3, U4, U5, U6, U7, U8, U9, U10, ↓reduceIte, Nat.reduceAdd, Nat.reduceMul, Nat.reduceSub, Nat.reduceEqDiff, Nat.reduceBEq, Nat.reduceLeDiff, Nat.reduceLT, Int.reduceAdd, Int.reduceMul, Int.reduceSub, Int.reduceLT, Int.reduceLE, Int.reduceToNat, Int.reduceEq, Int.reduceNe, Int.reduceBEq, Int.reduceBNe, ne_eq, eq_self]
    have hok : ∀ q : Nat, (q : Int) < sh.p → okPg sh q (pgAt sh ws q) = true := fun q hq => (hsnd0.pg q hq).1
    have hfin2 : fd = true ↔ ∃ g, 0 ≤ g ∧ g + M ≤ sh.p ∧ ∀ q, g ≤ q → q < g + M → Rw.Free sh ws q := by
      rw [hfin]
      exact ⟨fun ⟨g, g0, g1, g2⟩ => ⟨g, g0, g1, fun q q0 q1 => (free_row hm hn (by omega) (by omega)).1 (g2 q q0 q1)⟩, fun ⟨g, g0, g1, g2⟩ => ⟨g, g0, g1, fun q q0 q1 => (free_row hm hn (by omega) (by omega)).2 (g2 q q0 q1)⟩⟩
    refine callT_of (c_room (M * 64) M (.inl (rs_room hMb)) hMb hm hn hr hU hok hS.p7) ?_
    rintro v H' ⟨rb, rfl, hrb, hS⟩
    have hx1 := hS.lk 10 rfl
    have r1 := fun o n => rdn_of hx1 o n
    have hbb : ∀ rb2 : Bool, (rb2 = true ↔ ∃ g, 0 ≤ g ∧ g + M ≤ sh.p ∧ ∀ q, g ≤ q → q < g + M → Rw.Free sh ws q) → (fd == rb2) = true := fun rb2 h2 => by
      have := hfin2.trans h2.symm
      cases fd <;> cases rb2 <;> simp_all
    cases eM : (M == 1)
    · simp only [e15, e13, e14, e12, e1, e3, e5, e7, e8, e9, eM, hbb rb hrb, ↓D0, ↓D1, ↓D2, ↓D3, ↓D4, ↓D5, ↓D6, ↓D7, ↓D8, ↓D9, ↓D10, U0, U1, U2, U3, U4, U5, U6, U7, U8, U9, U10, ↓reduceIte, Nat.reduceAdd, Nat.reduceMul, Nat.reduceSub, Nat.reduceEqDiff, Nat.reduceBEq, Nat.reduceLeDiff, Nat.reduceLT, Int.reduceAdd, Int.reduceMul, Int.reduceSub, Int.reduceLT, Int.reduceLE, Int.reduceToNat, Int.reduceEq, Int.reduceNe, Int.reduceBEq, Int.reduceBNe, ne_eq, eq_self]
      exact hS.p1.tail.p1.tail.p1.tail.p1.tail.p1.tail.p1.tail.p1.tail.p1.tail.p1.tail.p1.tail
    · simp only [e15, e13, e14, e12, e1, e3, e5, e7, e8, e9, eM, hx1, r1, ↓D0, ↓D1, ↓D2, ↓D3, ↓D4, ↓D5, ↓D6, ↓D7, ↓D8, ↓D9, ↓D10, U0, U1, U2, U3, U4, U5, U6, U7, U8, U9, U10, ↓reduceIte, Nat.reduceAdd, Nat.reduceMul, Nat.reduceSub, Nat.reduceEqDiff, Nat.reduceBEq, Nat.reduceLeDiff, Nat.reduceLT, Int.reduceAdd, Int.reduceMul, Int.reduceSub, Int.reduceLT, Int.reduceLE, Int.reduceToNat, Int.reduceEq, Int.reduceNe, Int.reduceBEq, Int.reduceBNe, ne_eq, eq_self]
      refine callT_of (c_room 1 M (.inr ⟨by decide, by decide, by simpa using eM⟩) hMb hm hn hr hU hok hS) ?_
      rintro v H' ⟨rb2, rfl, hrb2, hS⟩
      simp only [e15, e13, e14, e12, e1, e3, e5, e7, e8, e9, hbb rb2 hrb2, ↓D0, ↓D1, ↓D2, ↓D3, ↓D4, ↓D5, ↓D6, ↓D7, ↓D8, ↓D9, ↓D10, U0, U1, U2, U3, U4, U5, U6, U7, U8, U9, U10, ↓reduceIte, Nat.reduceAdd, Nat.reduceMul, Nat.reduceSub, Nat.reduceEqDiff, Nat.reduceBEq, Nat.reduceLeDiff, Nat.reduceLT, Int.reduceAdd, Int.reduceMul, Int.reduceSub, Int.reduceLT, Int.reduceLE, Int.reduceToNat, Int.reduceEq, Int.reduceNe, Int.reduceBEq, Int.reduceBNe, ne_eq, eq_self]
      exact hS.p1.tail.p1.tail.p1.tail.p1.tail.p1.tail.p1.tail.p1.tail.p1.tail.p1.tail.p1.tail
end

theorem l_runsound {W : World} {a : Option Addr} {n cap : Nat} {ws : Nat → Int} (p q m : Int) (hp : -9223372036854775808 ≤ p ∧ p ≤ 9223372036854775807) (hq : -9223372036854775808 ≤ q ∧ q ≤ 9223372036854775807) (hm : -9223372036854775808 ≤ m ∧ m ≤ 9223372036854775807)
    (hn : n ≤ 9223372036854775807) (hr : RowU (memOf W) a n ws) (hU : ∀ i, i < n → IntKind.u64.has (ws i)) (c n1 : Int) (hc : -9223372036854775808 ≤ c ∧ c ≤ 9223372036854775807) (ha : -9223372036854775808 ≤ n1 ∧ n1 ≤ 9223372036854775807) :
    CallP Try.prog W 3 #[.agg #[.int .i64 p, .int .i64 q, .int .i64 m], .slice a n cap, .agg #[.int .i64 c, .int .i64 n1]] (memOf W) fun v H' => v = .bool true ∧ Sub (memOf W) H' :=
  (c_runsound ⟨p, q, m⟩ c n1 hr (fun i hi => u64_bd (hU i hi)) (Sep.one _)).mono fun v H' ⟨h1, h2⟩ => ⟨h1, h2.head⟩
end Go.Proofs.Ytfopnendmcpglaa
