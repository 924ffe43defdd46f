/-
  WordsPlays, walked: whatever is loaded, stored, swapped, added, in place or out of it: each answer, all words, each step; what panics does nothing. Conditions: none.
-/
import Derived.Test.YtgpojkafebmpgaaAct
import Derived.Test.YtgpojkafebmpgaaWordsK
import Derived.Test.YtgpojkafebmpgaaRowD
set_option linter.unusedVariables false
set_option linter.unusedSimpArgs false
set_option maxRecDepth 8000
namespace Go.Ev
open Go
theorem x_grow2 {P : Program} {W : World} {L : Fr → Hp → Prop} {F : Fr} {H : Hp} {R : List (Nat × Array Value × List Nat)} (d : Option Nat) (m : MO) (r : ST) (h : m.wp P W F H fun v H' => ∃ E, hold (R ++ E) H' ∧ dwp P W (R ++ E) r L (putD F d v) H') : dwpX P W (.alt false ⟨d, m, none⟩ r .stop) R L F H := by
  refine ⟨?_, True.intro⟩
  show m.wp P W F H fun v H' => ∃ E, (false = true ∨ hold (R ++ E) H') ∧ dwpX P W r (R ++ E) L (putD F d v) H'
  exact m.wp_mono h fun v H' ⟨E, hv⟩ => ⟨E, .inr hv.1, dwpX_of r hv.2⟩
end Go.Ev
namespace Go.Proofs.Ytgpojkafebmpgaa
open Go Go.Ev Go.Pl Go.Ma

/-- What is called in Guard comes back; what it leaves is told by a relation. -/
theorem c_guard_rel {W : World} {H : Hp} {l : List Hp} {F : FuncId} {caps : Array Value} {L : List Hp → Prop} (hF : ∀ w, (callFunc F caps).run Try.prog w = .ok (.enter F caps) w) (hS : Sep l H) (hc : ∀ x H1, Sep (x :: l) H1 → CallP Try.prog W F caps H1 fun v H' => v = .tuple #[] ∧ ∃ l', L l' ∧ Sep (x :: l') H') :
    CallP Try.prog W 17 #[.func (.func F) #[] caps] H fun v H' => v = .bool true ∧ ∃ l', L l' ∧ Sep l' H' := by
  intro w hw
  have hf : ∀ j, (H j).isSome = true → (j = w.heap.size) = False := fun j hj => eq_false fun e => by
    obtain ⟨o, ho⟩ := Option.isSome_iff_exists.1 hj
    have := hw.lt ho; omega
  have hS2 := hS.new hf (.cells #[.bool false] 4 (0, 0))
  refine (g_run F caps w hF (fun e u => e = .returned (.tuple #[]) ∧ ∃ H' l', L l' ∧ Sat W H' u ∧ Sep (sg w.heap.size (.cells #[.bool false] 4 (0, 0)) :: l') H') ((hc _ _ hS2 _ (hw.alloc _)).mono ?_)).mono ?_
  · rintro e u ⟨v, H', rfl, hs, rfl, l', hl, hS3⟩
    have hk := hS3.look
    exact ⟨.inl rfl, hs.cell (by rw [rd_of hk]; rfl), hs.frozen hk 0, rfl, H', l', hl, hs, hS3⟩
  · rintro e u ⟨e', u', ⟨rfl, H', l', hl, hs, hS3⟩, ⟨-, rfl, rfl⟩ | ⟨⟨t, pv, h⟩, -, -⟩⟩
    · have hk := hS3.look
      have hs2 := hs.set hk 0 (.bool true)
      exact ⟨_, _, rfl, hs2, rfl, l', hl, (hS3.set _).tail⟩
    · cases h

section
variable {W : World} {H h : Hp} {l : List Hp} {n cap k cap2 : Nat} {a a2 : Option Addr} {ws : Nat → Int} {f : Nat → Nat → Int}
theorem actW_n (w : Wd) (dd cl at' wa x : Int) : (actW w dd cl at' wa x).n = w.n := by
  unfold actW; split
  · rfl
  · split
    · rfl
    · split <;> rfl
theorem actW_st (w : Wd) (dd cl at' wa x : Int) : (actW w dd cl at' wa x).st = w64 (w.st + 1) := by
  unfold actW; split
  · rfl
  · split
    · rfl
    · split <;> rfl
def wpI (n cap k cap2 : Nat) (a a2 : Option Addr) (p q b s b' s' : Nat) (h : Hp) (l : List Hp) (F' : Fr) (H' : Hp) : Prop :=
  ∃ (i : Nat) (w : Wd) (d : Option Addr) (cp : Nat) (g : Hp), i ≤ k ∧ w.n = n ∧ 0 ≤ w.st ∧ w.st ≤ i ∧ LogOk d cp w g ∧ gt F' 7 = .int .i64 (i : Int) ∧ gt F' 0 = .slice a n cap ∧ gt F' 1 = .slice a2 k cap2 ∧ gt F' 5 = .pointer (some ⟨p, 0, none⟩) ∧ gt F' 6 = .pointer (some ⟨q, 0, none⟩) ∧
    Sep (wbox p b :: mbox q b' :: wB b s w :: wR s w :: mB b' s' d cp w :: wR s' w :: g :: h :: l) H'
theorem c_wordsplays (hr : RowU h a n ws) (hrd : RowD h a2 k f) (hS : Sep (h :: l) H) :
    CallP Try.prog W 3 #[.slice a n cap, .slice a2 k cap2] H fun v H' => v = .bool true ∧ Sep (h :: l) H' := by
  refine CallP.of mixed Try.func3 tr3 (by show 2 ≤ _; decide) fun W _ => ?_
  simp only [↓D0, ↓D1, ↓D2, ↓D3, ↓D4, ↓D5, ↓D6, ↓D7, ↓D8, ↓D9, U0, U1, U2, U3, U4, U5, U6, U7, U8, U9, U10, ↓reduceIte, Nat.reduceAdd, Nat.reduceMul, Nat.reduceSub, Nat.reduceEqDiff, Nat.reduceBEq, Nat.reduceLeDiff, Nat.reduceLT, Int.reduceAdd, Int.reduceMul, Int.reduceSub, Int.reduceLT, Int.reduceLE, Int.reduceToNat, Int.reduceEq, Int.reduceNe, Int.reduceBEq, Int.reduceBNe, ne_eq, eq_self]
  refine callT_of (c_awake2 hS) ?_
  rintro v H' ⟨rfl, hS⟩
  by_cases hb : 100 < n ∨ 60 < k
  · have g : decide (100 < (n : Int)) = true ∨ decide (100 < (n : Int)) = false ∧ decide (60 < (k : Int)) = true := by
      rcases hb with hb | hb
      · exact .inl (decide_eq_true (by omega))
      · by_cases h1 : 100 < n
        · exact .inl (decide_eq_true (by omega))
        · exact .inr ⟨decide_eq_false (by omega), decide_eq_true (by omega)⟩
    rcases g with g | ⟨g, g2⟩
    · simp only [g, ↓D0, ↓D1, ↓D2, ↓D3, ↓D4, ↓D5, ↓D6, ↓D7, ↓D8, ↓D9, U0, U1, U2, U3, U4, U5, U6, U7, U8, U9, U10, ↓reduceIte, Nat.reduceAdd, Nat.reduceMul, Nat.reduceSub, Nat.reduceEqDiff, Nat.reduceBEq, Nat.reduceLeDiff, Nat.reduceLT, Int.reduceAdd, Int.reduceMul, Int.reduceSub, Int.reduceLT, Int.reduceLE, Int.reduceToNat, Int.reduceEq, Int.reduceNe, Int.reduceBEq, Int.reduceBNe, ne_eq, eq_self]
      exact hS
    · simp only [g, g2, ↓D0, ↓D1, ↓D2, ↓D3, ↓D4, ↓D5, ↓D6, ↓D7, ↓D8, ↓D9, U0, U1, U2, U3, U4, U5, U6, U7, U8, U9, U10, ↓reduceIte, Nat.reduceAdd, Nat.reduceMul, Nat.reduceSub, Nat.reduceEqDiff, Nat.reduceBEq, Nat.reduceLeDiff, Nat.reduceLT, Int.reduceAdd, Int.reduceMul, Int.reduceSub, Int.reduceLT, Int.reduceLE, Int.reduceToNat, Int.reduceEq, Int.reduceNe, Int.reduceBEq, Int.reduceBNe, ne_eq, eq_self]
      exact hS
  have g1 : decide (100 < (n : Int)) = false := decide_eq_false (by omega)
  have g2 : decide (60 < (k : Int)) = false := decide_eq_false (by omega)
  simp only [g1, g2, ↓D0, ↓D1, ↓D2, ↓D3, ↓D4, ↓D5, ↓D6, ↓D7, ↓D8, ↓D9, U0, U1, U2, U3, U4, U5, U6, U7, U8, U9, U10, ↓reduceIte, Nat.reduceAdd, Nat.reduceMul, Nat.reduceSub, Nat.reduceEqDiff, Nat.reduceBEq, Nat.reduceLeDiff, Nat.reduceLT, Int.reduceAdd, Int.reduceMul, Int.reduceSub, Int.reduceLT, Int.reduceLE, Int.reduceToNat, Int.reduceEq, Int.reduceNe, Int.reduceBEq, Int.reduceBNe, ne_eq, eq_self]
  refine callT_of (c_fill (by omega) hr hS) ?_
  rintro v H' ⟨b, s, rfl, hS⟩
  simp only [↓D0, ↓D1, ↓D2, ↓D3, ↓D4, ↓D5, ↓D6, ↓D7, ↓D8, ↓D9, U0, U1, U2, U3, U4, U5, U6, U7, U8, U9, U10, ↓reduceIte, Nat.reduceAdd, Nat.reduceMul, Nat.reduceSub, Nat.reduceEqDiff, Nat.reduceBEq, Nat.reduceLeDiff, Nat.reduceLT, Int.reduceAdd, Int.reduceMul, Int.reduceSub, Int.reduceLT, Int.reduceLE, Int.reduceToNat, Int.reduceEq, Int.reduceNe, Int.reduceBEq, Int.reduceBNe, ne_eq, eq_self]
  refine callT_of (c_model (by omega) hr hS.p2) ?_
  rintro v H' ⟨b', s', rfl, hS⟩
  simp only [↓D0, ↓D1, ↓D2, ↓D3, ↓D4, ↓D5, ↓D6, ↓D7, ↓D8, ↓D9, U0, U1, U2, U3, U4, U5, U6, U7, U8, U9, U10, ↓reduceIte, Nat.reduceAdd, Nat.reduceMul, Nat.reduceSub, Nat.reduceEqDiff, Nat.reduceBEq, Nat.reduceLeDiff, Nat.reduceLT, Int.reduceAdd, Int.reduceMul, Int.reduceSub, Int.reduceLT, Int.reduceLE, Int.reduceToNat, Int.reduceEq, Int.reduceNe, Int.reduceBEq, Int.reduceBNe, ne_eq, eq_self]
  refine newB_intro fun p hp f1 f2 => ?_
  have hS := hS.new f1 (.cells #[.pointer none] 25 (0, 0))
  simp only [↓D0, ↓D1, ↓D2, ↓D3, ↓D4, ↓D5, ↓D6, ↓D7, ↓D8, ↓D9, U0, U1, U2, U3, U4, U5, U6, U7, U8, U9, U10, ↓reduceIte, Nat.reduceAdd, Nat.reduceMul, Nat.reduceSub, Nat.reduceEqDiff, Nat.reduceBEq, Nat.reduceLeDiff, Nat.reduceLT, Int.reduceAdd, Int.reduceMul, Int.reduceSub, Int.reduceLT, Int.reduceLE, Int.reduceToNat, Int.reduceEq, Int.reduceNe, Int.reduceBEq, Int.reduceBNe, ne_eq, eq_self]
  refine newB_intro fun q hq f3 f4 => ?_
  have npq : (p = q) = False := f3 p (by rw [hS.look]; rfl)
  have nqp : (q = p) = False := f4 p (by rw [hS.look]; rfl)
  have hS := hS.new f3 (.cells #[.pointer none] 27 (0, 0))
  have hp1 := hS.lk 1 rfl
  have hq1 := hS.look
  simp only [hp1, hq1, npq, nqp, ↓D0, ↓D1, ↓D2, ↓D3, ↓D4, ↓D5, ↓D6, ↓D7, ↓D8, ↓D9, U0, U1, U2, U3, U4, U5, U6, U7, U8, U9, U10, ↓reduceIte, Nat.reduceAdd, Nat.reduceMul, Nat.reduceSub, Nat.reduceEqDiff, Nat.reduceBEq, Nat.reduceLeDiff, Nat.reduceLT, Int.reduceAdd, Int.reduceMul, Int.reduceSub, Int.reduceLT, Int.reduceLE, Int.reduceToNat, Int.reduceEq, Int.reduceNe, Int.reduceBEq, Int.reduceBNe, ne_eq, eq_self]
  have hS := ((hS.p1.set (.cells #[.pointer (some ⟨b, 0, none⟩)] 25 (0, 0))).p1.set (.cells #[.pointer (some ⟨b', 0, none⟩)] 27 (0, 0))).p1
  have hS := hS.p4.nothing.p5.p5.p7.p7.p7.p7
  refine loop_intro (wpI n cap k cap2 a a2 p q b s b' s' h l) (fun F' _ => (k - iv (gt F' 7)).toNat) ⟨0, rowW n ws, none, 0, fun _ => none, Nat.zero_le _, rfl, by show (0 : Int) ≤ 0; decide, by show (0 : Int) ≤ (0 : Nat); decide, LogOk.row n ws, rfl, rfl, rfl, rfl, rfl, hS⟩ ?_
  clear hS hp1 hq1 f1 f2 f3 f4
  rintro F' H' ⟨i, w, d, cp, g, hi, hwn, hst0, hst1, hL, e7, e0, e1, e5, e6, hS⟩
  by_cases hlt : i < k
  · have d1 : decide ((i : Int) < (k : Int)) = true := decide_eq_true (by omega)
    have d2 : (0 : Int) ≤ (i : Int) := by omega
    have d3 : (i : Int) < (k : Int) := by omega
    have w1 : w64 ((i : Int) + 1) = ((i + 1 : Nat) : Int) := by rw [w64_eq (by omega) (by omega)]; omega
    obtain ⟨xb, xo, hxa, hx5⟩ := (hrd.sub (hS.sb h (by simp))).at' hlt
    subst hxa
    obtain ⟨dd, hdd⟩ : ∃ x, x = f i 0 := ⟨_, rfl⟩
    obtain ⟨cl, hcl⟩ : ∃ x, x = f i 1 := ⟨_, rfl⟩
    obtain ⟨at', hat⟩ : ∃ x, x = f i 2 := ⟨_, rfl⟩
    obtain ⟨wa, hwa⟩ : ∃ x, x = f i 3 := ⟨_, rfl⟩
    obtain ⟨x, hx⟩ : ∃ x, x = f i 4 := ⟨_, rfl⟩
    rw [dv, ← hdd, ← hcl, ← hat, ← hwa, ← hx] at hx5
    clear hdd hcl hat hwa hx
    simp only [e7, e0, e1, e5, e6, d1, d2, d3, hx5, Int.toNat_natCast, ↓D0, ↓D1, ↓D2, ↓D3, ↓D4, ↓D5, ↓D6, ↓D7, ↓D8, ↓D9, U0, U1, U2, U3, U4, U5, U6, U7, U8, U9, U10, ↓reduceIte, Nat.reduceAdd, Nat.reduceMul, Nat.reduceSub, Nat.reduceEqDiff, Nat.reduceBEq, Nat.reduceLeDiff, Nat.reduceLT, Int.reduceAdd, Int.reduceMul, Int.reduceSub, Int.reduceLT, Int.reduceLE, Int.reduceToNat, Int.reduceEq, Int.reduceNe, Int.reduceBEq, Int.reduceBNe, ne_eq, eq_self]
    refine newB_intro fun r hr1 f1 f2 => ?_
    have hS := hS.new f1 (.cells #[.int .i64 dd, .int .i64 cl, .int .i64 at', .int .u64 wa, .int .u64 x] 31 (0, 0))
    have hr1 := hS.look
    have rr := fun o => rd_of hr1 o
    have hc : (decide (0 ≤ at') = true ∧ decide (at' < (n : Int)) = true ∧ 0 ≤ at' ∧ at' < w.n) ∨ (decide (0 ≤ at') = true ∧ decide (at' < (n : Int)) = false ∧ ¬ (0 ≤ at' ∧ at' < w.n)) ∨ (decide (0 ≤ at') = false ∧ ¬ (0 ≤ at' ∧ at' < w.n)) := by
      by_cases h1 : 0 ≤ at'
      · by_cases h2 : at' < (n : Int)
        · exact .inl ⟨decide_eq_true h1, decide_eq_true h2, h1, by omega⟩
        · exact .inr (.inl ⟨decide_eq_true h1, decide_eq_false h2, fun h => by omega⟩)
      · exact .inr (.inr ⟨decide_eq_false h1, fun h => by omega⟩)
    rcases hc with ⟨c1, c2, hin⟩ | ⟨c1, c2, hin⟩ | ⟨c1, hin⟩
    · simp only [e7, e0, e1, e5, e6, hr1, rr, c1, c2, Ev.upd_upd, ↓D0, ↓D1, ↓D2, ↓D3, ↓D4, ↓D5, ↓D6, ↓D7, ↓D8, ↓D9, U0, U1, U2, U3, U4, U5, U6, U7, U8, U9, U10, ↓reduceIte, Nat.reduceAdd, Nat.reduceMul, Nat.reduceSub, Nat.reduceEqDiff, Nat.reduceBEq, Nat.reduceLeDiff, Nat.reduceLT, Int.reduceAdd, Int.reduceMul, Int.reduceSub, Int.reduceLT, Int.reduceLE, Int.reduceToNat, Int.reduceEq, Int.reduceNe, Int.reduceBEq, Int.reduceBNe, ne_eq, eq_self]
      refine newB_intro fun y hy f3 f4 => ?_
      have nry : (r = y) = False := f3 r (by rw [hr1]; rfl)
      have nyr : (y = r) = False := f4 r (by rw [hr1]; rfl)
      have hS := hS.new f3 (.cells #[.bool true] 4 (0, 0))
      have hy1 := hS.look
      have hr1 := hS.lk 1 rfl
      have hp1 := hS.lk 2 rfl
      have hq1 := hS.lk 3 rfl
      have hm1 := hS.lk 6 rfl
      have hs1 := hS.lk 7 rfl
      have ry := fun o => rd_of hy1 o
      have rr := fun o => rd_of hr1 o
      have rp := fun o => rd_of hp1 o
      have rq := fun o => rd_of hq1 o
      have rm := fun o => rd_of hm1 o
      have rs := fun o => rd_of hs1 o
      have npy : (p = y) = False := hS.qen 0 2 (by decide) rfl rfl
      have npr : (p = r) = False := hS.qen 1 2 (by decide) rfl rfl
      have nqy : (q = y) = False := hS.qen 0 3 (by decide) rfl rfl
      have nqr : (q = r) = False := hS.qen 1 3 (by decide) rfl rfl
      have nqp : (q = p) = False := hS.qen 2 3 (by decide) rfl rfl
      have nmy : (b' = y) = False := hS.qen 0 6 (by decide) rfl rfl
      have nmr : (b' = r) = False := hS.qen 1 6 (by decide) rfl rfl
      have nmp : (b' = p) = False := hS.qen 2 6 (by decide) rfl rfl
      have nmq : (b' = q) = False := hS.qen 3 6 (by decide) rfl rfl
      have nsy : (s' = y) = False := hS.qen 0 7 (by decide) rfl rfl
      have nsr : (s' = r) = False := hS.qen 1 7 (by decide) rfl rfl
      have nsp : (s' = p) = False := hS.qen 2 7 (by decide) rfl rfl
      have nsq : (s' = q) = False := hS.qen 3 7 (by decide) rfl rfl
      have nsm : (s' = b') = False := hS.qen 6 7 (by decide) rfl rfl
      have nyp : (y = p) = False := hS.neq 0 2 (by decide) rfl rfl
      have nyq : (y = q) = False := hS.neq 0 3 (by decide) rfl rfl
      have nym : (y = b') = False := hS.neq 0 6 (by decide) rfl rfl
      have nys : (y = s') = False := hS.neq 0 7 (by decide) rfl rfl
      have nrp : (r = p) = False := hS.neq 1 2 (by decide) rfl rfl
      have nrq : (r = q) = False := hS.neq 1 3 (by decide) rfl rfl
      have nrm : (r = b') = False := hS.neq 1 6 (by decide) rfl rfl
      have nrs : (r = s') = False := hS.neq 1 7 (by decide) rfl rfl
      have npq : (p = q) = False := hS.neq 2 3 (by decide) rfl rfl
      have npm : (p = b') = False := hS.neq 2 6 (by decide) rfl rfl
      have nps : (p = s') = False := hS.neq 2 7 (by decide) rfl rfl
      have nqm : (q = b') = False := hS.neq 3 6 (by decide) rfl rfl
      have nqs : (q = s') = False := hS.neq 3 7 (by decide) rfl rfl
      have nms : (b' = s') = False := hS.neq 6 7 (by decide) rfl rfl
      have i1 := hin.1
      have i2 := hin.2
      have i3 : at'.toNat < (urow w.n w.ws).size := by rw [urow_size]; omega
      by_cases d5 : 5 < dd
      · have g5 : decide (5 < dd) = true := decide_eq_true d5
        by_cases d6 : dd = 6
        · have g6 : (dd == 6) = true := beq_iff_eq.2 d6
          simp only [e7, e0, e1, e5, e6, hr1, rr, g5, nry, nyr, Ev.upd_upd, ↓D0, ↓D1, ↓D2, ↓D3, ↓D4, ↓D5, ↓D6, ↓D7, ↓D8, ↓D9, U0, U1, U2, U3, U4, U5, U6, U7, U8, U9, U10, ↓reduceIte, Nat.reduceAdd, Nat.reduceMul, Nat.reduceSub, Nat.reduceEqDiff, Nat.reduceBEq, Nat.reduceLeDiff, Nat.reduceLT, Int.reduceAdd, Int.reduceMul, Int.reduceSub, Int.reduceLT, Int.reduceLE, Int.reduceToNat, Int.reduceEq, Int.reduceNe, Int.reduceBEq, Int.reduceBNe, ne_eq, eq_self]
          refine draw_intro [(y, #[.bool true], []), (r, #[.int .i64 dd, .int .i64 cl, .int .i64 at', .int .u64 wa, .int .u64 x], []), (p, #[.pointer (some ⟨b, 0, none⟩)], [])] (by simp only [hy1, hr1, hp1, ↓D0, ↓D1, ↓D2, ↓D3, ↓D4, ↓D5, ↓D6, ↓D7, ↓D8, ↓D9, U0, U1, U2, U3, U4, U5, U6, U7, U8, U9, U10, ↓reduceIte, Nat.reduceAdd, Nat.reduceMul, Nat.reduceSub, Nat.reduceEqDiff, Nat.reduceBEq, Nat.reduceLeDiff, Nat.reduceLT, Int.reduceAdd, Int.reduceMul, Int.reduceSub, Int.reduceLT, Int.reduceLE, Int.reduceToNat, Int.reduceEq, Int.reduceNe, Int.reduceBEq, Int.reduceBNe, ne_eq, eq_self]) ?_
          simp only [e7, e0, e1, e5, e6, hr1, rr, hp1, rp, hy1, ry, g6, nry, nyr, npy, npr, ↓D0, ↓D1, ↓D2, ↓D3, ↓D4, ↓D5, ↓D6, ↓D7, ↓D8, ↓D9, U0, U1, U2, U3, U4, U5, U6, U7, U8, U9, U10, ↓reduceIte, Nat.reduceAdd, Nat.reduceMul, Nat.reduceSub, Nat.reduceEqDiff, Nat.reduceBEq, Nat.reduceLeDiff, Nat.reduceLT, Int.reduceAdd, Int.reduceMul, Int.reduceSub, Int.reduceLT, Int.reduceLE, Int.reduceToNat, Int.reduceEq, Int.reduceNe, Int.reduceBEq, Int.reduceBNe, ne_eq, eq_self]
          refine callT_of (c_put at' x hin.1 hin.2 hS.p5.p5) ?_
          rintro v H' ⟨rfl, hS⟩
          have hy1 := hS.lk 2 rfl
          have ry := fun o => rd_of hy1 o
          have hr1 := hS.lk 3 rfl
          have rr := fun o => rd_of hr1 o
          have hp1 := hS.lk 4 rfl
          have rp := fun o => rd_of hp1 o
          have hq1 := hS.lk 5 rfl
          have rq := fun o => rd_of hq1 o
          have hm1 := hS.lk 6 rfl
          have rm := fun o => rd_of hm1 o
          have rmn := fun o n => rdn_of hm1 o n
          have hs1 := hS.lk 7 rfl
          have rs := fun o => rd_of hs1 o
          obtain ⟨w2, hw2⟩ : ∃ w2, w2 = w.put at' x := ⟨_, rfl⟩
          rw [← hw2] at hS
          have hn2 : w2.n = n := by rw [hw2]; exact hwn
          have hg2 : w2.get at' = x := by rw [hw2]; exact if_pos rfl
          have hrow : (urow w.n w.ws).setIfInBounds at'.toNat (.int .u64 x) = urow w2.n w2.ws := by rw [hw2]; exact urow_set x
          have hmo : mobj s' d cp w = mobj s' d cp w2 := by rw [hw2]; rfl
          have hL2 : LogOk d cp w2 g := by rw [hw2]; exact ⟨hL.le, hL.lo, hL.hi, hL.own⟩
          have hst2 : w2.st = w.st := by rw [hw2]; rfl
          simp only [e7, e0, e1, e5, e6, hr1, rr, hp1, rp, hq1, rq, hy1, ry, hm1, rm, hs1, rs, nry, nyr, npy, npr, nqy, nqr, nqp, nmy, nmr, nmp, nmq, nsy, nsr, nsp, nsq, nsm, nyp, nrp, nyq, nrq, npq, nym, nrm, npm, nqm, nys, nrs, nps, nqs, nms, i1, i2, i3, g6, ↓D0, ↓D1, ↓D2, ↓D3, ↓D4, ↓D5, ↓D6, ↓D7, ↓D8, ↓D9, U0, U1, U2, U3, U4, U5, U6, U7, U8, U9, U10, ↓reduceIte, Nat.reduceAdd, Nat.reduceMul, Nat.reduceSub, Nat.reduceEqDiff, Nat.reduceBEq, Nat.reduceLeDiff, Nat.reduceLT, Int.reduceAdd, Int.reduceMul, Int.reduceSub, Int.reduceLT, Int.reduceLE, Int.reduceToNat, Int.reduceEq, Int.reduceNe, Int.reduceBEq, Int.reduceBNe, ne_eq, eq_self]
          refine draw_intro [(q, #[.pointer (some ⟨b', 0, none⟩)], []), (b', mobj s' d cp w, []), (r, #[.int .i64 dd, .int .i64 cl, .int .i64 at', .int .u64 wa, .int .u64 x], [])] (by simp only [hq1, hr1, hm1, ↓D0, ↓D1, ↓D2, ↓D3, ↓D4, ↓D5, ↓D6, ↓D7, ↓D8, ↓D9, U0, U1, U2, U3, U4, U5, U6, U7, U8, U9, U10, ↓reduceIte, Nat.reduceAdd, Nat.reduceMul, Nat.reduceSub, Nat.reduceEqDiff, Nat.reduceBEq, Nat.reduceLeDiff, Nat.reduceLT, Int.reduceAdd, Int.reduceMul, Int.reduceSub, Int.reduceLT, Int.reduceLE, Int.reduceToNat, Int.reduceEq, Int.reduceNe, Int.reduceBEq, Int.reduceBNe, ne_eq, eq_self]) ?_
          simp only [e7, e0, e1, e5, e6, hr1, rr, hp1, rp, hq1, rq, hy1, ry, hm1, rm, hs1, rs, nry, nyr, npy, npr, nqy, nqr, nqp, nmy, nmr, nmp, nmq, nsy, nsr, nsp, nsq, nsm, nyp, nrp, nyq, nrq, npq, nym, nrm, npm, nqm, nys, nrs, nps, nqs, nms, i1, i2, i3, g6, mobj, ↓D0, ↓D1, ↓D2, ↓D3, ↓D4, ↓D5, ↓D6, ↓D7, ↓D8, ↓D9, U0, U1, U2, U3, U4, U5, U6, U7, U8, U9, U10, ↓reduceIte, Nat.reduceAdd, Nat.reduceMul, Nat.reduceSub, Nat.reduceEqDiff, Nat.reduceBEq, Nat.reduceLeDiff, Nat.reduceLT, Int.reduceAdd, Int.reduceMul, Int.reduceSub, Int.reduceLT, Int.reduceLE, Int.reduceToNat, Int.reduceEq, Int.reduceNe, Int.reduceBEq, Int.reduceBNe, ne_eq, eq_self]
          rw [hrow]
          have hS := (hS.p7.set (.cells (urow w2.n w2.ws) 29 (0, 0)))
          have hS := hS.p7.p7.p7.p7.p7.p7.p7
          have hy1 := hS.lk 2 rfl
          have ry := fun o => rd_of hy1 o
          have hr1 := hS.lk 3 rfl
          have rr := fun o => rd_of hr1 o
          have hp1 := hS.lk 4 rfl
          have rp := fun o => rd_of hp1 o
          have hq1 := hS.lk 5 rfl
          have rq := fun o => rd_of hq1 o
          have hm1 := hS.lk 6 rfl
          have rm := fun o => rd_of hm1 o
          have rmn := fun o n => rdn_of hm1 o n
          have hs1 := hS.lk 7 rfl
          have rs := fun o => rd_of hs1 o
          have ra : (urow w2.n w2.ws)[at'.toNat]? = some (.int .u64 (w2.ws at'.toNat)) := urow_at (by omega)
          have rb : (w2.get at' != w2.ws at'.toNat) = false := by simp [Wd.get]
          refine draw_intro [(y, #[.bool true], []), (p, #[.pointer (some ⟨b, 0, none⟩)], []), (r, #[.int .i64 dd, .int .i64 cl, .int .i64 at', .int .u64 wa, .int .u64 x], []), (q, #[.pointer (some ⟨b', 0, none⟩)], []), (b', mobj s' d cp w, []), (s', urow w2.n w2.ws, [])] (by simp only [hy1, hp1, hq1, hr1, hm1, hs1, ↓D0, ↓D1, ↓D2, ↓D3, ↓D4, ↓D5, ↓D6, ↓D7, ↓D8, ↓D9, U0, U1, U2, U3, U4, U5, U6, U7, U8, U9, U10, ↓reduceIte, Nat.reduceAdd, Nat.reduceMul, Nat.reduceSub, Nat.reduceEqDiff, Nat.reduceBEq, Nat.reduceLeDiff, Nat.reduceLT, Int.reduceAdd, Int.reduceMul, Int.reduceSub, Int.reduceLT, Int.reduceLE, Int.reduceToNat, Int.reduceEq, Int.reduceNe, Int.reduceBEq, Int.reduceBNe, ne_eq, eq_self]) ?_
          simp only [e7, e0, e1, e5, e6, hr1, rr, hp1, rp, hq1, rq, hy1, ry, hm1, rm, hs1, rs, nry, nyr, npy, npr, nqy, nqr, nqp, nmy, nmr, nmp, nmq, nsy, nsr, nsp, nsq, nsm, nyp, nrp, nyq, nrq, npq, nym, nrm, npm, nqm, nys, nrs, nps, nqs, nms, i1, i2, i3, ra, mobj, ↓D0, ↓D1, ↓D2, ↓D3, ↓D4, ↓D5, ↓D6, ↓D7, ↓D8, ↓D9, U0, U1, U2, U3, U4, U5, U6, U7, U8, U9, U10, ↓reduceIte, Nat.reduceAdd, Nat.reduceMul, Nat.reduceSub, Nat.reduceEqDiff, Nat.reduceBEq, Nat.reduceLeDiff, Nat.reduceLT, Int.reduceAdd, Int.reduceMul, Int.reduceSub, Int.reduceLT, Int.reduceLE, Int.reduceToNat, Int.reduceEq, Int.reduceNe, Int.reduceBEq, Int.reduceBNe, ne_eq, eq_self]
          refine callT_of (c_look at' hin.1 (by omega) hS) ?_
          rintro v H' ⟨rfl, hS⟩
          have hy1 := hS.lk 2 rfl
          have ry := fun o => rd_of hy1 o
          have hr1 := hS.lk 3 rfl
          have rr := fun o => rd_of hr1 o
          have hp1 := hS.lk 4 rfl
          have rp := fun o => rd_of hp1 o
          have hq1 := hS.lk 5 rfl
          have rq := fun o => rd_of hq1 o
          have hm1 := hS.lk 6 rfl
          have rm := fun o => rd_of hm1 o
          have rmn := fun o n => rdn_of hm1 o n
          have hs1 := hS.lk 7 rfl
          have rs := fun o => rd_of hs1 o
          simp only [e7, e0, e1, e5, e6, hr1, rr, hp1, rp, hq1, rq, hy1, ry, hm1, rm, hs1, rs, nry, nyr, npy, npr, nqy, nqr, nqp, nmy, nmr, nmp, nmq, nsy, nsr, nsp, nsq, nsm, nyp, nrp, nyq, nrq, npq, nym, nrm, npm, nqm, nys, nrs, nps, nqs, nms, i1, i2, i3, ra, rb, wrap_w64, w1, mobj, ↓D0, ↓D1, ↓D2, ↓D3, ↓D4, ↓D5, ↓D6, ↓D7, ↓D8, ↓D9, U0, U1, U2, U3, U4, U5, U6, U7, U8, U9, U10, ↓reduceIte, Nat.reduceAdd, Nat.reduceMul, Nat.reduceSub, Nat.reduceEqDiff, Nat.reduceBEq, Nat.reduceLeDiff, Nat.reduceLT, Int.reduceAdd, Int.reduceMul, Int.reduceSub, Int.reduceLT, Int.reduceLE, Int.reduceToNat, Int.reduceEq, Int.reduceNe, Int.reduceBEq, Int.reduceBNe, ne_eq, eq_self]
          have hmB : mB b' s' d cp w = mB b' s' d cp w2 := by rw [hw2]; rfl
          rw [hmB] at hS
          exact ⟨⟨i + 1, w2, d, cp, g, by omega, hn2, by omega, by omega, hL2, rfl, by simp [gt, e0], by simp [gt, e1], by simp [gt, e5], by simp [gt, e6], hS.p2.tail.p2.tail.p3.p3⟩, by simp [gt, iv, e7]; omega⟩
        · have g6 : (dd == 6) = false := beq_eq_false_iff_ne.2 d6
          simp only [e7, e0, e1, e5, e6, hr1, rr, g5, nry, nyr, Ev.upd_upd, ↓D0, ↓D1, ↓D2, ↓D3, ↓D4, ↓D5, ↓D6, ↓D7, ↓D8, ↓D9, U0, U1, U2, U3, U4, U5, U6, U7, U8, U9, U10, ↓reduceIte, Nat.reduceAdd, Nat.reduceMul, Nat.reduceSub, Nat.reduceEqDiff, Nat.reduceBEq, Nat.reduceLeDiff, Nat.reduceLT, Int.reduceAdd, Int.reduceMul, Int.reduceSub, Int.reduceLT, Int.reduceLE, Int.reduceToNat, Int.reduceEq, Int.reduceNe, Int.reduceBEq, Int.reduceBNe, ne_eq, eq_self]
          refine draw_intro [(y, #[.bool true], []), (r, #[.int .i64 dd, .int .i64 cl, .int .i64 at', .int .u64 wa, .int .u64 x], []), (p, #[.pointer (some ⟨b, 0, none⟩)], [])] (by simp only [hy1, hr1, hp1, ↓D0, ↓D1, ↓D2, ↓D3, ↓D4, ↓D5, ↓D6, ↓D7, ↓D8, ↓D9, U0, U1, U2, U3, U4, U5, U6, U7, U8, U9, U10, ↓reduceIte, Nat.reduceAdd, Nat.reduceMul, Nat.reduceSub, Nat.reduceEqDiff, Nat.reduceBEq, Nat.reduceLeDiff, Nat.reduceLT, Int.reduceAdd, Int.reduceMul, Int.reduceSub, Int.reduceLT, Int.reduceLE, Int.reduceToNat, Int.reduceEq, Int.reduceNe, Int.reduceBEq, Int.reduceBNe, ne_eq, eq_self]) ?_
          simp only [e7, e0, e1, e5, e6, hr1, rr, hp1, rp, hy1, ry, g6, nry, nyr, npy, npr, ↓D0, ↓D1, ↓D2, ↓D3, ↓D4, ↓D5, ↓D6, ↓D7, ↓D8, ↓D9, U0, U1, U2, U3, U4, U5, U6, U7, U8, U9, U10, ↓reduceIte, Nat.reduceAdd, Nat.reduceMul, Nat.reduceSub, Nat.reduceEqDiff, Nat.reduceBEq, Nat.reduceLeDiff, Nat.reduceLT, Int.reduceAdd, Int.reduceMul, Int.reduceSub, Int.reduceLT, Int.reduceLE, Int.reduceToNat, Int.reduceEq, Int.reduceNe, Int.reduceBEq, Int.reduceBNe, ne_eq, eq_self]
          obtain ⟨w2, hw2⟩ : ∃ w2, w2 = w := ⟨_, rfl⟩
          have hS := hS.p5.p5
          rw [← hw2] at hS
          have hn2 : w2.n = n := by rw [hw2]; exact hwn
          have hL2 : LogOk d cp w2 g := by rw [hw2]; exact hL
          have hst2 : w2.st = w.st := by rw [hw2]
          rw [← hw2] at hm1 rm hs1 rs i2 i3
          have ra : (urow w2.n w2.ws)[at'.toNat]? = some (.int .u64 (w2.ws at'.toNat)) := urow_at (by omega)
          have rb : (w2.get at' != w2.ws at'.toNat) = false := by simp [Wd.get]
          refine draw_intro [(y, #[.bool true], []), (p, #[.pointer (some ⟨b, 0, none⟩)], []), (r, #[.int .i64 dd, .int .i64 cl, .int .i64 at', .int .u64 wa, .int .u64 x], []), (q, #[.pointer (some ⟨b', 0, none⟩)], []), (b', mobj s' d cp w2, []), (s', urow w2.n w2.ws, [])] (by simp only [hy1, hp1, hq1, hr1, hm1, hs1, ↓D0, ↓D1, ↓D2, ↓D3, ↓D4, ↓D5, ↓D6, ↓D7, ↓D8, ↓D9, U0, U1, U2, U3, U4, U5, U6, U7, U8, U9, U10, ↓reduceIte, Nat.reduceAdd, Nat.reduceMul, Nat.reduceSub, Nat.reduceEqDiff, Nat.reduceBEq, Nat.reduceLeDiff, Nat.reduceLT, Int.reduceAdd, Int.reduceMul, Int.reduceSub, Int.reduceLT, Int.reduceLE, Int.reduceToNat, Int.reduceEq, Int.reduceNe, Int.reduceBEq, Int.reduceBNe, ne_eq, eq_self]) ?_
          simp only [e7, e0, e1, e5, e6, hr1, rr, hp1, rp, hq1, rq, hy1, ry, hm1, rm, hs1, rs, nry, nyr, npy, npr, nqy, nqr, nqp, nmy, nmr, nmp, nmq, nsy, nsr, nsp, nsq, nsm, nyp, nrp, nyq, nrq, npq, nym, nrm, npm, nqm, nys, nrs, nps, nqs, nms, i1, i2, i3, ra, mobj, ↓D0, ↓D1, ↓D2, ↓D3, ↓D4, ↓D5, ↓D6, ↓D7, ↓D8, ↓D9, U0, U1, U2, U3, U4, U5, U6, U7, U8, U9, U10, ↓reduceIte, Nat.reduceAdd, Nat.reduceMul, Nat.reduceSub, Nat.reduceEqDiff, Nat.reduceBEq, Nat.reduceLeDiff, Nat.reduceLT, Int.reduceAdd, Int.reduceMul, Int.reduceSub, Int.reduceLT, Int.reduceLE, Int.reduceToNat, Int.reduceEq, Int.reduceNe, Int.reduceBEq, Int.reduceBNe, ne_eq, eq_self]
          refine callT_of (c_look at' hin.1 (by omega) hS) ?_
          rintro v H' ⟨rfl, hS⟩
          have hy1 := hS.lk 2 rfl
          have ry := fun o => rd_of hy1 o
          have hr1 := hS.lk 3 rfl
          have rr := fun o => rd_of hr1 o
          have hp1 := hS.lk 4 rfl
          have rp := fun o => rd_of hp1 o
          have hq1 := hS.lk 5 rfl
          have rq := fun o => rd_of hq1 o
          have hm1 := hS.lk 6 rfl
          have rm := fun o => rd_of hm1 o
          have rmn := fun o n => rdn_of hm1 o n
          have hs1 := hS.lk 7 rfl
          have rs := fun o => rd_of hs1 o
          simp only [e7, e0, e1, e5, e6, hr1, rr, hp1, rp, hq1, rq, hy1, ry, hm1, rm, hs1, rs, nry, nyr, npy, npr, nqy, nqr, nqp, nmy, nmr, nmp, nmq, nsy, nsr, nsp, nsq, nsm, nyp, nrp, nyq, nrq, npq, nym, nrm, npm, nqm, nys, nrs, nps, nqs, nms, i1, i2, i3, ra, rb, wrap_w64, w1, mobj, ↓D0, ↓D1, ↓D2, ↓D3, ↓D4, ↓D5, ↓D6, ↓D7, ↓D8, ↓D9, U0, U1, U2, U3, U4, U5, U6, U7, U8, U9, U10, ↓reduceIte, Nat.reduceAdd, Nat.reduceMul, Nat.reduceSub, Nat.reduceEqDiff, Nat.reduceBEq, Nat.reduceLeDiff, Nat.reduceLT, Int.reduceAdd, Int.reduceMul, Int.reduceSub, Int.reduceLT, Int.reduceLE, Int.reduceToNat, Int.reduceEq, Int.reduceNe, Int.reduceBEq, Int.reduceBNe, ne_eq, eq_self]
          exact ⟨⟨i + 1, w2, d, cp, g, by omega, hn2, by omega, by omega, hL2, rfl, by simp [gt, e0], by simp [gt, e1], by simp [gt, e5], by simp [gt, e6], hS.p2.tail.p2.tail.p3.p3⟩, by simp [gt, iv, e7]; omega⟩
      · have g5 : decide (5 < dd) = false := decide_eq_false d5
        simp only [e7, e0, e1, e5, e6, hr1, rr, g5, nry, nyr, Ev.upd_upd, ↓D0, ↓D1, ↓D2, ↓D3, ↓D4, ↓D5, ↓D6, ↓D7, ↓D8, ↓D9, U0, U1, U2, U3, U4, U5, U6, U7, U8, U9, U10, ↓reduceIte, Nat.reduceAdd, Nat.reduceMul, Nat.reduceSub, Nat.reduceEqDiff, Nat.reduceBEq, Nat.reduceLeDiff, Nat.reduceLT, Int.reduceAdd, Int.reduceMul, Int.reduceSub, Int.reduceLT, Int.reduceLE, Int.reduceToNat, Int.reduceEq, Int.reduceNe, Int.reduceBEq, Int.reduceBNe, ne_eq, eq_self]
        refine newB_intro fun z hz f5 f6 => ?_
        have nyz : (y = z) = False := f5 y (by rw [hy1]; rfl)
        have nzy : (z = y) = False := f6 y (by rw [hy1]; rfl)
        have nrz : (r = z) = False := f5 r (by rw [hr1]; rfl)
        have nzr : (z = r) = False := f6 r (by rw [hr1]; rfl)
        have npz : (p = z) = False := f5 p (by rw [hp1]; rfl)
        have nzp : (z = p) = False := f6 p (by rw [hp1]; rfl)
        have nqz : (q = z) = False := f5 q (by rw [hq1]; rfl)
        have nzq : (z = q) = False := f6 q (by rw [hq1]; rfl)
        have nmz : (b' = z) = False := f5 b' (by rw [hm1]; rfl)
        have nzm : (z = b') = False := f6 b' (by rw [hm1]; rfl)
        have hS := hS.new f5 (.cells #[.bool true] 4 (0, 0))
        have hS := hS.p1.p2.p3.p4
        have hq1 := hS.lk 0 rfl
        have rq := fun o => rd_of hq1 o
        have hp1 := hS.lk 1 rfl
        have rp := fun o => rd_of hp1 o
        have hr1 := hS.lk 2 rfl
        have rr := fun o => rd_of hr1 o
        have hy1 := hS.lk 3 rfl
        have ry := fun o => rd_of hy1 o
        have hz1 := hS.lk 4 rfl
        have rz := fun o => rd_of hz1 o
        have hS := hS.p1
        simp only [e7, e0, e1, e5, e6, Ev.upd_upd, ↓D0, ↓D1, ↓D2, ↓D3, ↓D4, ↓D5, ↓D6, ↓D7, ↓D8, ↓D9, U0, U1, U2, U3, U4, U5, U6, U7, U8, U9, U10, ↓reduceIte, Nat.reduceAdd, Nat.reduceMul, Nat.reduceSub, Nat.reduceEqDiff, Nat.reduceBEq, Nat.reduceLeDiff, Nat.reduceLT, Int.reduceAdd, Int.reduceMul, Int.reduceSub, Int.reduceLT, Int.reduceLE, Int.reduceToNat, Int.reduceEq, Int.reduceNe, Int.reduceBEq, Int.reduceBNe, ne_eq, eq_self]
        refine drawX_intro [(y, #[.bool true], [])] (by simp only [hy1, ↓D0, ↓D1, ↓D2, ↓D3, ↓D4, ↓D5, ↓D6, ↓D7, ↓D8, ↓D9, U0, U1, U2, U3, U4, U5, U6, U7, U8, U9, U10, ↓reduceIte, Nat.reduceAdd, Nat.reduceMul, Nat.reduceSub, Nat.reduceEqDiff, Nat.reduceBEq, Nat.reduceLeDiff, Nat.reduceLT, Int.reduceAdd, Int.reduceMul, Int.reduceSub, Int.reduceLT, Int.reduceLE, Int.reduceToNat, Int.reduceEq, Int.reduceNe, Int.reduceBEq, Int.reduceBNe, ne_eq, eq_self]) ?_
        refine x_take _ _ _ ?_
        simp only [e7, e0, e1, e5, e6, hy1, ry, ↓D0, ↓D1, ↓D2, ↓D3, ↓D4, ↓D5, ↓D6, ↓D7, ↓D8, ↓D9, U0, U1, U2, U3, U4, U5, U6, U7, U8, U9, U10, ↓reduceIte, Nat.reduceAdd, Nat.reduceMul, Nat.reduceSub, Nat.reduceEqDiff, Nat.reduceBEq, Nat.reduceLeDiff, Nat.reduceLT, Int.reduceAdd, Int.reduceMul, Int.reduceSub, Int.reduceLT, Int.reduceLE, Int.reduceToNat, Int.reduceEq, Int.reduceNe, Int.reduceBEq, Int.reduceBNe, ne_eq, eq_self]
        refine x_take _ _ _ ?_
        simp only [e7, e0, e1, e5, e6, hy1, ry, ↓D0, ↓D1, ↓D2, ↓D3, ↓D4, ↓D5, ↓D6, ↓D7, ↓D8, ↓D9, U0, U1, U2, U3, U4, U5, U6, U7, U8, U9, U10, ↓reduceIte, Nat.reduceAdd, Nat.reduceMul, Nat.reduceSub, Nat.reduceEqDiff, Nat.reduceBEq, Nat.reduceLeDiff, Nat.reduceLT, Int.reduceAdd, Int.reduceMul, Int.reduceSub, Int.reduceLT, Int.reduceLE, Int.reduceToNat, Int.reduceEq, Int.reduceNe, Int.reduceBEq, Int.reduceBNe, ne_eq, eq_self]
        refine x_grow2 _ _ _ ?_
        simp only [e7, e0, e1, e5, e6, hy1, ry, ↓D0, ↓D1, ↓D2, ↓D3, ↓D4, ↓D5, ↓D6, ↓D7, ↓D8, ↓D9, U0, U1, U2, U3, U4, U5, U6, U7, U8, U9, U10, ↓reduceIte, Nat.reduceAdd, Nat.reduceMul, Nat.reduceSub, Nat.reduceEqDiff, Nat.reduceBEq, Nat.reduceLeDiff, Nat.reduceLT, Int.reduceAdd, Int.reduceMul, Int.reduceSub, Int.reduceLT, Int.reduceLE, Int.reduceToNat, Int.reduceEq, Int.reduceNe, Int.reduceBEq, Int.reduceBNe, ne_eq, eq_self]
        obtain ⟨w2, hw2⟩ : ∃ w2, w2 = actW w dd cl at' wa x := ⟨_, rfl⟩
        have hn2 : w2.n = n := by rw [hw2, actW_n]; exact hwn
        have hst2 : w2.st = w.st + 1 := by rw [hw2, actW_st, w64_eq (by omega) (by omega)]
        refine callT_of (c_guard_rel (L := fun l' => ∃ d2 c2 g2, LogOk d2 c2 w2 g2 ∧ l' = wbox p b :: mbox q b' :: dbox r dd cl at' wa x :: bbox y true :: bbox z true :: wB b s w2 :: wR s w2 :: mB b' s' d2 c2 w2 :: wR s' w2 :: g2 :: h :: l) (e_wp1 _) hS fun e H1 hS => (c_wp1 hin.1 hin.2 hL (by omega) hS.p10.p10.p10.p10.p10.p10.p10.p10.p10.p10).mono fun v H' ⟨h1, d2, c2, g2, hL2, hS⟩ => ⟨h1, _, ⟨d2, c2, g2, by rw [hw2]; exact hL2, rfl⟩, by rw [hw2]; exact hS.p10⟩) ?_
        rintro v H' ⟨rfl, l', ⟨d2, c2, g2, hL2, rfl⟩, hS⟩
        have hS := hS.p6.p6
        have hp1 := hS.lk 2 rfl
        have rp := fun o => rd_of hp1 o
        have hq1 := hS.lk 3 rfl
        have rq := fun o => rd_of hq1 o
        have hr1 := hS.lk 4 rfl
        have rr := fun o => rd_of hr1 o
        have hy1 := hS.lk 5 rfl
        have ry := fun o => rd_of hy1 o
        have hz1 := hS.lk 6 rfl
        have rz := fun o => rd_of hz1 o
        have hm1 := hS.lk 7 rfl
        have rm := fun o => rd_of hm1 o
        have rmn := fun o n => rdn_of hm1 o n
        have hs1 := hS.lk 8 rfl
        have rs := fun o => rd_of hs1 o
        refine ⟨[(z, #[.bool true], []), (p, #[.pointer (some ⟨b, 0, none⟩)], []), (q, #[.pointer (some ⟨b', 0, none⟩)], []), (b', mobj s' d2 c2 w2, [])], by simp only [List.cons_append, List.nil_append, hy1, hz1, hp1, hq1, hm1, ↓D0, ↓D1, ↓D2, ↓D3, ↓D4, ↓D5, ↓D6, ↓D7, ↓D8, ↓D9, U0, U1, U2, U3, U4, U5, U6, U7, U8, U9, U10, ↓reduceIte, Nat.reduceAdd, Nat.reduceMul, Nat.reduceSub, Nat.reduceEqDiff, Nat.reduceBEq, Nat.reduceLeDiff, Nat.reduceLT, Int.reduceAdd, Int.reduceMul, Int.reduceSub, Int.reduceLT, Int.reduceLE, Int.reduceToNat, Int.reduceEq, Int.reduceNe, Int.reduceBEq, Int.reduceBNe, ne_eq, eq_self], ?_⟩
        have s1 : (w2.st == w2.st) = true := by simp
        have s2 : eqL [(0, false), (1, false), (2, false), (3, false), (4, false), (5, true)] (wlast w2) #[.int .i64 w2.cl, .int .i64 w2.kd, .int .i64 w2.pl, .int .u64 w2.was, .int .u64 w2.pt, .bool w2.ok] = some true := by simp [eqL, eqS, wlast]
        simp only [e7, e0, e1, e5, e6, hr1, rr, hp1, rp, hq1, rq, hy1, ry, hz1, rz, hm1, rm, rmn, npy, nqy, nmy, nqp, npq, nmp, npm, nmq, nqm, nyp, nyq, nym, nyz, nzy, npz, nzp, nqz, nzq, nmz, nzm, s1, s2, mobj, List.cons_append, List.nil_append, ↓D0, ↓D1, ↓D2, ↓D3, ↓D4, ↓D5, ↓D6, ↓D7, ↓D8, ↓D9, U0, U1, U2, U3, U4, U5, U6, U7, U8, U9, U10, ↓reduceIte, Nat.reduceAdd, Nat.reduceMul, Nat.reduceSub, Nat.reduceEqDiff, Nat.reduceBEq, Nat.reduceLeDiff, Nat.reduceLT, Int.reduceAdd, Int.reduceMul, Int.reduceSub, Int.reduceLT, Int.reduceLE, Int.reduceToNat, Int.reduceEq, Int.reduceNe, Int.reduceBEq, Int.reduceBNe, ne_eq, eq_self]
        refine callT_of (c_steps hS) ?_
        rintro v H' ⟨rfl, hS⟩
        have hp1 := hS.lk 2 rfl
        have rp := fun o => rd_of hp1 o
        have hq1 := hS.lk 3 rfl
        have rq := fun o => rd_of hq1 o
        have hr1 := hS.lk 4 rfl
        have rr := fun o => rd_of hr1 o
        have hy1 := hS.lk 5 rfl
        have ry := fun o => rd_of hy1 o
        have hz1 := hS.lk 6 rfl
        have rz := fun o => rd_of hz1 o
        have hm1 := hS.lk 7 rfl
        have rm := fun o => rd_of hm1 o
        have rmn := fun o n => rdn_of hm1 o n
        have hs1 := hS.lk 8 rfl
        have rs := fun o => rd_of hs1 o
        simp only [e7, e0, e1, e5, e6, hr1, rr, hp1, rp, hq1, rq, hy1, ry, hz1, rz, hm1, rm, rmn, npy, nqy, nmy, nqp, npq, nmp, npm, nmq, nqm, nyp, nyq, nym, nyz, nzy, npz, nzp, nqz, nzq, nmz, nzm, s1, s2, mobj, List.cons_append, List.nil_append, ↓D0, ↓D1, ↓D2, ↓D3, ↓D4, ↓D5, ↓D6, ↓D7, ↓D8, ↓D9, U0, U1, U2, U3, U4, U5, U6, U7, U8, U9, U10, ↓reduceIte, Nat.reduceAdd, Nat.reduceMul, Nat.reduceSub, Nat.reduceEqDiff, Nat.reduceBEq, Nat.reduceLeDiff, Nat.reduceLT, Int.reduceAdd, Int.reduceMul, Int.reduceSub, Int.reduceLT, Int.reduceLE, Int.reduceToNat, Int.reduceEq, Int.reduceNe, Int.reduceBEq, Int.reduceBNe, ne_eq, eq_self]
        refine callT_of (c_last hS) ?_
        rintro v H' ⟨rfl, hS⟩
        have hp1 := hS.lk 2 rfl
        have rp := fun o => rd_of hp1 o
        have hq1 := hS.lk 3 rfl
        have rq := fun o => rd_of hq1 o
        have hr1 := hS.lk 4 rfl
        have rr := fun o => rd_of hr1 o
        have hy1 := hS.lk 5 rfl
        have ry := fun o => rd_of hy1 o
        have hz1 := hS.lk 6 rfl
        have rz := fun o => rd_of hz1 o
        have hm1 := hS.lk 7 rfl
        have rm := fun o => rd_of hm1 o
        have rmn := fun o n => rdn_of hm1 o n
        have hs1 := hS.lk 8 rfl
        have rs := fun o => rd_of hs1 o
        simp only [e7, e0, e1, e5, e6, hr1, rr, hp1, rp, hq1, rq, hy1, ry, hz1, rz, hm1, rm, rmn, npy, nqy, nmy, nqp, npq, nmp, npm, nmq, nqm, nyp, nyq, nym, nyz, nzy, npz, nzp, nqz, nzq, nmz, nzm, s1, s2, mobj, List.cons_append, List.nil_append, ↓D0, ↓D1, ↓D2, ↓D3, ↓D4, ↓D5, ↓D6, ↓D7, ↓D8, ↓D9, U0, U1, U2, U3, U4, U5, U6, U7, U8, U9, U10, ↓reduceIte, Nat.reduceAdd, Nat.reduceMul, Nat.reduceSub, Nat.reduceEqDiff, Nat.reduceBEq, Nat.reduceLeDiff, Nat.reduceLT, Int.reduceAdd, Int.reduceMul, Int.reduceSub, Int.reduceLT, Int.reduceLE, Int.reduceToNat, Int.reduceEq, Int.reduceNe, Int.reduceBEq, Int.reduceBNe, ne_eq, eq_self]
        refine callT_of (c_all (by omega) hS) ?_
        rintro v H' ⟨a3, cap3, h3, rfl, hr3, hS⟩
        have hp1 := hS.lk 3 rfl
        have rp := fun o => rd_of hp1 o
        have hq1 := hS.lk 4 rfl
        have rq := fun o => rd_of hq1 o
        have hr1 := hS.lk 5 rfl
        have rr := fun o => rd_of hr1 o
        have hy1 := hS.lk 6 rfl
        have ry := fun o => rd_of hy1 o
        have hz1 := hS.lk 7 rfl
        have rz := fun o => rd_of hz1 o
        have hm1 := hS.lk 8 rfl
        have rm := fun o => rd_of hm1 o
        have rmn := fun o n => rdn_of hm1 o n
        have hs1 := hS.lk 9 rfl
        have rs := fun o => rd_of hs1 o
        simp only [e7, e0, e1, e5, e6, hr1, rr, hp1, rp, hq1, rq, hy1, ry, hz1, rz, hm1, rm, rmn, npy, nqy, nmy, nqp, npq, nmp, npm, nmq, nqm, nyp, nyq, nym, nyz, nzy, npz, nzp, nqz, nzq, nmz, nzm, s1, s2, mobj, List.cons_append, List.nil_append, ↓D0, ↓D1, ↓D2, ↓D3, ↓D4, ↓D5, ↓D6, ↓D7, ↓D8, ↓D9, U0, U1, U2, U3, U4, U5, U6, U7, U8, U9, U10, ↓reduceIte, Nat.reduceAdd, Nat.reduceMul, Nat.reduceSub, Nat.reduceEqDiff, Nat.reduceBEq, Nat.reduceLeDiff, Nat.reduceLT, Int.reduceAdd, Int.reduceMul, Int.reduceSub, Int.reduceLT, Int.reduceLE, Int.reduceToNat, Int.reduceEq, Int.reduceNe, Int.reduceBEq, Int.reduceBNe, ne_eq, eq_self]
        refine callT_of (c_same (h := h3) (h' := wR s' w2) hr3 (RowU.own s' w2.n w2.ws _ _) (by omega) hS (by simp) (by simp)) ?_
        rintro v H' ⟨rfl, hS⟩
        have hp1 := hS.lk 3 rfl
        have rp := fun o => rd_of hp1 o
        have hq1 := hS.lk 4 rfl
        have rq := fun o => rd_of hq1 o
        have hr1 := hS.lk 5 rfl
        have rr := fun o => rd_of hr1 o
        have hy1 := hS.lk 6 rfl
        have ry := fun o => rd_of hy1 o
        have hz1 := hS.lk 7 rfl
        have rz := fun o => rd_of hz1 o
        have hm1 := hS.lk 8 rfl
        have rm := fun o => rd_of hm1 o
        have rmn := fun o n => rdn_of hm1 o n
        have hs1 := hS.lk 9 rfl
        have rs := fun o => rd_of hs1 o
        simp only [e7, e0, e1, e5, e6, hr1, rr, hp1, rp, hq1, rq, hy1, ry, hz1, rz, hm1, rm, rmn, npy, nqy, nmy, nqp, npq, nmp, npm, nmq, nqm, nyp, nyq, nym, nyz, nzy, npz, nzp, nqz, nzq, nmz, nzm, s1, s2, mobj, List.cons_append, List.nil_append, wrap_w64, w1, ↓D0, ↓D1, ↓D2, ↓D3, ↓D4, ↓D5, ↓D6, ↓D7, ↓D8, ↓D9, U0, U1, U2, U3, U4, U5, U6, U7, U8, U9, U10, ↓reduceIte, Nat.reduceAdd, Nat.reduceMul, Nat.reduceSub, Nat.reduceEqDiff, Nat.reduceBEq, Nat.reduceLeDiff, Nat.reduceLT, Int.reduceAdd, Int.reduceMul, Int.reduceSub, Int.reduceLT, Int.reduceLE, Int.reduceToNat, Int.reduceEq, Int.reduceNe, Int.reduceBEq, Int.reduceBNe, ne_eq, eq_self]
        have hS := hS.tail.p4.tail.p4.tail.p4.tail.p3.p3
        exact ⟨⟨i + 1, w2, d2, c2, g2, by omega, hn2, by omega, by omega, hL2, rfl, by simp [gt, e0], by simp [gt, e1], by simp [gt, e5], by simp [gt, e6], hS⟩, by simp [gt, iv, e7]; omega⟩
    · simp only [e7, e0, e1, e5, e6, hr1, rr, c1, c2, Ev.upd_upd, ↓D0, ↓D1, ↓D2, ↓D3, ↓D4, ↓D5, ↓D6, ↓D7, ↓D8, ↓D9, U0, U1, U2, U3, U4, U5, U6, U7, U8, U9, U10, ↓reduceIte, Nat.reduceAdd, Nat.reduceMul, Nat.reduceSub, Nat.reduceEqDiff, Nat.reduceBEq, Nat.reduceLeDiff, Nat.reduceLT, Int.reduceAdd, Int.reduceMul, Int.reduceSub, Int.reduceLT, Int.reduceLE, Int.reduceToNat, Int.reduceEq, Int.reduceNe, Int.reduceBEq, Int.reduceBNe, ne_eq, eq_self]
      refine newB_intro fun y hy f3 f4 => ?_
      have nry : (r = y) = False := f3 r (by rw [hr1]; rfl)
      have nyr : (y = r) = False := f4 r (by rw [hr1]; rfl)
      have hS := hS.new f3 (.cells #[.bool false] 4 (0, 0))
      have hy1 := hS.lk 0 rfl
      have ry := fun o => rd_of hy1 o
      have hr1 := hS.lk 1 rfl
      have rr := fun o => rd_of hr1 o
      have hp1 := hS.lk 2 rfl
      have rp := fun o => rd_of hp1 o
      have hq1 := hS.lk 3 rfl
      have rq := fun o => rd_of hq1 o
      have hm1 := hS.lk 6 rfl
      have rm := fun o => rd_of hm1 o
      have rmn := fun o n => rdn_of hm1 o n
      have hs1 := hS.lk 7 rfl
      have rs := fun o => rd_of hs1 o
      have nyp : (y = p) = False := hS.neq 0 2 (by decide) rfl rfl
      have npy : (p = y) = False := hS.qen 0 2 (by decide) rfl rfl
      have nyq : (y = q) = False := hS.neq 0 3 (by decide) rfl rfl
      have nqy : (q = y) = False := hS.qen 0 3 (by decide) rfl rfl
      have nym : (y = b') = False := hS.neq 0 6 (by decide) rfl rfl
      have nmy : (b' = y) = False := hS.qen 0 6 (by decide) rfl rfl
      have nrp : (r = p) = False := hS.neq 1 2 (by decide) rfl rfl
      have npr : (p = r) = False := hS.qen 1 2 (by decide) rfl rfl
      have nrq : (r = q) = False := hS.neq 1 3 (by decide) rfl rfl
      have nqr : (q = r) = False := hS.qen 1 3 (by decide) rfl rfl
      have nrm : (r = b') = False := hS.neq 1 6 (by decide) rfl rfl
      have nmr : (b' = r) = False := hS.qen 1 6 (by decide) rfl rfl
      have npq : (p = q) = False := hS.neq 2 3 (by decide) rfl rfl
      have nqp : (q = p) = False := hS.qen 2 3 (by decide) rfl rfl
      have npm : (p = b') = False := hS.neq 2 6 (by decide) rfl rfl
      have nmp : (b' = p) = False := hS.qen 2 6 (by decide) rfl rfl
      have nqm : (q = b') = False := hS.neq 3 6 (by decide) rfl rfl
      have nmq : (b' = q) = False := hS.qen 3 6 (by decide) rfl rfl
      by_cases d5 : 5 < dd
      · have g5 : decide (5 < dd) = true := decide_eq_true d5
        by_cases d6 : dd = 6
        · have g6 : (dd == 6) = true := beq_iff_eq.2 d6
          simp only [e7, e0, e1, e5, e6, hr1, rr, g5, nry, nyr, Ev.upd_upd, ↓D0, ↓D1, ↓D2, ↓D3, ↓D4, ↓D5, ↓D6, ↓D7, ↓D8, ↓D9, U0, U1, U2, U3, U4, U5, U6, U7, U8, U9, U10, ↓reduceIte, Nat.reduceAdd, Nat.reduceMul, Nat.reduceSub, Nat.reduceEqDiff, Nat.reduceBEq, Nat.reduceLeDiff, Nat.reduceLT, Int.reduceAdd, Int.reduceMul, Int.reduceSub, Int.reduceLT, Int.reduceLE, Int.reduceToNat, Int.reduceEq, Int.reduceNe, Int.reduceBEq, Int.reduceBNe, ne_eq, eq_self]
          refine draw_intro [(y, #[.bool false], []), (r, #[.int .i64 dd, .int .i64 cl, .int .i64 at', .int .u64 wa, .int .u64 x], []), (p, #[.pointer (some ⟨b, 0, none⟩)], [])] (by simp only [hy1, hr1, hp1, ↓D0, ↓D1, ↓D2, ↓D3, ↓D4, ↓D5, ↓D6, ↓D7, ↓D8, ↓D9, U0, U1, U2, U3, U4, U5, U6, U7, U8, U9, U10, ↓reduceIte, Nat.reduceAdd, Nat.reduceMul, Nat.reduceSub, Nat.reduceEqDiff, Nat.reduceBEq, Nat.reduceLeDiff, Nat.reduceLT, Int.reduceAdd, Int.reduceMul, Int.reduceSub, Int.reduceLT, Int.reduceLE, Int.reduceToNat, Int.reduceEq, Int.reduceNe, Int.reduceBEq, Int.reduceBNe, ne_eq, eq_self]) ?_
          simp only [e7, e0, e1, e5, e6, hr1, rr, hp1, rp, hq1, rq, hy1, ry, nry, nyr, npy, npr, nqy, nqr, nqp, nyp, nrp, nyq, nrq, npq, g6, ↓D0, ↓D1, ↓D2, ↓D3, ↓D4, ↓D5, ↓D6, ↓D7, ↓D8, ↓D9, U0, U1, U2, U3, U4, U5, U6, U7, U8, U9, U10, ↓reduceIte, Nat.reduceAdd, Nat.reduceMul, Nat.reduceSub, Nat.reduceEqDiff, Nat.reduceBEq, Nat.reduceLeDiff, Nat.reduceLT, Int.reduceAdd, Int.reduceMul, Int.reduceSub, Int.reduceLT, Int.reduceLE, Int.reduceToNat, Int.reduceEq, Int.reduceNe, Int.reduceBEq, Int.reduceBNe, ne_eq, eq_self]
          refine callT_of (c_put_no at' x hin hS.p5.p5) ?_
          rintro v H' ⟨rfl, hS⟩
          have hy1 := hS.lk 2 rfl
          have ry := fun o => rd_of hy1 o
          have hr1 := hS.lk 3 rfl
          have rr := fun o => rd_of hr1 o
          have hp1 := hS.lk 4 rfl
          have rp := fun o => rd_of hp1 o
          have hq1 := hS.lk 5 rfl
          have rq := fun o => rd_of hq1 o
          simp only [e7, e0, e1, e5, e6, hr1, rr, hp1, rp, hq1, rq, hy1, ry, nry, nyr, npy, npr, nqy, nqr, nqp, nyp, nrp, nyq, nrq, npq, g6, ↓D0, ↓D1, ↓D2, ↓D3, ↓D4, ↓D5, ↓D6, ↓D7, ↓D8, ↓D9, U0, U1, U2, U3, U4, U5, U6, U7, U8, U9, U10, ↓reduceIte, Nat.reduceAdd, Nat.reduceMul, Nat.reduceSub, Nat.reduceEqDiff, Nat.reduceBEq, Nat.reduceLeDiff, Nat.reduceLT, Int.reduceAdd, Int.reduceMul, Int.reduceSub, Int.reduceLT, Int.reduceLE, Int.reduceToNat, Int.reduceEq, Int.reduceNe, Int.reduceBEq, Int.reduceBNe, ne_eq, eq_self]
          refine draw_intro [(y, #[.bool false], []), (p, #[.pointer (some ⟨b, 0, none⟩)], []), (r, #[.int .i64 dd, .int .i64 cl, .int .i64 at', .int .u64 wa, .int .u64 x], [])] (by simp only [hy1, hp1, hr1, ↓D0, ↓D1, ↓D2, ↓D3, ↓D4, ↓D5, ↓D6, ↓D7, ↓D8, ↓D9, U0, U1, U2, U3, U4, U5, U6, U7, U8, U9, U10, ↓reduceIte, Nat.reduceAdd, Nat.reduceMul, Nat.reduceSub, Nat.reduceEqDiff, Nat.reduceBEq, Nat.reduceLeDiff, Nat.reduceLT, Int.reduceAdd, Int.reduceMul, Int.reduceSub, Int.reduceLT, Int.reduceLE, Int.reduceToNat, Int.reduceEq, Int.reduceNe, Int.reduceBEq, Int.reduceBNe, ne_eq, eq_self]) ?_
          simp only [e7, e0, e1, e5, e6, hr1, rr, hp1, rp, hq1, rq, hy1, ry, nry, nyr, npy, npr, nqy, nqr, nqp, nyp, nrp, nyq, nrq, npq, ↓D0, ↓D1, ↓D2, ↓D3, ↓D4, ↓D5, ↓D6, ↓D7, ↓D8, ↓D9, U0, U1, U2, U3, U4, U5, U6, U7, U8, U9, U10, ↓reduceIte, Nat.reduceAdd, Nat.reduceMul, Nat.reduceSub, Nat.reduceEqDiff, Nat.reduceBEq, Nat.reduceLeDiff, Nat.reduceLT, Int.reduceAdd, Int.reduceMul, Int.reduceSub, Int.reduceLT, Int.reduceLE, Int.reduceToNat, Int.reduceEq, Int.reduceNe, Int.reduceBEq, Int.reduceBNe, ne_eq, eq_self]
          refine callT_of (c_look_no at' hin hS) ?_
          rintro v H' ⟨rfl, hS⟩
          have hy1 := hS.lk 2 rfl
          have ry := fun o => rd_of hy1 o
          have hr1 := hS.lk 3 rfl
          have rr := fun o => rd_of hr1 o
          have hp1 := hS.lk 4 rfl
          have rp := fun o => rd_of hp1 o
          have hq1 := hS.lk 5 rfl
          have rq := fun o => rd_of hq1 o
          simp only [e7, e0, e1, e5, e6, hr1, rr, hp1, rp, hq1, rq, hy1, ry, nry, nyr, npy, npr, nqy, nqr, nqp, nyp, nrp, nyq, nrq, npq, wrap_w64, w1, ↓D0, ↓D1, ↓D2, ↓D3, ↓D4, ↓D5, ↓D6, ↓D7, ↓D8, ↓D9, U0, U1, U2, U3, U4, U5, U6, U7, U8, U9, U10, ↓reduceIte, Nat.reduceAdd, Nat.reduceMul, Nat.reduceSub, Nat.reduceEqDiff, Nat.reduceBEq, Nat.reduceLeDiff, Nat.reduceLT, Int.reduceAdd, Int.reduceMul, Int.reduceSub, Int.reduceLT, Int.reduceLE, Int.reduceToNat, Int.reduceEq, Int.reduceNe, Int.reduceBEq, Int.reduceBNe, ne_eq, eq_self]
          exact ⟨⟨i + 1, w, d, cp, g, by omega, hwn, by omega, by omega, hL, rfl, by simp [gt, e0], by simp [gt, e1], by simp [gt, e5], by simp [gt, e6], hS.p2.tail.p2.tail.p3.p3⟩, by simp [gt, iv, e7]; omega⟩
        · have g6 : (dd == 6) = false := beq_eq_false_iff_ne.2 d6
          simp only [e7, e0, e1, e5, e6, hr1, rr, g5, nry, nyr, Ev.upd_upd, ↓D0, ↓D1, ↓D2, ↓D3, ↓D4, ↓D5, ↓D6, ↓D7, ↓D8, ↓D9, U0, U1, U2, U3, U4, U5, U6, U7, U8, U9, U10, ↓reduceIte, Nat.reduceAdd, Nat.reduceMul, Nat.reduceSub, Nat.reduceEqDiff, Nat.reduceBEq, Nat.reduceLeDiff, Nat.reduceLT, Int.reduceAdd, Int.reduceMul, Int.reduceSub, Int.reduceLT, Int.reduceLE, Int.reduceToNat, Int.reduceEq, Int.reduceNe, Int.reduceBEq, Int.reduceBNe, ne_eq, eq_self]
          refine draw_intro [(y, #[.bool false], []), (r, #[.int .i64 dd, .int .i64 cl, .int .i64 at', .int .u64 wa, .int .u64 x], []), (p, #[.pointer (some ⟨b, 0, none⟩)], [])] (by simp only [hy1, hr1, hp1, ↓D0, ↓D1, ↓D2, ↓D3, ↓D4, ↓D5, ↓D6, ↓D7, ↓D8, ↓D9, U0, U1, U2, U3, U4, U5, U6, U7, U8, U9, U10, ↓reduceIte, Nat.reduceAdd, Nat.reduceMul, Nat.reduceSub, Nat.reduceEqDiff, Nat.reduceBEq, Nat.reduceLeDiff, Nat.reduceLT, Int.reduceAdd, Int.reduceMul, Int.reduceSub, Int.reduceLT, Int.reduceLE, Int.reduceToNat, Int.reduceEq, Int.reduceNe, Int.reduceBEq, Int.reduceBNe, ne_eq, eq_self]) ?_
          simp only [e7, e0, e1, e5, e6, hr1, rr, hp1, rp, hq1, rq, hy1, ry, nry, nyr, npy, npr, nqy, nqr, nqp, nyp, nrp, nyq, nrq, npq, g6, ↓D0, ↓D1, ↓D2, ↓D3, ↓D4, ↓D5, ↓D6, ↓D7, ↓D8, ↓D9, U0, U1, U2, U3, U4, U5, U6, U7, U8, U9, U10, ↓reduceIte, Nat.reduceAdd, Nat.reduceMul, Nat.reduceSub, Nat.reduceEqDiff, Nat.reduceBEq, Nat.reduceLeDiff, Nat.reduceLT, Int.reduceAdd, Int.reduceMul, Int.reduceSub, Int.reduceLT, Int.reduceLE, Int.reduceToNat, Int.reduceEq, Int.reduceNe, Int.reduceBEq, Int.reduceBNe, ne_eq, eq_self]
          have hS := hS.p5.p5
          refine draw_intro [(y, #[.bool false], []), (p, #[.pointer (some ⟨b, 0, none⟩)], []), (r, #[.int .i64 dd, .int .i64 cl, .int .i64 at', .int .u64 wa, .int .u64 x], [])] (by simp only [hy1, hp1, hr1, ↓D0, ↓D1, ↓D2, ↓D3, ↓D4, ↓D5, ↓D6, ↓D7, ↓D8, ↓D9, U0, U1, U2, U3, U4, U5, U6, U7, U8, U9, U10, ↓reduceIte, Nat.reduceAdd, Nat.reduceMul, Nat.reduceSub, Nat.reduceEqDiff, Nat.reduceBEq, Nat.reduceLeDiff, Nat.reduceLT, Int.reduceAdd, Int.reduceMul, Int.reduceSub, Int.reduceLT, Int.reduceLE, Int.reduceToNat, Int.reduceEq, Int.reduceNe, Int.reduceBEq, Int.reduceBNe, ne_eq, eq_self]) ?_
          simp only [e7, e0, e1, e5, e6, hr1, rr, hp1, rp, hq1, rq, hy1, ry, nry, nyr, npy, npr, nqy, nqr, nqp, nyp, nrp, nyq, nrq, npq, ↓D0, ↓D1, ↓D2, ↓D3, ↓D4, ↓D5, ↓D6, ↓D7, ↓D8, ↓D9, U0, U1, U2, U3, U4, U5, U6, U7, U8, U9, U10, ↓reduceIte, Nat.reduceAdd, Nat.reduceMul, Nat.reduceSub, Nat.reduceEqDiff, Nat.reduceBEq, Nat.reduceLeDiff, Nat.reduceLT, Int.reduceAdd, Int.reduceMul, Int.reduceSub, Int.reduceLT, Int.reduceLE, Int.reduceToNat, Int.reduceEq, Int.reduceNe, Int.reduceBEq, Int.reduceBNe, ne_eq, eq_self]
          refine callT_of (c_look_no at' hin hS) ?_
          rintro v H' ⟨rfl, hS⟩
          have hy1 := hS.lk 2 rfl
          have ry := fun o => rd_of hy1 o
          have hr1 := hS.lk 3 rfl
          have rr := fun o => rd_of hr1 o
          have hp1 := hS.lk 4 rfl
          have rp := fun o => rd_of hp1 o
          have hq1 := hS.lk 5 rfl
          have rq := fun o => rd_of hq1 o
          simp only [e7, e0, e1, e5, e6, hr1, rr, hp1, rp, hq1, rq, hy1, ry, nry, nyr, npy, npr, nqy, nqr, nqp, nyp, nrp, nyq, nrq, npq, wrap_w64, w1, ↓D0, ↓D1, ↓D2, ↓D3, ↓D4, ↓D5, ↓D6, ↓D7, ↓D8, ↓D9, U0, U1, U2, U3, U4, U5, U6, U7, U8, U9, U10, ↓reduceIte, Nat.reduceAdd, Nat.reduceMul, Nat.reduceSub, Nat.reduceEqDiff, Nat.reduceBEq, Nat.reduceLeDiff, Nat.reduceLT, Int.reduceAdd, Int.reduceMul, Int.reduceSub, Int.reduceLT, Int.reduceLE, Int.reduceToNat, Int.reduceEq, Int.reduceNe, Int.reduceBEq, Int.reduceBNe, ne_eq, eq_self]
          exact ⟨⟨i + 1, w, d, cp, g, by omega, hwn, by omega, by omega, hL, rfl, by simp [gt, e0], by simp [gt, e1], by simp [gt, e5], by simp [gt, e6], hS.p2.tail.p2.tail.p3.p3⟩, by simp [gt, iv, e7]; omega⟩
      · have g5 : decide (5 < dd) = false := decide_eq_false d5
        simp only [e7, e0, e1, e5, e6, hr1, rr, g5, nry, nyr, Ev.upd_upd, ↓D0, ↓D1, ↓D2, ↓D3, ↓D4, ↓D5, ↓D6, ↓D7, ↓D8, ↓D9, U0, U1, U2, U3, U4, U5, U6, U7, U8, U9, U10, ↓reduceIte, Nat.reduceAdd, Nat.reduceMul, Nat.reduceSub, Nat.reduceEqDiff, Nat.reduceBEq, Nat.reduceLeDiff, Nat.reduceLT, Int.reduceAdd, Int.reduceMul, Int.reduceSub, Int.reduceLT, Int.reduceLE, Int.reduceToNat, Int.reduceEq, Int.reduceNe, Int.reduceBEq, Int.reduceBNe, ne_eq, eq_self]
        refine newB_intro fun z hz f5 f6 => ?_
        have nyz : (y = z) = False := f5 y (by rw [hy1]; rfl)
        have nzy : (z = y) = False := f6 y (by rw [hy1]; rfl)
        have nrz : (r = z) = False := f5 r (by rw [hr1]; rfl)
        have nzr : (z = r) = False := f6 r (by rw [hr1]; rfl)
        have npz : (p = z) = False := f5 p (by rw [hp1]; rfl)
        have nzp : (z = p) = False := f6 p (by rw [hp1]; rfl)
        have nqz : (q = z) = False := f5 q (by rw [hq1]; rfl)
        have nzq : (z = q) = False := f6 q (by rw [hq1]; rfl)
        have nmz : (b' = z) = False := f5 b' (by rw [hm1]; rfl)
        have nzm : (z = b') = False := f6 b' (by rw [hm1]; rfl)
        have hS := hS.new f5 (.cells #[.bool true] 4 (0, 0))
        have hS := hS.p1.p2.p3.p4
        have hq1 := hS.lk 0 rfl
        have rq := fun o => rd_of hq1 o
        have hp1 := hS.lk 1 rfl
        have rp := fun o => rd_of hp1 o
        have hr1 := hS.lk 2 rfl
        have rr := fun o => rd_of hr1 o
        have hy1 := hS.lk 3 rfl
        have ry := fun o => rd_of hy1 o
        have hz1 := hS.lk 4 rfl
        have rz := fun o => rd_of hz1 o
        have hS := hS.p1
        simp only [e7, e0, e1, e5, e6, Ev.upd_upd, ↓D0, ↓D1, ↓D2, ↓D3, ↓D4, ↓D5, ↓D6, ↓D7, ↓D8, ↓D9, U0, U1, U2, U3, U4, U5, U6, U7, U8, U9, U10, ↓reduceIte, Nat.reduceAdd, Nat.reduceMul, Nat.reduceSub, Nat.reduceEqDiff, Nat.reduceBEq, Nat.reduceLeDiff, Nat.reduceLT, Int.reduceAdd, Int.reduceMul, Int.reduceSub, Int.reduceLT, Int.reduceLE, Int.reduceToNat, Int.reduceEq, Int.reduceNe, Int.reduceBEq, Int.reduceBNe, ne_eq, eq_self]
        refine drawX_intro [(y, #[.bool false], [])] (by simp only [hy1, ↓D0, ↓D1, ↓D2, ↓D3, ↓D4, ↓D5, ↓D6, ↓D7, ↓D8, ↓D9, U0, U1, U2, U3, U4, U5, U6, U7, U8, U9, U10, ↓reduceIte, Nat.reduceAdd, Nat.reduceMul, Nat.reduceSub, Nat.reduceEqDiff, Nat.reduceBEq, Nat.reduceLeDiff, Nat.reduceLT, Int.reduceAdd, Int.reduceMul, Int.reduceSub, Int.reduceLT, Int.reduceLE, Int.reduceToNat, Int.reduceEq, Int.reduceNe, Int.reduceBEq, Int.reduceBNe, ne_eq, eq_self]) ?_
        refine x_take _ _ _ ?_
        simp only [e7, e0, e1, e5, e6, hy1, ry, ↓D0, ↓D1, ↓D2, ↓D3, ↓D4, ↓D5, ↓D6, ↓D7, ↓D8, ↓D9, U0, U1, U2, U3, U4, U5, U6, U7, U8, U9, U10, ↓reduceIte, Nat.reduceAdd, Nat.reduceMul, Nat.reduceSub, Nat.reduceEqDiff, Nat.reduceBEq, Nat.reduceLeDiff, Nat.reduceLT, Int.reduceAdd, Int.reduceMul, Int.reduceSub, Int.reduceLT, Int.reduceLE, Int.reduceToNat, Int.reduceEq, Int.reduceNe, Int.reduceBEq, Int.reduceBNe, ne_eq, eq_self]
        refine x_take _ _ _ ?_
        simp only [e7, e0, e1, e5, e6, hy1, ry, ↓D0, ↓D1, ↓D2, ↓D3, ↓D4, ↓D5, ↓D6, ↓D7, ↓D8, ↓D9, U0, U1, U2, U3, U4, U5, U6, U7, U8, U9, U10, ↓reduceIte, Nat.reduceAdd, Nat.reduceMul, Nat.reduceSub, Nat.reduceEqDiff, Nat.reduceBEq, Nat.reduceLeDiff, Nat.reduceLT, Int.reduceAdd, Int.reduceMul, Int.reduceSub, Int.reduceLT, Int.reduceLE, Int.reduceToNat, Int.reduceEq, Int.reduceNe, Int.reduceBEq, Int.reduceBNe, ne_eq, eq_self]
        refine x_grow2 _ _ _ ?_
        simp only [e7, e0, e1, e5, e6, hy1, ry, ↓D0, ↓D1, ↓D2, ↓D3, ↓D4, ↓D5, ↓D6, ↓D7, ↓D8, ↓D9, U0, U1, U2, U3, U4, U5, U6, U7, U8, U9, U10, ↓reduceIte, Nat.reduceAdd, Nat.reduceMul, Nat.reduceSub, Nat.reduceEqDiff, Nat.reduceBEq, Nat.reduceLeDiff, Nat.reduceLT, Int.reduceAdd, Int.reduceMul, Int.reduceSub, Int.reduceLT, Int.reduceLE, Int.reduceToNat, Int.reduceEq, Int.reduceNe, Int.reduceBEq, Int.reduceBNe, ne_eq, eq_self]
        obtain ⟨w2, hw2⟩ : ∃ w2, w2 = w := ⟨_, rfl⟩
        obtain ⟨d2, hd2⟩ : ∃ d2, d2 = d := ⟨_, rfl⟩
        obtain ⟨c2, hc2⟩ : ∃ c2, c2 = cp := ⟨_, rfl⟩
        obtain ⟨g2, hg2⟩ : ∃ g2, g2 = g := ⟨_, rfl⟩
        have hn2 : w2.n = n := by rw [hw2]; exact hwn
        have hst2 : w2.st = w.st := by rw [hw2]
        have hL2 : LogOk d2 c2 w2 g2 := by rw [hw2, hd2, hc2, hg2]; exact hL
        rw [← hw2, ← hd2, ← hc2, ← hg2] at hS
        refine callT_of (c_guard_pan (l' := wbox p b :: mbox q b' :: dbox r dd cl at' wa x :: bbox y false :: bbox z true :: wB b s w2 :: wR s w2 :: mB b' s' d2 c2 w2 :: wR s' w2 :: g2 :: h :: l) (e_wp1 _) hS fun e H1 hS => (x_wp1 (by rw [hw2]; exact hin) hS.p6.p6.p6.p6.p6.p6).mono fun H' hS => hS.p6) ?_
        rintro v H' ⟨rfl, hS⟩
        have hS := hS.p6.p6
        have hp1 := hS.lk 2 rfl
        have rp := fun o => rd_of hp1 o
        have hq1 := hS.lk 3 rfl
        have rq := fun o => rd_of hq1 o
        have hr1 := hS.lk 4 rfl
        have rr := fun o => rd_of hr1 o
        have hy1 := hS.lk 5 rfl
        have ry := fun o => rd_of hy1 o
        have hz1 := hS.lk 6 rfl
        have rz := fun o => rd_of hz1 o
        have hm1 := hS.lk 7 rfl
        have rm := fun o => rd_of hm1 o
        have rmn := fun o n => rdn_of hm1 o n
        have hs1 := hS.lk 8 rfl
        have rs := fun o => rd_of hs1 o
        refine ⟨[(z, #[.bool true], []), (p, #[.pointer (some ⟨b, 0, none⟩)], []), (q, #[.pointer (some ⟨b', 0, none⟩)], []), (b', mobj s' d2 c2 w2, [])], by simp only [List.cons_append, List.nil_append, hy1, hz1, hp1, hq1, hm1, ↓D0, ↓D1, ↓D2, ↓D3, ↓D4, ↓D5, ↓D6, ↓D7, ↓D8, ↓D9, U0, U1, U2, U3, U4, U5, U6, U7, U8, U9, U10, ↓reduceIte, Nat.reduceAdd, Nat.reduceMul, Nat.reduceSub, Nat.reduceEqDiff, Nat.reduceBEq, Nat.reduceLeDiff, Nat.reduceLT, Int.reduceAdd, Int.reduceMul, Int.reduceSub, Int.reduceLT, Int.reduceLE, Int.reduceToNat, Int.reduceEq, Int.reduceNe, Int.reduceBEq, Int.reduceBNe, ne_eq, eq_self], ?_⟩
        have s1 : (w2.st == w2.st) = true := by simp
        have s2 : eqL [(0, false), (1, false), (2, false), (3, false), (4, false), (5, true)] (wlast w2) #[.int .i64 w2.cl, .int .i64 w2.kd, .int .i64 w2.pl, .int .u64 w2.was, .int .u64 w2.pt, .bool w2.ok] = some true := by simp [eqL, eqS, wlast]
        simp only [e7, e0, e1, e5, e6, hr1, rr, hp1, rp, hq1, rq, hy1, ry, hz1, rz, hm1, rm, rmn, npy, nqy, nmy, nqp, npq, nmp, npm, nmq, nqm, nyp, nyq, nym, nyz, nzy, npz, nzp, nqz, nzq, nmz, nzm, s1, s2, mobj, List.cons_append, List.nil_append, ↓D0, ↓D1, ↓D2, ↓D3, ↓D4, ↓D5, ↓D6, ↓D7, ↓D8, ↓D9, U0, U1, U2, U3, U4, U5, U6, U7, U8, U9, U10, ↓reduceIte, Nat.reduceAdd, Nat.reduceMul, Nat.reduceSub, Nat.reduceEqDiff, Nat.reduceBEq, Nat.reduceLeDiff, Nat.reduceLT, Int.reduceAdd, Int.reduceMul, Int.reduceSub, Int.reduceLT, Int.reduceLE, Int.reduceToNat, Int.reduceEq, Int.reduceNe, Int.reduceBEq, Int.reduceBNe, ne_eq, eq_self]
        refine callT_of (c_steps hS) ?_
        rintro v H' ⟨rfl, hS⟩
        have hp1 := hS.lk 2 rfl
        have rp := fun o => rd_of hp1 o
        have hq1 := hS.lk 3 rfl
        have rq := fun o => rd_of hq1 o
        have hr1 := hS.lk 4 rfl
        have rr := fun o => rd_of hr1 o
        have hy1 := hS.lk 5 rfl
        have ry := fun o => rd_of hy1 o
        have hz1 := hS.lk 6 rfl
        have rz := fun o => rd_of hz1 o
        have hm1 := hS.lk 7 rfl
        have rm := fun o => rd_of hm1 o
        have rmn := fun o n => rdn_of hm1 o n
        have hs1 := hS.lk 8 rfl
        have rs := fun o => rd_of hs1 o
        simp only [e7, e0, e1, e5, e6, hr1, rr, hp1, rp, hq1, rq, hy1, ry, hz1, rz, hm1, rm, rmn, npy, nqy, nmy, nqp, npq, nmp, npm, nmq, nqm, nyp, nyq, nym, nyz, nzy, npz, nzp, nqz, nzq, nmz, nzm, s1, s2, mobj, List.cons_append, List.nil_append, ↓D0, ↓D1, ↓D2, ↓D3, ↓D4, ↓D5, ↓D6, ↓D7, ↓D8, ↓D9, U0, U1, U2, U3, U4, U5, U6, U7, U8, U9, U10, ↓reduceIte, Nat.reduceAdd, Nat.reduceMul, Nat.reduceSub, Nat.reduceEqDiff, Nat.reduceBEq, Nat.reduceLeDiff, Nat.reduceLT, Int.reduceAdd, Int.reduceMul, Int.reduceSub, Int.reduceLT, Int.reduceLE, Int.reduceToNat, Int.reduceEq, Int.reduceNe, Int.reduceBEq, Int.reduceBNe, ne_eq, eq_self]
        refine callT_of (c_last hS) ?_
        rintro v H' ⟨rfl, hS⟩
        have hp1 := hS.lk 2 rfl
        have rp := fun o => rd_of hp1 o
        have hq1 := hS.lk 3 rfl
        have rq := fun o => rd_of hq1 o
        have hr1 := hS.lk 4 rfl
        have rr := fun o => rd_of hr1 o
        have hy1 := hS.lk 5 rfl
        have ry := fun o => rd_of hy1 o
        have hz1 := hS.lk 6 rfl
        have rz := fun o => rd_of hz1 o
        have hm1 := hS.lk 7 rfl
        have rm := fun o => rd_of hm1 o
        have rmn := fun o n => rdn_of hm1 o n
        have hs1 := hS.lk 8 rfl
        have rs := fun o => rd_of hs1 o
        simp only [e7, e0, e1, e5, e6, hr1, rr, hp1, rp, hq1, rq, hy1, ry, hz1, rz, hm1, rm, rmn, npy, nqy, nmy, nqp, npq, nmp, npm, nmq, nqm, nyp, nyq, nym, nyz, nzy, npz, nzp, nqz, nzq, nmz, nzm, s1, s2, mobj, List.cons_append, List.nil_append, ↓D0, ↓D1, ↓D2, ↓D3, ↓D4, ↓D5, ↓D6, ↓D7, ↓D8, ↓D9, U0, U1, U2, U3, U4, U5, U6, U7, U8, U9, U10, ↓reduceIte, Nat.reduceAdd, Nat.reduceMul, Nat.reduceSub, Nat.reduceEqDiff, Nat.reduceBEq, Nat.reduceLeDiff, Nat.reduceLT, Int.reduceAdd, Int.reduceMul, Int.reduceSub, Int.reduceLT, Int.reduceLE, Int.reduceToNat, Int.reduceEq, Int.reduceNe, Int.reduceBEq, Int.reduceBNe, ne_eq, eq_self]
        refine callT_of (c_all (by omega) hS) ?_
        rintro v H' ⟨a3, cap3, h3, rfl, hr3, hS⟩
        have hp1 := hS.lk 3 rfl
        have rp := fun o => rd_of hp1 o
        have hq1 := hS.lk 4 rfl
        have rq := fun o => rd_of hq1 o
        have hr1 := hS.lk 5 rfl
        have rr := fun o => rd_of hr1 o
        have hy1 := hS.lk 6 rfl
        have ry := fun o => rd_of hy1 o
        have hz1 := hS.lk 7 rfl
        have rz := fun o => rd_of hz1 o
        have hm1 := hS.lk 8 rfl
        have rm := fun o => rd_of hm1 o
        have rmn := fun o n => rdn_of hm1 o n
        have hs1 := hS.lk 9 rfl
        have rs := fun o => rd_of hs1 o
        simp only [e7, e0, e1, e5, e6, hr1, rr, hp1, rp, hq1, rq, hy1, ry, hz1, rz, hm1, rm, rmn, npy, nqy, nmy, nqp, npq, nmp, npm, nmq, nqm, nyp, nyq, nym, nyz, nzy, npz, nzp, nqz, nzq, nmz, nzm, s1, s2, mobj, List.cons_append, List.nil_append, ↓D0, ↓D1, ↓D2, ↓D3, ↓D4, ↓D5, ↓D6, ↓D7, ↓D8, ↓D9, U0, U1, U2, U3, U4, U5, U6, U7, U8, U9, U10, ↓reduceIte, Nat.reduceAdd, Nat.reduceMul, Nat.reduceSub, Nat.reduceEqDiff, Nat.reduceBEq, Nat.reduceLeDiff, Nat.reduceLT, Int.reduceAdd, Int.reduceMul, Int.reduceSub, Int.reduceLT, Int.reduceLE, Int.reduceToNat, Int.reduceEq, Int.reduceNe, Int.reduceBEq, Int.reduceBNe, ne_eq, eq_self]
        refine callT_of (c_same (h := h3) (h' := wR s' w2) hr3 (RowU.own s' w2.n w2.ws _ _) (by omega) hS (by simp) (by simp)) ?_
        rintro v H' ⟨rfl, hS⟩
        have hp1 := hS.lk 3 rfl
        have rp := fun o => rd_of hp1 o
        have hq1 := hS.lk 4 rfl
        have rq := fun o => rd_of hq1 o
        have hr1 := hS.lk 5 rfl
        have rr := fun o => rd_of hr1 o
        have hy1 := hS.lk 6 rfl
        have ry := fun o => rd_of hy1 o
        have hz1 := hS.lk 7 rfl
        have rz := fun o => rd_of hz1 o
        have hm1 := hS.lk 8 rfl
        have rm := fun o => rd_of hm1 o
        have rmn := fun o n => rdn_of hm1 o n
        have hs1 := hS.lk 9 rfl
        have rs := fun o => rd_of hs1 o
        simp only [e7, e0, e1, e5, e6, hr1, rr, hp1, rp, hq1, rq, hy1, ry, hz1, rz, hm1, rm, rmn, npy, nqy, nmy, nqp, npq, nmp, npm, nmq, nqm, nyp, nyq, nym, nyz, nzy, npz, nzp, nqz, nzq, nmz, nzm, s1, s2, mobj, List.cons_append, List.nil_append, wrap_w64, w1, ↓D0, ↓D1, ↓D2, ↓D3, ↓D4, ↓D5, ↓D6, ↓D7, ↓D8, ↓D9, U0, U1, U2, U3, U4, U5, U6, U7, U8, U9, U10, ↓reduceIte, Nat.reduceAdd, Nat.reduceMul, Nat.reduceSub, Nat.reduceEqDiff, Nat.reduceBEq, Nat.reduceLeDiff, Nat.reduceLT, Int.reduceAdd, Int.reduceMul, Int.reduceSub, Int.reduceLT, Int.reduceLE, Int.reduceToNat, Int.reduceEq, Int.reduceNe, Int.reduceBEq, Int.reduceBNe, ne_eq, eq_self]
        have hS := hS.tail.p4.tail.p4.tail.p4.tail.p3.p3
        exact ⟨⟨i + 1, w2, d2, c2, g2, by omega, hn2, by omega, by omega, hL2, rfl, by simp [gt, e0], by simp [gt, e1], by simp [gt, e5], by simp [gt, e6], hS⟩, by simp [gt, iv, e7]; omega⟩
    · simp only [e7, e0, e1, e5, e6, hr1, rr, c1, Ev.upd_upd, ↓D0, ↓D1, ↓D2, ↓D3, ↓D4, ↓D5, ↓D6, ↓D7, ↓D8, ↓D9, U0, U1, U2, U3, U4, U5, U6, U7, U8, U9, U10, ↓reduceIte, Nat.reduceAdd, Nat.reduceMul, Nat.reduceSub, Nat.reduceEqDiff, Nat.reduceBEq, Nat.reduceLeDiff, Nat.reduceLT, Int.reduceAdd, Int.reduceMul, Int.reduceSub, Int.reduceLT, Int.reduceLE, Int.reduceToNat, Int.reduceEq, Int.reduceNe, Int.reduceBEq, Int.reduceBNe, ne_eq, eq_self]
      refine newB_intro fun y hy f3 f4 => ?_
      have nry : (r = y) = False := f3 r (by rw [hr1]; rfl)
      have nyr : (y = r) = False := f4 r (by rw [hr1]; rfl)
      have hS := hS.new f3 (.cells #[.bool false] 4 (0, 0))
      have hy1 := hS.lk 0 rfl
      have ry := fun o => rd_of hy1 o
      have hr1 := hS.lk 1 rfl
      have rr := fun o => rd_of hr1 o
      have hp1 := hS.lk 2 rfl
      have rp := fun o => rd_of hp1 o
      have hq1 := hS.lk 3 rfl
      have rq := fun o => rd_of hq1 o
      have hm1 := hS.lk 6 rfl
      have rm := fun o => rd_of hm1 o
      have rmn := fun o n => rdn_of hm1 o n
      have hs1 := hS.lk 7 rfl
      have rs := fun o => rd_of hs1 o
      have nyp : (y = p) = False := hS.neq 0 2 (by decide) rfl rfl
      have npy : (p = y) = False := hS.qen 0 2 (by decide) rfl rfl
      have nyq : (y = q) = False := hS.neq 0 3 (by decide) rfl rfl
      have nqy : (q = y) = False := hS.qen 0 3 (by decide) rfl rfl
      have nym : (y = b') = False := hS.neq 0 6 (by decide) rfl rfl
      have nmy : (b' = y) = False := hS.qen 0 6 (by decide) rfl rfl
      have nrp : (r = p) = False := hS.neq 1 2 (by decide) rfl rfl
      have npr : (p = r) = False := hS.qen 1 2 (by decide) rfl rfl
      have nrq : (r = q) = False := hS.neq 1 3 (by decide) rfl rfl
      have nqr : (q = r) = False := hS.qen 1 3 (by decide) rfl rfl
      have nrm : (r = b') = False := hS.neq 1 6 (by decide) rfl rfl
      have nmr : (b' = r) = False := hS.qen 1 6 (by decide) rfl rfl
      have npq : (p = q) = False := hS.neq 2 3 (by decide) rfl rfl
      have nqp : (q = p) = False := hS.qen 2 3 (by decide) rfl rfl
      have npm : (p = b') = False := hS.neq 2 6 (by decide) rfl rfl
      have nmp : (b' = p) = False := hS.qen 2 6 (by decide) rfl rfl
      have nqm : (q = b') = False := hS.neq 3 6 (by decide) rfl rfl
      have nmq : (b' = q) = False := hS.qen 3 6 (by decide) rfl rfl
      by_cases d5 : 5 < dd
      · have g5 : decide (5 < dd) = true := decide_eq_true d5
        by_cases d6 : dd = 6
        · have g6 : (dd == 6) = true := beq_iff_eq.2 d6
          simp only [e7, e0, e1, e5, e6, hr1, rr, g5, nry, nyr, Ev.upd_upd, ↓D0, ↓D1, ↓D2, ↓D3, ↓D4, ↓D5, ↓D6, ↓D7, ↓D8, ↓D9, U0, U1, U2, U3, U4, U5, U6, U7, U8, U9, U10, ↓reduceIte, Nat.reduceAdd, Nat.reduceMul, Nat.reduceSub, Nat.reduceEqDiff, Nat.reduceBEq, Nat.reduceLeDiff, Nat.reduceLT, Int.reduceAdd, Int.reduceMul, Int.reduceSub, Int.reduceLT, Int.reduceLE, Int.reduceToNat, Int.reduceEq, Int.reduceNe, Int.reduceBEq, Int.reduceBNe, ne_eq, eq_self]
          refine draw_intro [(y, #[.bool false], []), (r, #[.int .i64 dd, .int .i64 cl, .int .i64 at', .int .u64 wa, .int .u64 x], []), (p, #[.pointer (some ⟨b, 0, none⟩)], [])] (by simp only [hy1, hr1, hp1, ↓D0, ↓D1, ↓D2, ↓D3, ↓D4, ↓D5, ↓D6, ↓D7, ↓D8, ↓D9, U0, U1, U2, U3, U4, U5, U6, U7, U8, U9, U10, ↓reduceIte, Nat.reduceAdd, Nat.reduceMul, Nat.reduceSub, Nat.reduceEqDiff, Nat.reduceBEq, Nat.reduceLeDiff, Nat.reduceLT, Int.reduceAdd, Int.reduceMul, Int.reduceSub, Int.reduceLT, Int.reduceLE, Int.reduceToNat, Int.reduceEq, Int.reduceNe, Int.reduceBEq, Int.reduceBNe, ne_eq, eq_self]) ?_
          simp only [e7, e0, e1, e5, e6, hr1, rr, hp1, rp, hq1, rq, hy1, ry, nry, nyr, npy, npr, nqy, nqr, nqp, nyp, nrp, nyq, nrq, npq, g6, ↓D0, ↓D1, ↓D2, ↓D3, ↓D4, ↓D5, ↓D6, ↓D7, ↓D8, ↓D9, U0, U1, U2, U3, U4, U5, U6, U7, U8, U9, U10, ↓reduceIte, Nat.reduceAdd, Nat.reduceMul, Nat.reduceSub, Nat.reduceEqDiff, Nat.reduceBEq, Nat.reduceLeDiff, Nat.reduceLT, Int.reduceAdd, Int.reduceMul, Int.reduceSub, Int.reduceLT, Int.reduceLE, Int.reduceToNat, Int.reduceEq, Int.reduceNe, Int.reduceBEq, Int.reduceBNe, ne_eq, eq_self]
          refine callT_of (c_put_no at' x hin hS.p5.p5) ?_
          rintro v H' ⟨rfl, hS⟩
          have hy1 := hS.lk 2 rfl
          have ry := fun o => rd_of hy1 o
          have hr1 := hS.lk 3 rfl
          have rr := fun o => rd_of hr1 o
          have hp1 := hS.lk 4 rfl
          have rp := fun o => rd_of hp1 o
          have hq1 := hS.lk 5 rfl
          have rq := fun o => rd_of hq1 o
          simp only [e7, e0, e1, e5, e6, hr1, rr, hp1, rp, hq1, rq, hy1, ry, nry, nyr, npy, npr, nqy, nqr, nqp, nyp, nrp, nyq, nrq, npq, g6, ↓D0, ↓D1, ↓D2, ↓D3, ↓D4, ↓D5, ↓D6, ↓D7, ↓D8, ↓D9, U0, U1, U2, U3, U4, U5, U6, U7, U8, U9, U10, ↓reduceIte, Nat.reduceAdd, Nat.reduceMul, Nat.reduceSub, Nat.reduceEqDiff, Nat.reduceBEq, Nat.reduceLeDiff, Nat.reduceLT, Int.reduceAdd, Int.reduceMul, Int.reduceSub, Int.reduceLT, Int.reduceLE, Int.reduceToNat, Int.reduceEq, Int.reduceNe, Int.reduceBEq, Int.reduceBNe, ne_eq, eq_self]
          refine draw_intro [(y, #[.bool false], []), (p, #[.pointer (some ⟨b, 0, none⟩)], []), (r, #[.int .i64 dd, .int .i64 cl, .int .i64 at', .int .u64 wa, .int .u64 x], [])] (by simp only [hy1, hp1, hr1, ↓D0, ↓D1, ↓D2, ↓D3, ↓D4, ↓D5, ↓D6, ↓D7, ↓D8, ↓D9, U0, U1, U2, U3, U4, U5, U6, U7, U8, U9, U10, ↓reduceIte, Nat.reduceAdd, Nat.reduceMul, Nat.reduceSub, Nat.reduceEqDiff, Nat.reduceBEq, Nat.reduceLeDiff, Nat.reduceLT, Int.reduceAdd, Int.reduceMul, Int.reduceSub, Int.reduceLT, Int.reduceLE, Int.reduceToNat, Int.reduceEq, Int.reduceNe, Int.reduceBEq, Int.reduceBNe, ne_eq, eq_self]) ?_
          simp only [e7, e0, e1, e5, e6, hr1, rr, hp1, rp, hq1, rq, hy1, ry, nry, nyr, npy, npr, nqy, nqr, nqp, nyp, nrp, nyq, nrq, npq, ↓D0, ↓D1, ↓D2, ↓D3, ↓D4, ↓D5, ↓D6, ↓D7, ↓D8, ↓D9, U0, U1, U2, U3, U4, U5, U6, U7, U8, U9, U10, ↓reduceIte, Nat.reduceAdd, Nat.reduceMul, Nat.reduceSub, Nat.reduceEqDiff, Nat.reduceBEq, Nat.reduceLeDiff, Nat.reduceLT, Int.reduceAdd, Int.reduceMul, Int.reduceSub, Int.reduceLT, Int.reduceLE, Int.reduceToNat, Int.reduceEq, Int.reduceNe, Int.reduceBEq, Int.reduceBNe, ne_eq, eq_self]
          refine callT_of (c_look_no at' hin hS) ?_
          rintro v H' ⟨rfl, hS⟩
          have hy1 := hS.lk 2 rfl
          have ry := fun o => rd_of hy1 o
          have hr1 := hS.lk 3 rfl
          have rr := fun o => rd_of hr1 o
          have hp1 := hS.lk 4 rfl
          have rp := fun o => rd_of hp1 o
          have hq1 := hS.lk 5 rfl
          have rq := fun o => rd_of hq1 o
          simp only [e7, e0, e1, e5, e6, hr1, rr, hp1, rp, hq1, rq, hy1, ry, nry, nyr, npy, npr, nqy, nqr, nqp, nyp, nrp, nyq, nrq, npq, wrap_w64, w1, ↓D0, ↓D1, ↓D2, ↓D3, ↓D4, ↓D5, ↓D6, ↓D7, ↓D8, ↓D9, U0, U1, U2, U3, U4, U5, U6, U7, U8, U9, U10, ↓reduceIte, Nat.reduceAdd, Nat.reduceMul, Nat.reduceSub, Nat.reduceEqDiff, Nat.reduceBEq, Nat.reduceLeDiff, Nat.reduceLT, Int.reduceAdd, Int.reduceMul, Int.reduceSub, Int.reduceLT, Int.reduceLE, Int.reduceToNat, Int.reduceEq, Int.reduceNe, Int.reduceBEq, Int.reduceBNe, ne_eq, eq_self]
          exact ⟨⟨i + 1, w, d, cp, g, by omega, hwn, by omega, by omega, hL, rfl, by simp [gt, e0], by simp [gt, e1], by simp [gt, e5], by simp [gt, e6], hS.p2.tail.p2.tail.p3.p3⟩, by simp [gt, iv, e7]; omega⟩
        · have g6 : (dd == 6) = false := beq_eq_false_iff_ne.2 d6
          simp only [e7, e0, e1, e5, e6, hr1, rr, g5, nry, nyr, Ev.upd_upd, ↓D0, ↓D1, ↓D2, ↓D3, ↓D4, ↓D5, ↓D6, ↓D7, ↓D8, ↓D9, U0, U1, U2, U3, U4, U5, U6, U7, U8, U9, U10, ↓reduceIte, Nat.reduceAdd, Nat.reduceMul, Nat.reduceSub, Nat.reduceEqDiff, Nat.reduceBEq, Nat.reduceLeDiff, Nat.reduceLT, Int.reduceAdd, Int.reduceMul, Int.reduceSub, Int.reduceLT, Int.reduceLE, Int.reduceToNat, Int.reduceEq, Int.reduceNe, Int.reduceBEq, Int.reduceBNe, ne_eq, eq_self]
          refine draw_intro [(y, #[.bool false], []), (r, #[.int .i64 dd, .int .i64 cl, .int .i64 at', .int .u64 wa, .int .u64 x], []), (p, #[.pointer (some ⟨b, 0, none⟩)], [])] (by simp only [hy1, hr1, hp1, ↓D0, ↓D1, ↓D2, ↓D3, ↓D4, ↓D5, ↓D6, ↓D7, ↓D8, ↓D9, U0, U1, U2, U3, U4, U5, U6, U7, U8, U9, U10, ↓reduceIte, Nat.reduceAdd, Nat.reduceMul, Nat.reduceSub, Nat.reduceEqDiff, Nat.reduceBEq, Nat.reduceLeDiff, Nat.reduceLT, Int.reduceAdd, Int.reduceMul, Int.reduceSub, Int.reduceLT, Int.reduceLE, Int.reduceToNat, Int.reduceEq, Int.reduceNe, Int.reduceBEq, Int.reduceBNe, ne_eq, eq_self]) ?_
          simp only [e7, e0, e1, e5, e6, hr1, rr, hp1, rp, hq1, rq, hy1, ry, nry, nyr, npy, npr, nqy, nqr, nqp, nyp, nrp, nyq, nrq, npq, g6, ↓D0, ↓D1, ↓D2, ↓D3, ↓D4, ↓D5, ↓D6, ↓D7, ↓D8, ↓D9, U0, U1, U2, U3, U4, U5, U6, U7, U8, U9, U10, ↓reduceIte, Nat.reduceAdd, Nat.reduceMul, Nat.reduceSub, Nat.reduceEqDiff, Nat.reduceBEq, Nat.reduceLeDiff, Nat.reduceLT, Int.reduceAdd, Int.reduceMul, Int.reduceSub, Int.reduceLT, Int.reduceLE, Int.reduceToNat, Int.reduceEq, Int.reduceNe, Int.reduceBEq, Int.reduceBNe, ne_eq, eq_self]
          have hS := hS.p5.p5
          refine draw_intro [(y, #[.bool false], []), (p, #[.pointer (some ⟨b, 0, none⟩)], []), (r, #[.int .i64 dd, .int .i64 cl, .int .i64 at', .int .u64 wa, .int .u64 x], [])] (by simp only [hy1, hp1, hr1, ↓D0, ↓D1, ↓D2, ↓D3, ↓D4, ↓D5, ↓D6, ↓D7, ↓D8, ↓D9, U0, U1, U2, U3, U4, U5, U6, U7, U8, U9, U10, ↓reduceIte, Nat.reduceAdd, Nat.reduceMul, Nat.reduceSub, Nat.reduceEqDiff, Nat.reduceBEq, Nat.reduceLeDiff, Nat.reduceLT, Int.reduceAdd, Int.reduceMul, Int.reduceSub, Int.reduceLT, Int.reduceLE, Int.reduceToNat, Int.reduceEq, Int.reduceNe, Int.reduceBEq, Int.reduceBNe, ne_eq, eq_self]) ?_
          simp only [e7, e0, e1, e5, e6, hr1, rr, hp1, rp, hq1, rq, hy1, ry, nry, nyr, npy, npr, nqy, nqr, nqp, nyp, nrp, nyq, nrq, npq, ↓D0, ↓D1, ↓D2, ↓D3, ↓D4, ↓D5, ↓D6, ↓D7, ↓D8, ↓D9, U0, U1, U2, U3, U4, U5, U6, U7, U8, U9, U10, ↓reduceIte, Nat.reduceAdd, Nat.reduceMul, Nat.reduceSub, Nat.reduceEqDiff, Nat.reduceBEq, Nat.reduceLeDiff, Nat.reduceLT, Int.reduceAdd, Int.reduceMul, Int.reduceSub, Int.reduceLT, Int.reduceLE, Int.reduceToNat, Int.reduceEq, Int.reduceNe, Int.reduceBEq, Int.reduceBNe, ne_eq, eq_self]
          refine callT_of (c_look_no at' hin hS) ?_
          rintro v H' ⟨rfl, hS⟩
          have hy1 := hS.lk 2 rfl
          have ry := fun o => rd_of hy1 o
          have hr1 := hS.lk 3 rfl
          have rr := fun o => rd_of hr1 o
          have hp1 := hS.lk 4 rfl
          have rp := fun o => rd_of hp1 o
          have hq1 := hS.lk 5 rfl
          have rq := fun o => rd_of hq1 o
          simp only [e7, e0, e1, e5, e6, hr1, rr, hp1, rp, hq1, rq, hy1, ry, nry, nyr, npy, npr, nqy, nqr, nqp, nyp, nrp, nyq, nrq, npq, wrap_w64, w1, ↓D0, ↓D1, ↓D2, ↓D3, ↓D4, ↓D5, ↓D6, ↓D7, ↓D8, ↓D9, U0, U1, U2, U3, U4, U5, U6, U7, U8, U9, U10, ↓reduceIte, Nat.reduceAdd, Nat.reduceMul, Nat.reduceSub, Nat.reduceEqDiff, Nat.reduceBEq, Nat.reduceLeDiff, Nat.reduceLT, Int.reduceAdd, Int.reduceMul, Int.reduceSub, Int.reduceLT, Int.reduceLE, Int.reduceToNat, Int.reduceEq, Int.reduceNe, Int.reduceBEq, Int.reduceBNe, ne_eq, eq_self]
          exact ⟨⟨i + 1, w, d, cp, g, by omega, hwn, by omega, by omega, hL, rfl, by simp [gt, e0], by simp [gt, e1], by simp [gt, e5], by simp [gt, e6], hS.p2.tail.p2.tail.p3.p3⟩, by simp [gt, iv, e7]; omega⟩
      · have g5 : decide (5 < dd) = false := decide_eq_false d5
        simp only [e7, e0, e1, e5, e6, hr1, rr, g5, nry, nyr, Ev.upd_upd, ↓D0, ↓D1, ↓D2, ↓D3, ↓D4, ↓D5, ↓D6, ↓D7, ↓D8, ↓D9, U0, U1, U2, U3, U4, U5, U6, U7, U8, U9, U10, ↓reduceIte, Nat.reduceAdd, Nat.reduceMul, Nat.reduceSub, Nat.reduceEqDiff, Nat.reduceBEq, Nat.reduceLeDiff, Nat.reduceLT, Int.reduceAdd, Int.reduceMul, Int.reduceSub, Int.reduceLT, Int.reduceLE, Int.reduceToNat, Int.reduceEq, Int.reduceNe, Int.reduceBEq, Int.reduceBNe, ne_eq, eq_self]
        refine newB_intro fun z hz f5 f6 => ?_
        have nyz : (y = z) = False := f5 y (by rw [hy1]; rfl)
        have nzy : (z = y) = False := f6 y (by rw [hy1]; rfl)
        have nrz : (r = z) = False := f5 r (by rw [hr1]; rfl)
        have nzr : (z = r) = False := f6 r (by rw [hr1]; rfl)
        have npz : (p = z) = False := f5 p (by rw [hp1]; rfl)
        have nzp : (z = p) = False := f6 p (by rw [hp1]; rfl)
        have nqz : (q = z) = False := f5 q (by rw [hq1]; rfl)
        have nzq : (z = q) = False := f6 q (by rw [hq1]; rfl)
        have nmz : (b' = z) = False := f5 b' (by rw [hm1]; rfl)
        have nzm : (z = b') = False := f6 b' (by rw [hm1]; rfl)
        have hS := hS.new f5 (.cells #[.bool true] 4 (0, 0))
        have hS := hS.p1.p2.p3.p4
        have hq1 := hS.lk 0 rfl
        have rq := fun o => rd_of hq1 o
        have hp1 := hS.lk 1 rfl
        have rp := fun o => rd_of hp1 o
        have hr1 := hS.lk 2 rfl
        have rr := fun o => rd_of hr1 o
        have hy1 := hS.lk 3 rfl
        have ry := fun o => rd_of hy1 o
        have hz1 := hS.lk 4 rfl
        have rz := fun o => rd_of hz1 o
        have hS := hS.p1
        simp only [e7, e0, e1, e5, e6, Ev.upd_upd, ↓D0, ↓D1, ↓D2, ↓D3, ↓D4, ↓D5, ↓D6, ↓D7, ↓D8, ↓D9, U0, U1, U2, U3, U4, U5, U6, U7, U8, U9, U10, ↓reduceIte, Nat.reduceAdd, Nat.reduceMul, Nat.reduceSub, Nat.reduceEqDiff, Nat.reduceBEq, Nat.reduceLeDiff, Nat.reduceLT, Int.reduceAdd, Int.reduceMul, Int.reduceSub, Int.reduceLT, Int.reduceLE, Int.reduceToNat, Int.reduceEq, Int.reduceNe, Int.reduceBEq, Int.reduceBNe, ne_eq, eq_self]
        refine drawX_intro [(y, #[.bool false], [])] (by simp only [hy1, ↓D0, ↓D1, ↓D2, ↓D3, ↓D4, ↓D5, ↓D6, ↓D7, ↓D8, ↓D9, U0, U1, U2, U3, U4, U5, U6, U7, U8, U9, U10, ↓reduceIte, Nat.reduceAdd, Nat.reduceMul, Nat.reduceSub, Nat.reduceEqDiff, Nat.reduceBEq, Nat.reduceLeDiff, Nat.reduceLT, Int.reduceAdd, Int.reduceMul, Int.reduceSub, Int.reduceLT, Int.reduceLE, Int.reduceToNat, Int.reduceEq, Int.reduceNe, Int.reduceBEq, Int.reduceBNe, ne_eq, eq_self]) ?_
        refine x_take _ _ _ ?_
        simp only [e7, e0, e1, e5, e6, hy1, ry, ↓D0, ↓D1, ↓D2, ↓D3, ↓D4, ↓D5, ↓D6, ↓D7, ↓D8, ↓D9, U0, U1, U2, U3, U4, U5, U6, U7, U8, U9, U10, ↓reduceIte, Nat.reduceAdd, Nat.reduceMul, Nat.reduceSub, Nat.reduceEqDiff, Nat.reduceBEq, Nat.reduceLeDiff, Nat.reduceLT, Int.reduceAdd, Int.reduceMul, Int.reduceSub, Int.reduceLT, Int.reduceLE, Int.reduceToNat, Int.reduceEq, Int.reduceNe, Int.reduceBEq, Int.reduceBNe, ne_eq, eq_self]
        refine x_take _ _ _ ?_
        simp only [e7, e0, e1, e5, e6, hy1, ry, ↓D0, ↓D1, ↓D2, ↓D3, ↓D4, ↓D5, ↓D6, ↓D7, ↓D8, ↓D9, U0, U1, U2, U3, U4, U5, U6, U7, U8, U9, U10, ↓reduceIte, Nat.reduceAdd, Nat.reduceMul, Nat.reduceSub, Nat.reduceEqDiff, Nat.reduceBEq, Nat.reduceLeDiff, Nat.reduceLT, Int.reduceAdd, Int.reduceMul, Int.reduceSub, Int.reduceLT, Int.reduceLE, Int.reduceToNat, Int.reduceEq, Int.reduceNe, Int.reduceBEq, Int.reduceBNe, ne_eq, eq_self]
        refine x_grow2 _ _ _ ?_
        simp only [e7, e0, e1, e5, e6, hy1, ry, ↓D0, ↓D1, ↓D2, ↓D3, ↓D4, ↓D5, ↓D6, ↓D7, ↓D8, ↓D9, U0, U1, U2, U3, U4, U5, U6, U7, U8, U9, U10, ↓reduceIte, Nat.reduceAdd, Nat.reduceMul, Nat.reduceSub, Nat.reduceEqDiff, Nat.reduceBEq, Nat.reduceLeDiff, Nat.reduceLT, Int.reduceAdd, Int.reduceMul, Int.reduceSub, Int.reduceLT, Int.reduceLE, Int.reduceToNat, Int.reduceEq, Int.reduceNe, Int.reduceBEq, Int.reduceBNe, ne_eq, eq_self]
        obtain ⟨w2, hw2⟩ : ∃ w2, w2 = w := ⟨_, rfl⟩
        obtain ⟨d2, hd2⟩ : ∃ d2, d2 = d := ⟨_, rfl⟩
        obtain ⟨c2, hc2⟩ : ∃ c2, c2 = cp := ⟨_, rfl⟩
        obtain ⟨g2, hg2⟩ : ∃ g2, g2 = g := ⟨_, rfl⟩
        have hn2 : w2.n = n := by rw [hw2]; exact hwn
        have hst2 : w2.st = w.st := by rw [hw2]
        have hL2 : LogOk d2 c2 w2 g2 := by rw [hw2, hd2, hc2, hg2]; exact hL
        rw [← hw2, ← hd2, ← hc2, ← hg2] at hS
        refine callT_of (c_guard_pan (l' := wbox p b :: mbox q b' :: dbox r dd cl at' wa x :: bbox y false :: bbox z true :: wB b s w2 :: wR s w2 :: mB b' s' d2 c2 w2 :: wR s' w2 :: g2 :: h :: l) (e_wp1 _) hS fun e H1 hS => (x_wp1 (by rw [hw2]; exact hin) hS.p6.p6.p6.p6.p6.p6).mono fun H' hS => hS.p6) ?_
        rintro v H' ⟨rfl, hS⟩
        have hS := hS.p6.p6
        have hp1 := hS.lk 2 rfl
        have rp := fun o => rd_of hp1 o
        have hq1 := hS.lk 3 rfl
        have rq := fun o => rd_of hq1 o
        have hr1 := hS.lk 4 rfl
        have rr := fun o => rd_of hr1 o
        have hy1 := hS.lk 5 rfl
        have ry := fun o => rd_of hy1 o
        have hz1 := hS.lk 6 rfl
        have rz := fun o => rd_of hz1 o
        have hm1 := hS.lk 7 rfl
        have rm := fun o => rd_of hm1 o
        have rmn := fun o n => rdn_of hm1 o n
        have hs1 := hS.lk 8 rfl
        have rs := fun o => rd_of hs1 o
        refine ⟨[(z, #[.bool true], []), (p, #[.pointer (some ⟨b, 0, none⟩)], []), (q, #[.pointer (some ⟨b', 0, none⟩)], []), (b', mobj s' d2 c2 w2, [])], by simp only [List.cons_append, List.nil_append, hy1, hz1, hp1, hq1, hm1, ↓D0, ↓D1, ↓D2, ↓D3, ↓D4, ↓D5, ↓D6, ↓D7, ↓D8, ↓D9, U0, U1, U2, U3, U4, U5, U6, U7, U8, U9, U10, ↓reduceIte, Nat.reduceAdd, Nat.reduceMul, Nat.reduceSub, Nat.reduceEqDiff, Nat.reduceBEq, Nat.reduceLeDiff, Nat.reduceLT, Int.reduceAdd, Int.reduceMul, Int.reduceSub, Int.reduceLT, Int.reduceLE, Int.reduceToNat, Int.reduceEq, Int.reduceNe, Int.reduceBEq, Int.reduceBNe, ne_eq, eq_self], ?_⟩
        have s1 : (w2.st == w2.st) = true := by simp
        have s2 : eqL [(0, false), (1, false), (2, false), (3, false), (4, false), (5, true)] (wlast w2) #[.int .i64 w2.cl, .int .i64 w2.kd, .int .i64 w2.pl, .int .u64 w2.was, .int .u64 w2.pt, .bool w2.ok] = some true := by simp [eqL, eqS, wlast]
        simp only [e7, e0, e1, e5, e6, hr1, rr, hp1, rp, hq1, rq, hy1, ry, hz1, rz, hm1, rm, rmn, npy, nqy, nmy, nqp, npq, nmp, npm, nmq, nqm, nyp, nyq, nym, nyz, nzy, npz, nzp, nqz, nzq, nmz, nzm, s1, s2, mobj, List.cons_append, List.nil_append, ↓D0, ↓D1, ↓D2, ↓D3, ↓D4, ↓D5, ↓D6, ↓D7, ↓D8, ↓D9, U0, U1, U2, U3, U4, U5, U6, U7, U8, U9, U10, ↓reduceIte, Nat.reduceAdd, Nat.reduceMul, Nat.reduceSub, Nat.reduceEqDiff, Nat.reduceBEq, Nat.reduceLeDiff, Nat.reduceLT, Int.reduceAdd, Int.reduceMul, Int.reduceSub, Int.reduceLT, Int.reduceLE, Int.reduceToNat, Int.reduceEq, Int.reduceNe, Int.reduceBEq, Int.reduceBNe, ne_eq, eq_self]
        refine callT_of (c_steps hS) ?_
        rintro v H' ⟨rfl, hS⟩
        have hp1 := hS.lk 2 rfl
        have rp := fun o => rd_of hp1 o
        have hq1 := hS.lk 3 rfl
        have rq := fun o => rd_of hq1 o
        have hr1 := hS.lk 4 rfl
        have rr := fun o => rd_of hr1 o
        have hy1 := hS.lk 5 rfl
        have ry := fun o => rd_of hy1 o
        have hz1 := hS.lk 6 rfl
        have rz := fun o => rd_of hz1 o
        have hm1 := hS.lk 7 rfl
        have rm := fun o => rd_of hm1 o
        have rmn := fun o n => rdn_of hm1 o n
        have hs1 := hS.lk 8 rfl
        have rs := fun o => rd_of hs1 o
        simp only [e7, e0, e1, e5, e6, hr1, rr, hp1, rp, hq1, rq, hy1, ry, hz1, rz, hm1, rm, rmn, npy, nqy, nmy, nqp, npq, nmp, npm, nmq, nqm, nyp, nyq, nym, nyz, nzy, npz, nzp, nqz, nzq, nmz, nzm, s1, s2, mobj, List.cons_append, List.nil_append, ↓D0, ↓D1, ↓D2, ↓D3, ↓D4, ↓D5, ↓D6, ↓D7, ↓D8, ↓D9, U0, U1, U2, U3, U4, U5, U6, U7, U8, U9, U10, ↓reduceIte, Nat.reduceAdd, Nat.reduceMul, Nat.reduceSub, Nat.reduceEqDiff, Nat.reduceBEq, Nat.reduceLeDiff, Nat.reduceLT, Int.reduceAdd, Int.reduceMul, Int.reduceSub, Int.reduceLT, Int.reduceLE, Int.reduceToNat, Int.reduceEq, Int.reduceNe, Int.reduceBEq, Int.reduceBNe, ne_eq, eq_self]
        refine callT_of (c_last hS) ?_
        rintro v H' ⟨rfl, hS⟩
        have hp1 := hS.lk 2 rfl
        have rp := fun o => rd_of hp1 o
        have hq1 := hS.lk 3 rfl
        have rq := fun o => rd_of hq1 o
        have hr1 := hS.lk 4 rfl
        have rr := fun o => rd_of hr1 o
        have hy1 := hS.lk 5 rfl
        have ry := fun o => rd_of hy1 o
        have hz1 := hS.lk 6 rfl
        have rz := fun o => rd_of hz1 o
        have hm1 := hS.lk 7 rfl
        have rm := fun o => rd_of hm1 o
        have rmn := fun o n => rdn_of hm1 o n
        have hs1 := hS.lk 8 rfl
        have rs := fun o => rd_of hs1 o
        simp only [e7, e0, e1, e5, e6, hr1, rr, hp1, rp, hq1, rq, hy1, ry, hz1, rz, hm1, rm, rmn, npy, nqy, nmy, nqp, npq, nmp, npm, nmq, nqm, nyp, nyq, nym, nyz, nzy, npz, nzp, nqz, nzq, nmz, nzm, s1, s2, mobj, List.cons_append, List.nil_append, ↓D0, ↓D1, ↓D2, ↓D3, ↓D4, ↓D5, ↓D6, ↓D7, ↓D8, ↓D9, U0, U1, U2, U3, U4, U5, U6, U7, U8, U9, U10, ↓reduceIte, Nat.reduceAdd, Nat.reduceMul, Nat.reduceSub, Nat.reduceEqDiff, Nat.reduceBEq, Nat.reduceLeDiff, Nat.reduceLT, Int.reduceAdd, Int.reduceMul, Int.reduceSub, Int.reduceLT, Int.reduceLE, Int.reduceToNat, Int.reduceEq, Int.reduceNe, Int.reduceBEq, Int.reduceBNe, ne_eq, eq_self]
        refine callT_of (c_all (by omega) hS) ?_
        rintro v H' ⟨a3, cap3, h3, rfl, hr3, hS⟩
        have hp1 := hS.lk 3 rfl
        have rp := fun o => rd_of hp1 o
        have hq1 := hS.lk 4 rfl
        have rq := fun o => rd_of hq1 o
        have hr1 := hS.lk 5 rfl
        have rr := fun o => rd_of hr1 o
        have hy1 := hS.lk 6 rfl
        have ry := fun o => rd_of hy1 o
        have hz1 := hS.lk 7 rfl
        have rz := fun o => rd_of hz1 o
        have hm1 := hS.lk 8 rfl
        have rm := fun o => rd_of hm1 o
        have rmn := fun o n => rdn_of hm1 o n
        have hs1 := hS.lk 9 rfl
        have rs := fun o => rd_of hs1 o
        simp only [e7, e0, e1, e5, e6, hr1, rr, hp1, rp, hq1, rq, hy1, ry, hz1, rz, hm1, rm, rmn, npy, nqy, nmy, nqp, npq, nmp, npm, nmq, nqm, nyp, nyq, nym, nyz, nzy, npz, nzp, nqz, nzq, nmz, nzm, s1, s2, mobj, List.cons_append, List.nil_append, ↓D0, ↓D1, ↓D2, ↓D3, ↓D4, ↓D5, ↓D6, ↓D7, ↓D8, ↓D9, U0, U1, U2, U3, U4, U5, U6, U7, U8, U9, U10, ↓reduceIte, Nat.reduceAdd, Nat.reduceMul, Nat.reduceSub, Nat.reduceEqDiff, Nat.reduceBEq, Nat.reduceLeDiff, Nat.reduceLT, Int.reduceAdd, Int.reduceMul, Int.reduceSub, Int.reduceLT, Int.reduceLE, Int.reduceToNat, Int.reduceEq, Int.reduceNe, Int.reduceBEq, Int.reduceBNe, ne_eq, eq_self]
        refine callT_of (c_same (h := h3) (h' := wR s' w2) hr3 (RowU.own s' w2.n w2.ws _ _) (by omega) hS (by simp) (by simp)) ?_
        rintro v H' ⟨rfl, hS⟩
        have hp1 := hS.lk 3 rfl
        have rp := fun o => rd_of hp1 o
        have hq1 := hS.lk 4 rfl
        have rq := fun o => rd_of hq1 o
        have hr1 := hS.lk 5 rfl
        have rr := fun o => rd_of hr1 o
        have hy1 := hS.lk 6 rfl
        have ry := fun o => rd_of hy1 o
        have hz1 := hS.lk 7 rfl
        have rz := fun o => rd_of hz1 o
        have hm1 := hS.lk 8 rfl
        have rm := fun o => rd_of hm1 o
        have rmn := fun o n => rdn_of hm1 o n
        have hs1 := hS.lk 9 rfl
        have rs := fun o => rd_of hs1 o
        simp only [e7, e0, e1, e5, e6, hr1, rr, hp1, rp, hq1, rq, hy1, ry, hz1, rz, hm1, rm, rmn, npy, nqy, nmy, nqp, npq, nmp, npm, nmq, nqm, nyp, nyq, nym, nyz, nzy, npz, nzp, nqz, nzq, nmz, nzm, s1, s2, mobj, List.cons_append, List.nil_append, wrap_w64, w1, ↓D0, ↓D1, ↓D2, ↓D3, ↓D4, ↓D5, ↓D6, ↓D7, ↓D8, ↓D9, U0, U1, U2, U3, U4, U5, U6, U7, U8, U9, U10, ↓reduceIte, Nat.reduceAdd, Nat.reduceMul, Nat.reduceSub, Nat.reduceEqDiff, Nat.reduceBEq, Nat.reduceLeDiff, Nat.reduceLT, Int.reduceAdd, Int.reduceMul, Int.reduceSub, Int.reduceLT, Int.reduceLE, Int.reduceToNat, Int.reduceEq, Int.reduceNe, Int.reduceBEq, Int.reduceBNe, ne_eq, eq_self]
        have hS := hS.tail.p4.tail.p4.tail.p4.tail.p3.p3
        exact ⟨⟨i + 1, w2, d2, c2, g2, by omega, hn2, by omega, by omega, hL2, rfl, by simp [gt, e0], by simp [gt, e1], by simp [gt, e5], by simp [gt, e6], hS⟩, by simp [gt, iv, e7]; omega⟩
  · have d1 : decide ((i : Int) < (k : Int)) = false := decide_eq_false (by omega)
    simp only [e7, e0, e1, e5, e6, d1, ↓D0, ↓D1, ↓D2, ↓D3, ↓D4, ↓D5, ↓D6, ↓D7, ↓D8, ↓D9, U0, U1, U2, U3, U4, U5, U6, U7, U8, U9, U10, ↓reduceIte, Nat.reduceAdd, Nat.reduceMul, Nat.reduceSub, Nat.reduceEqDiff, Nat.reduceBEq, Nat.reduceLeDiff, Nat.reduceLT, Int.reduceAdd, Int.reduceMul, Int.reduceSub, Int.reduceLT, Int.reduceLE, Int.reduceToNat, Int.reduceEq, Int.reduceNe, Int.reduceBEq, Int.reduceBNe, ne_eq, eq_self]
    exact hS.tail.tail.tail.tail.tail.tail.tail
end
theorem l_wordsplays {W : World} {a a2 : Option Addr} {n k cap cap2 : Nat} {ws : Nat → Int} {f : Nat → Nat → Int} (hn : n ≤ 9223372036854775807) (hr : RowU (memOf W) a n ws) (hU : ∀ i, i < n → IntKind.u64.has (ws i)) (hk : k ≤ 9223372036854775807) (hrd : RowD (memOf W) a2 k f) :
    CallP Try.prog W 3 #[.slice a n cap, .slice a2 k cap2] (memOf W) fun v H' => v = .bool true ∧ Sub (memOf W) H' :=
  (c_wordsplays hr hrd (Sep.one _)).mono fun v H' ⟨h1, h2⟩ => ⟨h1, h2.head⟩
end Go.Proofs.Ytgpojkafebmpgaa
