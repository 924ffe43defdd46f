/-
  The page claimer: contracts of package page. Conditions: none.
-/
import Derived.Test.YtpdmeneigpipiaaGreatCodeRef8
import Derived.Test.YtpdmeneigpipiaaGreatCodePage
import Derived.Test.YtpdmeneigpipiaaGreatWords
import Derived.Test.YtpdmeneigpipiaaGreatModel
set_option linter.unusedVariables false
set_option linter.unusedSimpArgs false
set_option maxRecDepth 8000
namespace Go.Proofs.YtpdmeneigpipiaaGreat
open Go Go.Ev Go.Pl Go.Ma

def Pc.enc (t : Pc) : Array Value := #[.int .i64 t.s.p, .int .i64 t.s.c, .int .i64 t.s.m, .int .i64 t.c, .int .i64 t.f, .int .i64 t.many, .bool t.em, .bool t.fd, .bool t.dn]
def pcB (k : Nat) (t : Pc) : Hp := sg k (.cells (Pc.enc t) 286 (0, 0))

section
variable {W : World} {H : Hp} {k b s : Nat} {t : Pc} {w : Wd} {l : List Hp}

theorem c_pcdone (hS : Sep (pcB k t :: l) H) :
    CallP Tryz.prog W 273 #[.pointer (some ⟨k, 0, none⟩)] H fun v H' => v = .bool t.dn ∧ Sep (pcB k t :: l) H' := by
  refine CallP.of mixed Tryz.func273 tr273 (by show 1 ≤ _; decide) fun W _ => ?_
  have hk := hS.look
  have r1 := fun o => rd_of hk o
  simp only [hk, r1, Pc.enc, ↓D0, ↓D1, ↓D2, ↓D3, ↓D4, ↓D5, ↓D6, ↓D7, ↓D8, ↓D9, ↓D10, U0, U1, U2, U3, U4, U5, U6, U7, U8, U9, U10, ↓reduceIte, Nat.reduceAdd, Nat.reduceMul, Nat.reduceSub, Nat.reduceEqDiff, Nat.reduceBEq, Nat.reduceLeDiff, Nat.reduceLT, Int.reduceAdd, Int.reduceMul, Int.reduceSub, Int.reduceLT, Int.reduceLE, Int.reduceToNat, Int.reduceEq, Int.reduceNe, Int.reduceBEq, Int.reduceBNe, ne_eq, eq_self]
  exact hS
theorem c_pcpage (hp : 0 < t.s.p) (h0 : 0 ≤ t.f + t.many) (h1 : t.f + t.many ≤ 9223372036854775807) (hS : Sep (pcB k t :: l) H) :
    CallP Tryz.prog W 244 #[.pointer (some ⟨k, 0, none⟩)] H fun v H' => v = .int .i64 t.pg ∧ Sep (pcB k t :: l) H' := by
  refine CallP.of mixed Tryz.func244 tr244 (by show 1 ≤ _; decide) fun W _ => ?_
  have hk := hS.look
  have r1 := fun o => rd_of hk o
  have w1 : w64 (t.f + t.many) = t.f + t.many := w64_eq (by omega) h1
  have e : (t.f + t.many).tmod t.s.p = (t.f + t.many) % t.s.p := Int.tmod_eq_emod_of_nonneg h0
  have hne : (t.s.p = 0) = False := eq_false (by omega)
  simp only [hk, r1, Pc.enc, wrap_w64, w1, e, hne, ↓D0, ↓D1, ↓D2, ↓D3, ↓D4, ↓D5, ↓D6, ↓D7, ↓D8, ↓D9, ↓D10, U0, U1, U2, U3, U4, U5, U6, U7, U8, U9, U10, ↓reduceIte, Nat.reduceAdd, Nat.reduceMul, Nat.reduceSub, Nat.reduceEqDiff, Nat.reduceBEq, Nat.reduceLeDiff, Nat.reduceLT, Int.reduceAdd, Int.reduceMul, Int.reduceSub, Int.reduceLT, Int.reduceLE, Int.reduceToNat, Int.reduceEq, Int.reduceNe, Int.reduceBEq, Int.reduceBNe, ne_eq, eq_self]
  exact ⟨rfl, hS⟩
theorem c_pcfound (hp : t.fd = true → 0 < t.s.p ∧ 0 ≤ t.f + t.many ∧ t.f + t.many ≤ 9223372036854775807) (hS : Sep (pcB k t :: l) H) :
    CallP Tryz.prog W 240 #[.pointer (some ⟨k, 0, none⟩)] H fun v H' => v = .tuple #[.int .i64 (if t.fd then t.pg else 0), .bool t.fd] ∧ Sep (pcB k t :: l) H' := by
  refine CallP.of mixed Tryz.func240 tr240 (by show 1 ≤ _; decide) fun W _ => ?_
  have hk := hS.look
  have r1 := fun o => rd_of hk o
  cases hf : t.fd
  · simp only [hk, r1, Pc.enc, hf, ↓D0, ↓D1, ↓D2, ↓D3, ↓D4, ↓D5, ↓D6, ↓D7, ↓D8, ↓D9, ↓D10, U0, U1, U2, U3, U4, U5, U6, U7, U8, U9, U10, ↓reduceIte, Nat.reduceAdd, Nat.reduceMul, Nat.reduceSub, Nat.reduceEqDiff, Nat.reduceBEq, Nat.reduceLeDiff, Nat.reduceLT, Int.reduceAdd, Int.reduceMul, Int.reduceSub, Int.reduceLT, Int.reduceLE, Int.reduceToNat, Int.reduceEq, Int.reduceNe, Int.reduceBEq, Int.reduceBNe, ne_eq, eq_self]
    exact hS
  · obtain ⟨h1, h2, h3⟩ := hp hf
    simp only [hk, r1, Pc.enc, hf, ↓D0, ↓D1, ↓D2, ↓D3, ↓D4, ↓D5, ↓D6, ↓D7, ↓D8, ↓D9, ↓D10, U0, U1, U2, U3, U4, U5, U6, U7, U8, U9, U10, ↓reduceIte, Nat.reduceAdd, Nat.reduceMul, Nat.reduceSub, Nat.reduceEqDiff, Nat.reduceBEq, Nat.reduceLeDiff, Nat.reduceLT, Int.reduceAdd, Int.reduceMul, Int.reduceSub, Int.reduceLT, Int.reduceLE, Int.reduceToNat, Int.reduceEq, Int.reduceNe, Int.reduceBEq, Int.reduceBNe, ne_eq, eq_self]
    refine callT_of (c_pcpage h1 h2 h3 hS) ?_
    rintro v H' ⟨rfl, hS⟩
    simp only [↓D0, ↓D1, ↓D2, ↓D3, ↓D4, ↓D5, ↓D6, ↓D7, ↓D8, ↓D9, ↓D10, U0, U1, U2, U3, U4, U5, U6, U7, U8, U9, U10, ↓reduceIte, Nat.reduceAdd, Nat.reduceMul, Nat.reduceSub, Nat.reduceEqDiff, Nat.reduceBEq, Nat.reduceLeDiff, Nat.reduceLT, Int.reduceAdd, Int.reduceMul, Int.reduceSub, Int.reduceLT, Int.reduceLE, Int.reduceToNat, Int.reduceEq, Int.reduceNe, Int.reduceBEq, Int.reduceBNe, ne_eq, eq_self]
    exact hS
theorem c_pcnew {sh : Sh} {c f : Int} (hS : Sep l H) :
    CallP Tryz.prog W 239 #[.agg #[.int .i64 sh.p, .int .i64 sh.c, .int .i64 sh.m], .int .i64 c, .int .i64 f] H fun v H' => ∃ k, v = .pointer (some ⟨k, 0, none⟩) ∧ Sep (pcB k (Pc.new sh c f) :: l) H' := by
  refine CallP.of mixed Tryz.func239 tr239 (by show 3 ≤ _; decide) fun W _ => ?_
  simp only [↓D0, ↓D1, ↓D2, ↓D3, ↓D4, ↓D5, ↓D6, ↓D7, ↓D8, ↓D9, ↓D10, U0, U1, U2, U3, U4, U5, U6, U7, U8, U9, U10, ↓reduceIte, Nat.reduceAdd, Nat.reduceMul, Nat.reduceSub, Nat.reduceEqDiff, Nat.reduceBEq, Nat.reduceLeDiff, Nat.reduceLT, Int.reduceAdd, Int.reduceMul, Int.reduceSub, Int.reduceLT, Int.reduceLE, Int.reduceToNat, Int.reduceEq, Int.reduceNe, Int.reduceBEq, Int.reduceBNe, ne_eq, eq_self]
  refine newB_intro fun x hx f1 f2 => ?_
  simp only [↓D0, ↓D1, ↓D2, ↓D3, ↓D4, ↓D5, ↓D6, ↓D7, ↓D8, ↓D9, ↓D10, U0, U1, U2, U3, U4, U5, U6, U7, U8, U9, U10, ↓reduceIte, Nat.reduceAdd, Nat.reduceMul, Nat.reduceSub, Nat.reduceEqDiff, Nat.reduceBEq, Nat.reduceLeDiff, Nat.reduceLT, Int.reduceAdd, Int.reduceMul, Int.reduceSub, Int.reduceLT, Int.reduceLE, Int.reduceToNat, Int.reduceEq, Int.reduceNe, Int.reduceBEq, Int.reduceBNe, ne_eq, eq_self]
  refine draw_intro [(x, #[.int .i64 sh.p, .int .i64 sh.c, .int .i64 sh.m], [])] (by simp only [↓D0, ↓D1, ↓D2, ↓D3, ↓D4, ↓D5, ↓D6, ↓D7, ↓D8, ↓D9, ↓D10, U0, U1, U2, U3, U4, U5, U6, U7, U8, U9, U10, ↓reduceIte, Nat.reduceAdd, Nat.reduceMul, Nat.reduceSub, Nat.reduceEqDiff, Nat.reduceBEq, Nat.reduceLeDiff, Nat.reduceLT, Int.reduceAdd, Int.reduceMul, Int.reduceSub, Int.reduceLT, Int.reduceLE, Int.reduceToNat, Int.reduceEq, Int.reduceNe, Int.reduceBEq, Int.reduceBNe, ne_eq, eq_self]) ?_
  cases h1 : decide (status sh.p sh.c sh.m c < 0)
  all_goals
    simp only [v_status, v_page, h1, ↓D0, ↓D1, ↓D2, ↓D3, ↓D4, ↓D5, ↓D6, ↓D7, ↓D8, ↓D9, ↓D10, U0, U1, U2, U3, U4, U5, U6, U7, U8, U9, U10, ↓reduceIte, Nat.reduceAdd, Nat.reduceMul, Nat.reduceSub, Nat.reduceEqDiff, Nat.reduceBEq, Nat.reduceLeDiff, Nat.reduceLT, Int.reduceAdd, Int.reduceMul, Int.reduceSub, Int.reduceLT, Int.reduceLE, Int.reduceToNat, Int.reduceEq, Int.reduceNe, Int.reduceBEq, Int.reduceBNe, ne_eq, eq_self]
    refine newB_intro fun y hy f3 f4 => ?_
    have nxy : (x = y) = False := f3 x (by rw [upd_same]; rfl)
    have nyx : (y = x) = False := f4 x (by rw [upd_same]; rfl)
    simp only [nxy, nyx, ↓D0, ↓D1, ↓D2, ↓D3, ↓D4, ↓D5, ↓D6, ↓D7, ↓D8, ↓D9, ↓D10, U0, U1, U2, U3, U4, U5, U6, U7, U8, U9, U10, ↓reduceIte, Nat.reduceAdd, Nat.reduceMul, Nat.reduceSub, Nat.reduceEqDiff, Nat.reduceBEq, Nat.reduceLeDiff, Nat.reduceLT, Int.reduceAdd, Int.reduceMul, Int.reduceSub, Int.reduceLT, Int.reduceLE, Int.reduceToNat, Int.reduceEq, Int.reduceNe, Int.reduceBEq, Int.reduceBNe, ne_eq, eq_self]
    refine ⟨y, rfl, ?_⟩
    have := ((hS.new f1 _).new f3 (.cells (Pc.enc (Pc.new sh c f)) 286 (0, 0))).p1.tail
    unfold Pc.new at this ⊢
    simp only [h1] at this ⊢
    exact this
theorem c_pcstep (ht : t.wf) (hw : t.dn = false → w.of t.s) (hS : Sep (pcB k t :: wB b s w :: wR s w :: l) H) :
    CallP Tryz.prog W 274 #[.pointer (some ⟨k, 0, none⟩), .pointer (some ⟨b, 0, none⟩)] H fun v H' => v = .tuple #[] ∧ Sep (pcB k (t.step w).1 :: wB b s (t.step w).2 :: wR s (t.step w).2 :: l) H' := by
  refine CallP.of mixed Tryz.func274 tr274 (by show 2 ≤ _; decide) fun W _ => ?_
  have hk := hS.look
  have r1 := fun o => rd_of hk o
  have r2 := fun o n => rdn_of hk o n
  cases hd : t.dn
  rotate_left
  · have e : t.step w = (t, w) := by unfold Pc.step; rw [hd]; rfl
    rw [e]
    simp only [hk, r1, Pc.enc, hd, ↓D0, ↓D1, ↓D2, ↓D3, ↓D4, ↓D5, ↓D6, ↓D7, ↓D8, ↓D9, ↓D10, U0, U1, U2, U3, U4, U5, U6, U7, U8, U9, U10, ↓reduceIte, Nat.reduceAdd, Nat.reduceMul, Nat.reduceSub, Nat.reduceEqDiff, Nat.reduceBEq, Nat.reduceLeDiff, Nat.reduceLT, Int.reduceAdd, Int.reduceMul, Int.reduceSub, Int.reduceLT, Int.reduceLE, Int.reduceToNat, Int.reduceEq, Int.reduceNe, Int.reduceBEq, Int.reduceBNe, ne_eq, eq_self]
    exact hS
  obtain ⟨hm, c0, c1, f0, f1, m0, m1⟩ := ht.of hd
  have hw := hw hd
  obtain ⟨a1, a2, a3, a4, a5, a6⟩ := (may_iff _ _ _).1 hm
  have hpg := mod_bd (a := t.f + t.many) (p := t.s.p) (by omega)
  obtain ⟨q0, q1⟩ := page_in hw hm hpg.1 hpg.2
  have wm : w64 (t.many + 1) = t.many + 1 := w64_eq (by omega) (by omega)
  simp only [hk, r1, Pc.enc, hd, ↓D0, ↓D1, ↓D2, ↓D3, ↓D4, ↓D5, ↓D6, ↓D7, ↓D8, ↓D9, ↓D10, U0, U1, U2, U3, U4, U5, U6, U7, U8, U9, U10, ↓reduceIte, Nat.reduceAdd, Nat.reduceMul, Nat.reduceSub, Nat.reduceEqDiff, Nat.reduceBEq, Nat.reduceLeDiff, Nat.reduceLT, Int.reduceAdd, Int.reduceMul, Int.reduceSub, Int.reduceLT, Int.reduceLE, Int.reduceToNat, Int.reduceEq, Int.reduceNe, Int.reduceBEq, Int.reduceBNe, ne_eq, eq_self]
  refine draw_intro [(k, Pc.enc t, [])] (by simp only [hk, ↓D0, ↓D1, ↓D2, ↓D3, ↓D4, ↓D5, ↓D6, ↓D7, ↓D8, ↓D9, ↓D10, U0, U1, U2, U3, U4, U5, U6, U7, U8, U9, U10, ↓reduceIte, Nat.reduceAdd, Nat.reduceMul, Nat.reduceSub, Nat.reduceEqDiff, Nat.reduceBEq, Nat.reduceLeDiff, Nat.reduceLT, Int.reduceAdd, Int.reduceMul, Int.reduceSub, Int.reduceLT, Int.reduceLE, Int.reduceToNat, Int.reduceEq, Int.reduceNe, Int.reduceBEq, Int.reduceBNe, ne_eq, eq_self]) ?_
  simp only [hk, r1, r2, Pc.enc, hd, ↓D0, ↓D1, ↓D2, ↓D3, ↓D4, ↓D5, ↓D6, ↓D7, ↓D8, ↓D9, ↓D10, U0, U1, U2, U3, U4, U5, U6, U7, U8, U9, U10, ↓reduceIte, Nat.reduceAdd, Nat.reduceMul, Nat.reduceSub, Nat.reduceEqDiff, Nat.reduceBEq, Nat.reduceLeDiff, Nat.reduceLT, Int.reduceAdd, Int.reduceMul, Int.reduceSub, Int.reduceLT, Int.reduceLE, Int.reduceToNat, Int.reduceEq, Int.reduceNe, Int.reduceBEq, Int.reduceBNe, ne_eq, eq_self]
  refine callT_of (c_pcpage (by omega) (by omega) (by omega) hS) ?_
  rintro v H' ⟨rfl, hS⟩
  have hk := hS.look
  have r1 := fun o => rd_of hk o
  simp only [hk, r1, v_page, Pc.enc, hd, ↓D0, ↓D1, ↓D2, ↓D3, ↓D4, ↓D5, ↓D6, ↓D7, ↓D8, ↓D9, ↓D10, U0, U1, U2, U3, U4, U5, U6, U7, U8, U9, U10, ↓reduceIte, Nat.reduceAdd, Nat.reduceMul, Nat.reduceSub, Nat.reduceEqDiff, Nat.reduceBEq, Nat.reduceLeDiff, Nat.reduceLT, Int.reduceAdd, Int.reduceMul, Int.reduceSub, Int.reduceLT, Int.reduceLE, Int.reduceToNat, Int.reduceEq, Int.reduceNe, Int.reduceBEq, Int.reduceBNe, ne_eq, eq_self]
  cases he : t.em
  · simp only [hk, r1, Pc.enc, hd, he, ↓D0, ↓D1, ↓D2, ↓D3, ↓D4, ↓D5, ↓D6, ↓D7, ↓D8, ↓D9, ↓D10, U0, U1, U2, U3, U4, U5, U6, U7, U8, U9, U10, ↓reduceIte, Nat.reduceAdd, Nat.reduceMul, Nat.reduceSub, Nat.reduceEqDiff, Nat.reduceBEq, Nat.reduceLeDiff, Nat.reduceLT, Int.reduceAdd, Int.reduceMul, Int.reduceSub, Int.reduceLT, Int.reduceLE, Int.reduceToNat, Int.reduceEq, Int.reduceNe, Int.reduceBEq, Int.reduceBNe, ne_eq, eq_self]
    refine callT_of (c_load _ _ q0 q1 hS.p2.p2) ?_
    rintro v H' ⟨rfl, hS⟩
    have hS := hS.p2
    have hk := hS.look
    have r1 := fun o => rd_of hk o
    have r2 := fun o n => rdn_of hk o n
    cases hz : (w.get t.at' == 0)
    · have hz' : (w.get (page t.s.p t.s.c t.s.m t.pg) == 0) = false := hz
      have e : t.step w = (t.next, w.load t.c t.at') := by
        unfold Pc.step; rw [hd, he]; have : ¬ w.get t.at' = 0 := by simpa using hz
        simp [this]
      rw [e]
      simp only [hk, r1, hz', Pc.enc, hd, he, wrap_w64, wm, ↓D0, ↓D1, ↓D2, ↓D3, ↓D4, ↓D5, ↓D6, ↓D7, ↓D8, ↓D9, ↓D10, U0, U1, U2, U3, U4, U5, U6, U7, U8, U9, U10, ↓reduceIte, Nat.reduceAdd, Nat.reduceMul, Nat.reduceSub, Nat.reduceEqDiff, Nat.reduceBEq, Nat.reduceLeDiff, Nat.reduceLT, Int.reduceAdd, Int.reduceMul, Int.reduceSub, Int.reduceLT, Int.reduceLE, Int.reduceToNat, Int.reduceEq, Int.reduceNe, Int.reduceBEq, Int.reduceBNe, ne_eq, eq_self]
      refine draw_intro [(k, #[.int .i64 t.s.p, .int .i64 t.s.c, .int .i64 t.s.m, .int .i64 t.c, .int .i64 t.f, .int .i64 (t.many + 1), .bool false, .bool t.fd, .bool false], [])] (by simp only [↓D0, ↓D1, ↓D2, ↓D3, ↓D4, ↓D5, ↓D6, ↓D7, ↓D8, ↓D9, ↓D10, U0, U1, U2, U3, U4, U5, U6, U7, U8, U9, U10, ↓reduceIte, Nat.reduceAdd, Nat.reduceMul, Nat.reduceSub, Nat.reduceEqDiff, Nat.reduceBEq, Nat.reduceLeDiff, Nat.reduceLT, Int.reduceAdd, Int.reduceMul, Int.reduceSub, Int.reduceLT, Int.reduceLE, Int.reduceToNat, Int.reduceEq, Int.reduceNe, Int.reduceBEq, Int.reduceBNe, ne_eq, eq_self]) ?_
      simp only [↓D0, ↓D1, ↓D2, ↓D3, ↓D4, ↓D5, ↓D6, ↓D7, ↓D8, ↓D9, ↓D10, U0, U1, U2, U3, U4, U5, U6, U7, U8, U9, U10, ↓reduceIte, Nat.reduceAdd, Nat.reduceMul, Nat.reduceSub, Nat.reduceEqDiff, Nat.reduceBEq, Nat.reduceLeDiff, Nat.reduceLT, Int.reduceAdd, Int.reduceMul, Int.reduceSub, Int.reduceLT, Int.reduceLE, Int.reduceToNat, Int.reduceEq, Int.reduceNe, Int.reduceBEq, Int.reduceBNe, ne_eq, eq_self]
      exact hS.set _
    · have hz' : (w.get (page t.s.p t.s.c t.s.m t.pg) == 0) = true := hz
      have e : t.step w = ({ t with em := true }, w.load t.c t.at') := by
        unfold Pc.step; rw [hd, he]; have : w.get t.at' = 0 := by simpa using hz
        simp [this]
      rw [e]
      simp only [hk, r1, hz', Pc.enc, hd, he, ↓D0, ↓D1, ↓D2, ↓D3, ↓D4, ↓D5, ↓D6, ↓D7, ↓D8, ↓D9, ↓D10, U0, U1, U2, U3, U4, U5, U6, U7, U8, U9, U10, ↓reduceIte, Nat.reduceAdd, Nat.reduceMul, Nat.reduceSub, Nat.reduceEqDiff, Nat.reduceBEq, Nat.reduceLeDiff, Nat.reduceLT, Int.reduceAdd, Int.reduceMul, Int.reduceSub, Int.reduceLT, Int.reduceLE, Int.reduceToNat, Int.reduceEq, Int.reduceNe, Int.reduceBEq, Int.reduceBNe, ne_eq, eq_self]
      have := hS.set (.cells (Pc.enc { t with em := true }) 286 (0, 0))
      unfold Pc.enc at this
      simp only [hd] at this
      exact this
  · simp only [hk, r1, Pc.enc, hd, he, ↓D0, ↓D1, ↓D2, ↓D3, ↓D4, ↓D5, ↓D6, ↓D7, ↓D8, ↓D9, ↓D10, U0, U1, U2, U3, U4, U5, U6, U7, U8, U9, U10, ↓reduceIte, Nat.reduceAdd, Nat.reduceMul, Nat.reduceSub, Nat.reduceEqDiff, Nat.reduceBEq, Nat.reduceLeDiff, Nat.reduceLT, Int.reduceAdd, Int.reduceMul, Int.reduceSub, Int.reduceLT, Int.reduceLE, Int.reduceToNat, Int.reduceEq, Int.reduceNe, Int.reduceBEq, Int.reduceBNe, ne_eq, eq_self]
    refine draw_intro [(k, Pc.enc t, [])] (by simp only [hk, ↓D0, ↓D1, ↓D2, ↓D3, ↓D4, ↓D5, ↓D6, ↓D7, ↓D8, ↓D9, ↓D10, U0, U1, U2, U3, U4, U5, U6, U7, U8, U9, U10, ↓reduceIte, Nat.reduceAdd, Nat.reduceMul, Nat.reduceSub, Nat.reduceEqDiff, Nat.reduceBEq, Nat.reduceLeDiff, Nat.reduceLT, Int.reduceAdd, Int.reduceMul, Int.reduceSub, Int.reduceLT, Int.reduceLE, Int.reduceToNat, Int.reduceEq, Int.reduceNe, Int.reduceBEq, Int.reduceBNe, ne_eq, eq_self]) ?_
    simp only [hk, r1, v_putpg, Pc.enc, hd, he, ↓D0, ↓D1, ↓D2, ↓D3, ↓D4, ↓D5, ↓D6, ↓D7, ↓D8, ↓D9, ↓D10, U0, U1, U2, U3, U4, U5, U6, U7, U8, U9, U10, ↓reduceIte, Nat.reduceAdd, Nat.reduceMul, Nat.reduceSub, Nat.reduceEqDiff, Nat.reduceBEq, Nat.reduceLeDiff, Nat.reduceLT, Int.reduceAdd, Int.reduceMul, Int.reduceSub, Int.reduceLT, Int.reduceLE, Int.reduceToNat, Int.reduceEq, Int.reduceNe, Int.reduceBEq, Int.reduceBNe, ne_eq, eq_self]
    refine callT_of (c_swap _ _ _ _ q0 q1 hS.p2.p2) ?_
    rintro v H' ⟨rfl, hS⟩
    have hS := hS.p2
    have hk := hS.look
    have r1 := fun o => rd_of hk o
    have r2 := fun o n => rdn_of hk o n
    cases hz : (w.get t.at' == 0)
    · have hz' : (w.get (page t.s.p t.s.c t.s.m t.pg) == 0) = false := hz
      have e : t.step w = (t.next, w.swap t.c t.at' 0 (held t.c)) := by
        unfold Pc.step; rw [hd, he]; have : ¬ w.get t.at' = 0 := by simpa using hz
        simp [this]
      rw [e]
      simp only [hk, r1, hz', Pc.enc, hd, he, wrap_w64, wm, ↓D0, ↓D1, ↓D2, ↓D3, ↓D4, ↓D5, ↓D6, ↓D7, ↓D8, ↓D9, ↓D10, U0, U1, U2, U3, U4, U5, U6, U7, U8, U9, U10, ↓reduceIte, Nat.reduceAdd, Nat.reduceMul, Nat.reduceSub, Nat.reduceEqDiff, Nat.reduceBEq, Nat.reduceLeDiff, Nat.reduceLT, Int.reduceAdd, Int.reduceMul, Int.reduceSub, Int.reduceLT, Int.reduceLE, Int.reduceToNat, Int.reduceEq, Int.reduceNe, Int.reduceBEq, Int.reduceBNe, ne_eq, eq_self]
      refine draw_intro [(k, #[.int .i64 t.s.p, .int .i64 t.s.c, .int .i64 t.s.m, .int .i64 t.c, .int .i64 t.f, .int .i64 (t.many + 1), .bool false, .bool t.fd, .bool false], [])] (by simp only [↓D0, ↓D1, ↓D2, ↓D3, ↓D4, ↓D5, ↓D6, ↓D7, ↓D8, ↓D9, ↓D10, U0, U1, U2, U3, U4, U5, U6, U7, U8, U9, U10, ↓reduceIte, Nat.reduceAdd, Nat.reduceMul, Nat.reduceSub, Nat.reduceEqDiff, Nat.reduceBEq, Nat.reduceLeDiff, Nat.reduceLT, Int.reduceAdd, Int.reduceMul, Int.reduceSub, Int.reduceLT, Int.reduceLE, Int.reduceToNat, Int.reduceEq, Int.reduceNe, Int.reduceBEq, Int.reduceBNe, ne_eq, eq_self]) ?_
      simp only [↓D0, ↓D1, ↓D2, ↓D3, ↓D4, ↓D5, ↓D6, ↓D7, ↓D8, ↓D9, ↓D10, U0, U1, U2, U3, U4, U5, U6, U7, U8, U9, U10, ↓reduceIte, Nat.reduceAdd, Nat.reduceMul, Nat.reduceSub, Nat.reduceEqDiff, Nat.reduceBEq, Nat.reduceLeDiff, Nat.reduceLT, Int.reduceAdd, Int.reduceMul, Int.reduceSub, Int.reduceLT, Int.reduceLE, Int.reduceToNat, Int.reduceEq, Int.reduceNe, Int.reduceBEq, Int.reduceBNe, ne_eq, eq_self]
      exact hS.set _
    · have hz' : (w.get (page t.s.p t.s.c t.s.m t.pg) == 0) = true := hz
      have e : t.step w = ({ t with fd := true, dn := true }, w.swap t.c t.at' 0 (held t.c)) := by
        unfold Pc.step; rw [hd, he]; have : w.get t.at' = 0 := by simpa using hz
        simp [this]
      rw [e]
      simp only [hk, r1, hz', Pc.enc, hd, he, ↓D0, ↓D1, ↓D2, ↓D3, ↓D4, ↓D5, ↓D6, ↓D7, ↓D8, ↓D9, ↓D10, U0, U1, U2, U3, U4, U5, U6, U7, U8, U9, U10, ↓reduceIte, Nat.reduceAdd, Nat.reduceMul, Nat.reduceSub, Nat.reduceEqDiff, Nat.reduceBEq, Nat.reduceLeDiff, Nat.reduceLT, Int.reduceAdd, Int.reduceMul, Int.reduceSub, Int.reduceLT, Int.reduceLE, Int.reduceToNat, Int.reduceEq, Int.reduceNe, Int.reduceBEq, Int.reduceBNe, ne_eq, eq_self]
      have := hS.set (.cells (Pc.enc { t with fd := true, dn := true }) 286 (0, 0))
      unfold Pc.enc at this
      simp only [he] at this
      exact this

/-! ### The document's -/
def Pc.ren (t : Pc) (q : Int) : Array Value := #[.int .i64 t.s.p, .int .i64 t.s.c, .int .i64 t.s.m, .int .i64 t.c, .int .i64 t.f, .int .i64 t.many, .int .i64 q, .bool t.fd, .bool t.dn, .bool (t.em && !t.fd)]
def rpB (k : Nat) (t : Pc) (q : Int) : Hp := sg k (.cells (Pc.ren t q) 212 (0, 0))
theorem m_pcnew {sh : Sh} {c f : Int} (hS : Sep l H) :
    CallP Tryz.prog W 127 #[.agg #[.int .i64 sh.p, .int .i64 sh.c, .int .i64 sh.m], .int .i64 c, .int .i64 f] H fun v H' => ∃ k, v = .pointer (some ⟨k, 0, none⟩) ∧ Sep (rpB k (Pc.new sh c f) f :: l) H' := by
  refine CallP.of mixed Tryz.func127 tr127 (by show 3 ≤ _; decide) fun W _ => ?_
  simp only [↓D0, ↓D1, ↓D2, ↓D3, ↓D4, ↓D5, ↓D6, ↓D7, ↓D8, ↓D9, ↓D10, U0, U1, U2, U3, U4, U5, U6, U7, U8, U9, U10, ↓reduceIte, Nat.reduceAdd, Nat.reduceMul, Nat.reduceSub, Nat.reduceEqDiff, Nat.reduceBEq, Nat.reduceLeDiff, Nat.reduceLT, Int.reduceAdd, Int.reduceMul, Int.reduceSub, Int.reduceLT, Int.reduceLE, Int.reduceToNat, Int.reduceEq, Int.reduceNe, Int.reduceBEq, Int.reduceBNe, ne_eq, eq_self]
  refine newB_intro fun x hx f1 f2 => ?_
  simp only [↓D0, ↓D1, ↓D2, ↓D3, ↓D4, ↓D5, ↓D6, ↓D7, ↓D8, ↓D9, ↓D10, U0, U1, U2, U3, U4, U5, U6, U7, U8, U9, U10, ↓reduceIte, Nat.reduceAdd, Nat.reduceMul, Nat.reduceSub, Nat.reduceEqDiff, Nat.reduceBEq, Nat.reduceLeDiff, Nat.reduceLT, Int.reduceAdd, Int.reduceMul, Int.reduceSub, Int.reduceLT, Int.reduceLE, Int.reduceToNat, Int.reduceEq, Int.reduceNe, Int.reduceBEq, Int.reduceBNe, ne_eq, eq_self]
  refine draw_intro [(x, #[.int .i64 sh.p, .int .i64 sh.c, .int .i64 sh.m], [])] (by simp only [↓D0, ↓D1, ↓D2, ↓D3, ↓D4, ↓D5, ↓D6, ↓D7, ↓D8, ↓D9, ↓D10, U0, U1, U2, U3, U4, U5, U6, U7, U8, U9, U10, ↓reduceIte, Nat.reduceAdd, Nat.reduceMul, Nat.reduceSub, Nat.reduceEqDiff, Nat.reduceBEq, Nat.reduceLeDiff, Nat.reduceLT, Int.reduceAdd, Int.reduceMul, Int.reduceSub, Int.reduceLT, Int.reduceLE, Int.reduceToNat, Int.reduceEq, Int.reduceNe, Int.reduceBEq, Int.reduceBNe, ne_eq, eq_self]) ?_
  have hneg : (!decide (0 ≤ status sh.p sh.c sh.m c)) = decide (status sh.p sh.c sh.m c < 0) := by
    rw [← decide_not]; exact decide_eq_decide.2 (by omega)
  cases h1 : decide (status sh.p sh.c sh.m c < 0)
  all_goals
    rw [h1] at hneg
    simp only [u_good, u_page, hneg, ↓D0, ↓D1, ↓D2, ↓D3, ↓D4, ↓D5, ↓D6, ↓D7, ↓D8, ↓D9, ↓D10, U0, U1, U2, U3, U4, U5, U6, U7, U8, U9, U10, ↓reduceIte, Nat.reduceAdd, Nat.reduceMul, Nat.reduceSub, Nat.reduceEqDiff, Nat.reduceBEq, Nat.reduceLeDiff, Nat.reduceLT, Int.reduceAdd, Int.reduceMul, Int.reduceSub, Int.reduceLT, Int.reduceLE, Int.reduceToNat, Int.reduceEq, Int.reduceNe, Int.reduceBEq, Int.reduceBNe, ne_eq, eq_self]
    refine newB_intro fun y hy f3 f4 => ?_
    have nxy : (x = y) = False := f3 x (by rw [upd_same]; rfl)
    have nyx : (y = x) = False := f4 x (by rw [upd_same]; rfl)
    simp only [nxy, nyx, ↓D0, ↓D1, ↓D2, ↓D3, ↓D4, ↓D5, ↓D6, ↓D7, ↓D8, ↓D9, ↓D10, U0, U1, U2, U3, U4, U5, U6, U7, U8, U9, U10, ↓reduceIte, Nat.reduceAdd, Nat.reduceMul, Nat.reduceSub, Nat.reduceEqDiff, Nat.reduceBEq, Nat.reduceLeDiff, Nat.reduceLT, Int.reduceAdd, Int.reduceMul, Int.reduceSub, Int.reduceLT, Int.reduceLE, Int.reduceToNat, Int.reduceEq, Int.reduceNe, Int.reduceBEq, Int.reduceBNe, ne_eq, eq_self]
    refine ⟨y, rfl, ?_⟩
    have := ((hS.new f1 _).new f3 (.cells (Pc.ren (Pc.new sh c f) f) 212 (0, 0))).p1.tail
    unfold Pc.new at this ⊢
    simp only [h1] at this ⊢
    exact this
theorem m_pcstep {q : Int} {a : Option Addr} {cap : Nat} {g : Hp} (ht : t.wf) (hw : t.dn = false → w.of t.s) (hfd : t.dn = false → t.fd = false) (hq : t.dn = false ∨ t.fd = true → q = t.pg) (hL : LogOk a cap w g) (hl : w.st + 1 ≤ 1000000000) (hS : Sep (rpB k t q :: mB b s a cap w :: wR s w :: g :: l) H) :
    CallP Tryz.prog W 137 #[.pointer (some ⟨k, 0, none⟩), .pointer (some ⟨b, 0, none⟩)] H fun v H' => v = .tuple #[] ∧ ∃ q2, ((t.step w).1.dn = false ∨ (t.step w).1.fd = true → q2 = (t.step w).1.pg) ∧
      ∃ a2 cap2 g2, LogOk a2 cap2 (t.step w).2 g2 ∧ Sep (rpB k (t.step w).1 q2 :: mB b s a2 cap2 (t.step w).2 :: wR s (t.step w).2 :: g2 :: l) H' := by
  refine CallP.of mixed Tryz.func137 tr137 (by show 2 ≤ _; decide) fun W _ => ?_
  have hk := hS.look
  have r1 := fun o => rd_of hk o
  have r2 := fun o n => rdn_of hk o n
  cases hd : t.dn
  rotate_left
  · have e : t.step w = (t, w) := by unfold Pc.step; rw [hd]; rfl
    rw [e]
    simp only [hk, r1, r2, u_page, Pc.ren, hd, ↓D0, ↓D1, ↓D2, ↓D3, ↓D4, ↓D5, ↓D6, ↓D7, ↓D8, ↓D9, ↓D10, U0, U1, U2, U3, U4, U5, U6, U7, U8, U9, U10, ↓reduceIte, Nat.reduceAdd, Nat.reduceMul, Nat.reduceSub, Nat.reduceEqDiff, Nat.reduceBEq, Nat.reduceLeDiff, Nat.reduceLT, Int.reduceAdd, Int.reduceMul, Int.reduceSub, Int.reduceLT, Int.reduceLE, Int.reduceToNat, Int.reduceEq, Int.reduceNe, Int.reduceBEq, Int.reduceBNe, ne_eq, eq_self]
    exact ⟨q, fun h => hq (h.imp (fun h => by cases h) id), a, cap, g, hL, hS⟩
  obtain ⟨hm, c0, c1, f0, f1, m0, m1⟩ := ht.of hd
  have hw := hw hd
  have hfd := hfd hd
  have hq := hq (.inl hd)
  subst hq
  obtain ⟨a1, a2, a3, a4, a5, a6⟩ := (may_iff _ _ _).1 hm
  have hpg := mod_bd (a := t.f + t.many) (p := t.s.p) (by omega)
  obtain ⟨q0, q1⟩ := page_in hw hm hpg.1 hpg.2
  have wm : w64 (t.many + 1) = t.many + 1 := w64_eq (by omega) (by omega)
  cases he : t.em
  · simp only [hk, r1, r2, u_page, Pc.ren, hd, he, hfd, ↓D0, ↓D1, ↓D2, ↓D3, ↓D4, ↓D5, ↓D6, ↓D7, ↓D8, ↓D9, ↓D10, U0, U1, U2, U3, U4, U5, U6, U7, U8, U9, U10, ↓reduceIte, Nat.reduceAdd, Nat.reduceMul, Nat.reduceSub, Nat.reduceEqDiff, Nat.reduceBEq, Nat.reduceLeDiff, Nat.reduceLT, Int.reduceAdd, Int.reduceMul, Int.reduceSub, Int.reduceLT, Int.reduceLE, Int.reduceToNat, Int.reduceEq, Int.reduceNe, Int.reduceBEq, Int.reduceBNe, ne_eq, eq_self]
    refine callT_of (m_load _ _ q0 q1 hL hl hS.r3) ?_
    rintro v H' ⟨rfl, a2, cap2, g2, hL, hS⟩
    have hS := hS.p3
    have hk := hS.look
    have r1 := fun o => rd_of hk o
    have r2 := fun o n => rdn_of hk o n
    cases hz : (w.get t.at' == 0)
    · have hz' : (w.get (page t.s.p t.s.c t.s.m t.pg) == 0) = false := hz
      have e : t.step w = (t.next, w.load t.c t.at') := by
        unfold Pc.step; rw [hd, he]; have : ¬ w.get t.at' = 0 := by simpa using hz
        simp [this]
      rw [e]
      by_cases hn : t.many + 1 = t.s.p
      · have hn' : (t.many + 1 == t.s.p) = true := by simp [hn]
        simp only [hk, r1, hz', hn', Pc.ren, hd, he, hfd, wrap_w64, wm, ↓D0, ↓D1, ↓D2, ↓D3, ↓D4, ↓D5, ↓D6, ↓D7, ↓D8, ↓D9, ↓D10, U0, U1, U2, U3, U4, U5, U6, U7, U8, U9, U10, ↓reduceIte, Nat.reduceAdd, Nat.reduceMul, Nat.reduceSub, Nat.reduceEqDiff, Nat.reduceBEq, Nat.reduceLeDiff, Nat.reduceLT, Int.reduceAdd, Int.reduceMul, Int.reduceSub, Int.reduceLT, Int.reduceLE, Int.reduceToNat, Int.reduceEq, Int.reduceNe, Int.reduceBEq, Int.reduceBNe, ne_eq, eq_self]
        refine ⟨t.pg, fun h => ?_, a2, cap2, g2, hL, ?_⟩
        · rcases h with h | h
          · simp [Pc.next, hn] at h
          · have := hfd; simp [Pc.next] at h; rw [h] at this; cases this
        · have := hS.set (.cells (Pc.ren t.next t.pg) 212 (0, 0))
          unfold Pc.ren Pc.next at this
          simp only [hn, hfd, ↓D0, ↓D1, ↓D2, ↓D3, ↓D4, ↓D5, ↓D6, ↓D7, ↓D8, ↓D9, ↓D10, U0, U1, U2, U3, U4, U5, U6, U7, U8, U9, U10, ↓reduceIte, Nat.reduceAdd, Nat.reduceMul, Nat.reduceSub, Nat.reduceEqDiff, Nat.reduceBEq, Nat.reduceLeDiff, Nat.reduceLT, Int.reduceAdd, Int.reduceMul, Int.reduceSub, Int.reduceLT, Int.reduceLE, Int.reduceToNat, Int.reduceEq, Int.reduceNe, Int.reduceBEq, Int.reduceBNe, ne_eq, eq_self] at this
          unfold rpB Pc.ren Pc.next
          simp only [hn, hfd, ↓D0, ↓D1, ↓D2, ↓D3, ↓D4, ↓D5, ↓D6, ↓D7, ↓D8, ↓D9, ↓D10, U0, U1, U2, U3, U4, U5, U6, U7, U8, U9, U10, ↓reduceIte, Nat.reduceAdd, Nat.reduceMul, Nat.reduceSub, Nat.reduceEqDiff, Nat.reduceBEq, Nat.reduceLeDiff, Nat.reduceLT, Int.reduceAdd, Int.reduceMul, Int.reduceSub, Int.reduceLT, Int.reduceLE, Int.reduceToNat, Int.reduceEq, Int.reduceNe, Int.reduceBEq, Int.reduceBNe, ne_eq, eq_self]
          exact this
      · have hn' : (t.many + 1 == t.s.p) = false := by simp [hn]
        have u1 := u_round t.s t.f (t.many + 1) (by omega) (by omega) (by omega)
        simp only [hk, r1, hz', hn', Pc.ren, hd, he, hfd, wrap_w64, wm, ↓D0, ↓D1, ↓D2, ↓D3, ↓D4, ↓D5, ↓D6, ↓D7, ↓D8, ↓D9, ↓D10, U0, U1, U2, U3, U4, U5, U6, U7, U8, U9, U10, ↓reduceIte, Nat.reduceAdd, Nat.reduceMul, Nat.reduceSub, Nat.reduceEqDiff, Nat.reduceBEq, Nat.reduceLeDiff, Nat.reduceLT, Int.reduceAdd, Int.reduceMul, Int.reduceSub, Int.reduceLT, Int.reduceLE, Int.reduceToNat, Int.reduceEq, Int.reduceNe, Int.reduceBEq, Int.reduceBNe, ne_eq, eq_self]
        refine draw_intro [(k, #[.int .i64 t.s.p, .int .i64 t.s.c, .int .i64 t.s.m, .int .i64 t.c, .int .i64 t.f, .int .i64 (t.many + 1), .int .i64 t.pg, .bool false, .bool false, .bool false], [])] (by simp only [↓D0, ↓D1, ↓D2, ↓D3, ↓D4, ↓D5, ↓D6, ↓D7, ↓D8, ↓D9, ↓D10, U0, U1, U2, U3, U4, U5, U6, U7, U8, U9, U10, ↓reduceIte, Nat.reduceAdd, Nat.reduceMul, Nat.reduceSub, Nat.reduceEqDiff, Nat.reduceBEq, Nat.reduceLeDiff, Nat.reduceLT, Int.reduceAdd, Int.reduceMul, Int.reduceSub, Int.reduceLT, Int.reduceLE, Int.reduceToNat, Int.reduceEq, Int.reduceNe, Int.reduceBEq, Int.reduceBNe, ne_eq, eq_self]) ?_
        simp only [u1, ↓D0, ↓D1, ↓D2, ↓D3, ↓D4, ↓D5, ↓D6, ↓D7, ↓D8, ↓D9, ↓D10, U0, U1, U2, U3, U4, U5, U6, U7, U8, U9, U10, ↓reduceIte, Nat.reduceAdd, Nat.reduceMul, Nat.reduceSub, Nat.reduceEqDiff, Nat.reduceBEq, Nat.reduceLeDiff, Nat.reduceLT, Int.reduceAdd, Int.reduceMul, Int.reduceSub, Int.reduceLT, Int.reduceLE, Int.reduceToNat, Int.reduceEq, Int.reduceNe, Int.reduceBEq, Int.reduceBNe, ne_eq, eq_self]
        refine ⟨t.next.pg, fun _ => rfl, a2, cap2, g2, hL, ?_⟩
        have := hS.set (.cells (Pc.ren t.next t.next.pg) 212 (0, 0))
        unfold Pc.ren Pc.next at this
        simp only [hn, hfd, ↓D0, ↓D1, ↓D2, ↓D3, ↓D4, ↓D5, ↓D6, ↓D7, ↓D8, ↓D9, ↓D10, U0, U1, U2, U3, U4, U5, U6, U7, U8, U9, U10, ↓reduceIte, Nat.reduceAdd, Nat.reduceMul, Nat.reduceSub, Nat.reduceEqDiff, Nat.reduceBEq, Nat.reduceLeDiff, Nat.reduceLT, Int.reduceAdd, Int.reduceMul, Int.reduceSub, Int.reduceLT, Int.reduceLE, Int.reduceToNat, Int.reduceEq, Int.reduceNe, Int.reduceBEq, Int.reduceBNe, ne_eq, eq_self] at this
        unfold rpB Pc.ren Pc.next
        simp only [hn, hfd, ↓D0, ↓D1, ↓D2, ↓D3, ↓D4, ↓D5, ↓D6, ↓D7, ↓D8, ↓D9, ↓D10, U0, U1, U2, U3, U4, U5, U6, U7, U8, U9, U10, ↓reduceIte, Nat.reduceAdd, Nat.reduceMul, Nat.reduceSub, Nat.reduceEqDiff, Nat.reduceBEq, Nat.reduceLeDiff, Nat.reduceLT, Int.reduceAdd, Int.reduceMul, Int.reduceSub, Int.reduceLT, Int.reduceLE, Int.reduceToNat, Int.reduceEq, Int.reduceNe, Int.reduceBEq, Int.reduceBNe, ne_eq, eq_self]
        exact this
    · have hz' : (w.get (page t.s.p t.s.c t.s.m t.pg) == 0) = true := hz
      have e : t.step w = ({ t with em := true }, w.load t.c t.at') := by
        unfold Pc.step; rw [hd, he]; have : w.get t.at' = 0 := by simpa using hz
        simp [this]
      rw [e]
      simp only [hk, r1, hz', Pc.ren, hd, he, hfd, ↓D0, ↓D1, ↓D2, ↓D3, ↓D4, ↓D5, ↓D6, ↓D7, ↓D8, ↓D9, ↓D10, U0, U1, U2, U3, U4, U5, U6, U7, U8, U9, U10, ↓reduceIte, Nat.reduceAdd, Nat.reduceMul, Nat.reduceSub, Nat.reduceEqDiff, Nat.reduceBEq, Nat.reduceLeDiff, Nat.reduceLT, Int.reduceAdd, Int.reduceMul, Int.reduceSub, Int.reduceLT, Int.reduceLE, Int.reduceToNat, Int.reduceEq, Int.reduceNe, Int.reduceBEq, Int.reduceBNe, ne_eq, eq_self]
      refine ⟨t.pg, fun _ => rfl, a2, cap2, g2, hL, ?_⟩
      have := hS.set (.cells (Pc.ren { t with em := true } t.pg) 212 (0, 0))
      unfold Pc.ren at this
      simp only [hd, hfd, ↓D0, ↓D1, ↓D2, ↓D3, ↓D4, ↓D5, ↓D6, ↓D7, ↓D8, ↓D9, ↓D10, U0, U1, U2, U3, U4, U5, U6, U7, U8, U9, U10, ↓reduceIte, Nat.reduceAdd, Nat.reduceMul, Nat.reduceSub, Nat.reduceEqDiff, Nat.reduceBEq, Nat.reduceLeDiff, Nat.reduceLT, Int.reduceAdd, Int.reduceMul, Int.reduceSub, Int.reduceLT, Int.reduceLE, Int.reduceToNat, Int.reduceEq, Int.reduceNe, Int.reduceBEq, Int.reduceBNe, ne_eq, eq_self] at this
      unfold rpB Pc.ren
      simp only [hd, hfd, ↓D0, ↓D1, ↓D2, ↓D3, ↓D4, ↓D5, ↓D6, ↓D7, ↓D8, ↓D9, ↓D10, U0, U1, U2, U3, U4, U5, U6, U7, U8, U9, U10, ↓reduceIte, Nat.reduceAdd, Nat.reduceMul, Nat.reduceSub, Nat.reduceEqDiff, Nat.reduceBEq, Nat.reduceLeDiff, Nat.reduceLT, Int.reduceAdd, Int.reduceMul, Int.reduceSub, Int.reduceLT, Int.reduceLE, Int.reduceToNat, Int.reduceEq, Int.reduceNe, Int.reduceBEq, Int.reduceBNe, ne_eq, eq_self]
      exact this
  · simp only [hk, r1, r2, u_page, Pc.ren, hd, he, hfd, ↓D0, ↓D1, ↓D2, ↓D3, ↓D4, ↓D5, ↓D6, ↓D7, ↓D8, ↓D9, ↓D10, U0, U1, U2, U3, U4, U5, U6, U7, U8, U9, U10, ↓reduceIte, Nat.reduceAdd, Nat.reduceMul, Nat.reduceSub, Nat.reduceEqDiff, Nat.reduceBEq, Nat.reduceLeDiff, Nat.reduceLT, Int.reduceAdd, Int.reduceMul, Int.reduceSub, Int.reduceLT, Int.reduceLE, Int.reduceToNat, Int.reduceEq, Int.reduceNe, Int.reduceBEq, Int.reduceBNe, ne_eq, eq_self]
    refine draw_intro [(k, #[.int .i64 t.s.p, .int .i64 t.s.c, .int .i64 t.s.m, .int .i64 t.c, .int .i64 t.f, .int .i64 t.many, .int .i64 t.pg, .bool false, .bool false, .bool false], [])] (by simp only [hk, ↓D0, ↓D1, ↓D2, ↓D3, ↓D4, ↓D5, ↓D6, ↓D7, ↓D8, ↓D9, ↓D10, U0, U1, U2, U3, U4, U5, U6, U7, U8, U9, U10, ↓reduceIte, Nat.reduceAdd, Nat.reduceMul, Nat.reduceSub, Nat.reduceEqDiff, Nat.reduceBEq, Nat.reduceLeDiff, Nat.reduceLT, Int.reduceAdd, Int.reduceMul, Int.reduceSub, Int.reduceLT, Int.reduceLE, Int.reduceToNat, Int.reduceEq, Int.reduceNe, Int.reduceBEq, Int.reduceBNe, ne_eq, eq_self]) ?_
    simp only [u_held, ↓D0, ↓D1, ↓D2, ↓D3, ↓D4, ↓D5, ↓D6, ↓D7, ↓D8, ↓D9, ↓D10, U0, U1, U2, U3, U4, U5, U6, U7, U8, U9, U10, ↓reduceIte, Nat.reduceAdd, Nat.reduceMul, Nat.reduceSub, Nat.reduceEqDiff, Nat.reduceBEq, Nat.reduceLeDiff, Nat.reduceLT, Int.reduceAdd, Int.reduceMul, Int.reduceSub, Int.reduceLT, Int.reduceLE, Int.reduceToNat, Int.reduceEq, Int.reduceNe, Int.reduceBEq, Int.reduceBNe, ne_eq, eq_self]
    refine callT_of (m_swap _ _ _ _ q0 q1 hL hl (hS.set _).r3) ?_
    rintro v H' ⟨rfl, a2, cap2, g2, hL, hS⟩
    have hS := hS.p3
    have hk := hS.look
    have r1 := fun o => rd_of hk o
    have r2 := fun o n => rdn_of hk o n
    cases hz : (w.get t.at' == 0)
    · have hz' : (w.get (page t.s.p t.s.c t.s.m t.pg) == 0) = false := hz
      have e : t.step w = (t.next, w.swap t.c t.at' 0 (held t.c)) := by
        unfold Pc.step; rw [hd, he]; have : ¬ w.get t.at' = 0 := by simpa using hz
        simp [this]
      rw [e]
      by_cases hn : t.many + 1 = t.s.p
      · have hn' : (t.many + 1 == t.s.p) = true := by simp [hn]
        simp only [hk, r1, hz', hn', Pc.ren, hd, he, hfd, wrap_w64, wm, ↓D0, ↓D1, ↓D2, ↓D3, ↓D4, ↓D5, ↓D6, ↓D7, ↓D8, ↓D9, ↓D10, U0, U1, U2, U3, U4, U5, U6, U7, U8, U9, U10, ↓reduceIte, Nat.reduceAdd, Nat.reduceMul, Nat.reduceSub, Nat.reduceEqDiff, Nat.reduceBEq, Nat.reduceLeDiff, Nat.reduceLT, Int.reduceAdd, Int.reduceMul, Int.reduceSub, Int.reduceLT, Int.reduceLE, Int.reduceToNat, Int.reduceEq, Int.reduceNe, Int.reduceBEq, Int.reduceBNe, ne_eq, eq_self]
        refine ⟨t.pg, fun h => ?_, a2, cap2, g2, hL, ?_⟩
        · rcases h with h | h
          · simp [Pc.next, hn] at h
          · have := hfd; simp [Pc.next] at h; rw [h] at this; cases this
        · have := hS.set (.cells (Pc.ren t.next t.pg) 212 (0, 0))
          unfold Pc.ren Pc.next at this
          simp only [hn, hfd, ↓D0, ↓D1, ↓D2, ↓D3, ↓D4, ↓D5, ↓D6, ↓D7, ↓D8, ↓D9, ↓D10, U0, U1, U2, U3, U4, U5, U6, U7, U8, U9, U10, ↓reduceIte, Nat.reduceAdd, Nat.reduceMul, Nat.reduceSub, Nat.reduceEqDiff, Nat.reduceBEq, Nat.reduceLeDiff, Nat.reduceLT, Int.reduceAdd, Int.reduceMul, Int.reduceSub, Int.reduceLT, Int.reduceLE, Int.reduceToNat, Int.reduceEq, Int.reduceNe, Int.reduceBEq, Int.reduceBNe, ne_eq, eq_self] at this
          unfold rpB Pc.ren Pc.next
          simp only [hn, hfd, ↓D0, ↓D1, ↓D2, ↓D3, ↓D4, ↓D5, ↓D6, ↓D7, ↓D8, ↓D9, ↓D10, U0, U1, U2, U3, U4, U5, U6, U7, U8, U9, U10, ↓reduceIte, Nat.reduceAdd, Nat.reduceMul, Nat.reduceSub, Nat.reduceEqDiff, Nat.reduceBEq, Nat.reduceLeDiff, Nat.reduceLT, Int.reduceAdd, Int.reduceMul, Int.reduceSub, Int.reduceLT, Int.reduceLE, Int.reduceToNat, Int.reduceEq, Int.reduceNe, Int.reduceBEq, Int.reduceBNe, ne_eq, eq_self]
          exact this
      · have hn' : (t.many + 1 == t.s.p) = false := by simp [hn]
        have u1 := u_round t.s t.f (t.many + 1) (by omega) (by omega) (by omega)
        simp only [hk, r1, hz', hn', Pc.ren, hd, he, hfd, wrap_w64, wm, ↓D0, ↓D1, ↓D2, ↓D3, ↓D4, ↓D5, ↓D6, ↓D7, ↓D8, ↓D9, ↓D10, U0, U1, U2, U3, U4, U5, U6, U7, U8, U9, U10, ↓reduceIte, Nat.reduceAdd, Nat.reduceMul, Nat.reduceSub, Nat.reduceEqDiff, Nat.reduceBEq, Nat.reduceLeDiff, Nat.reduceLT, Int.reduceAdd, Int.reduceMul, Int.reduceSub, Int.reduceLT, Int.reduceLE, Int.reduceToNat, Int.reduceEq, Int.reduceNe, Int.reduceBEq, Int.reduceBNe, ne_eq, eq_self]
        refine draw_intro [(k, #[.int .i64 t.s.p, .int .i64 t.s.c, .int .i64 t.s.m, .int .i64 t.c, .int .i64 t.f, .int .i64 (t.many + 1), .int .i64 t.pg, .bool false, .bool false, .bool false], [])] (by simp only [↓D0, ↓D1, ↓D2, ↓D3, ↓D4, ↓D5, ↓D6, ↓D7, ↓D8, ↓D9, ↓D10, U0, U1, U2, U3, U4, U5, U6, U7, U8, U9, U10, ↓reduceIte, Nat.reduceAdd, Nat.reduceMul, Nat.reduceSub, Nat.reduceEqDiff, Nat.reduceBEq, Nat.reduceLeDiff, Nat.reduceLT, Int.reduceAdd, Int.reduceMul, Int.reduceSub, Int.reduceLT, Int.reduceLE, Int.reduceToNat, Int.reduceEq, Int.reduceNe, Int.reduceBEq, Int.reduceBNe, ne_eq, eq_self]) ?_
        simp only [u1, ↓D0, ↓D1, ↓D2, ↓D3, ↓D4, ↓D5, ↓D6, ↓D7, ↓D8, ↓D9, ↓D10, U0, U1, U2, U3, U4, U5, U6, U7, U8, U9, U10, ↓reduceIte, Nat.reduceAdd, Nat.reduceMul, Nat.reduceSub, Nat.reduceEqDiff, Nat.reduceBEq, Nat.reduceLeDiff, Nat.reduceLT, Int.reduceAdd, Int.reduceMul, Int.reduceSub, Int.reduceLT, Int.reduceLE, Int.reduceToNat, Int.reduceEq, Int.reduceNe, Int.reduceBEq, Int.reduceBNe, ne_eq, eq_self]
        refine ⟨t.next.pg, fun _ => rfl, a2, cap2, g2, hL, ?_⟩
        have := hS.set (.cells (Pc.ren t.next t.next.pg) 212 (0, 0))
        unfold Pc.ren Pc.next at this
        simp only [hn, hfd, ↓D0, ↓D1, ↓D2, ↓D3, ↓D4, ↓D5, ↓D6, ↓D7, ↓D8, ↓D9, ↓D10, U0, U1, U2, U3, U4, U5, U6, U7, U8, U9, U10, ↓reduceIte, Nat.reduceAdd, Nat.reduceMul, Nat.reduceSub, Nat.reduceEqDiff, Nat.reduceBEq, Nat.reduceLeDiff, Nat.reduceLT, Int.reduceAdd, Int.reduceMul, Int.reduceSub, Int.reduceLT, Int.reduceLE, Int.reduceToNat, Int.reduceEq, Int.reduceNe, Int.reduceBEq, Int.reduceBNe, ne_eq, eq_self] at this
        unfold rpB Pc.ren Pc.next
        simp only [hn, hfd, ↓D0, ↓D1, ↓D2, ↓D3, ↓D4, ↓D5, ↓D6, ↓D7, ↓D8, ↓D9, ↓D10, U0, U1, U2, U3, U4, U5, U6, U7, U8, U9, U10, ↓reduceIte, Nat.reduceAdd, Nat.reduceMul, Nat.reduceSub, Nat.reduceEqDiff, Nat.reduceBEq, Nat.reduceLeDiff, Nat.reduceLT, Int.reduceAdd, Int.reduceMul, Int.reduceSub, Int.reduceLT, Int.reduceLE, Int.reduceToNat, Int.reduceEq, Int.reduceNe, Int.reduceBEq, Int.reduceBNe, ne_eq, eq_self]
        exact this
    · have hz' : (w.get (page t.s.p t.s.c t.s.m t.pg) == 0) = true := hz
      have e : t.step w = ({ t with fd := true, dn := true }, w.swap t.c t.at' 0 (held t.c)) := by
        unfold Pc.step; rw [hd, he]; have : w.get t.at' = 0 := by simpa using hz
        simp [this]
      rw [e]
      simp only [hk, r1, hz', hd, he, hfd, ↓D0, ↓D1, ↓D2, ↓D3, ↓D4, ↓D5, ↓D6, ↓D7, ↓D8, ↓D9, ↓D10, U0, U1, U2, U3, U4, U5, U6, U7, U8, U9, U10, ↓reduceIte, Nat.reduceAdd, Nat.reduceMul, Nat.reduceSub, Nat.reduceEqDiff, Nat.reduceBEq, Nat.reduceLeDiff, Nat.reduceLT, Int.reduceAdd, Int.reduceMul, Int.reduceSub, Int.reduceLT, Int.reduceLE, Int.reduceToNat, Int.reduceEq, Int.reduceNe, Int.reduceBEq, Int.reduceBNe, ne_eq, eq_self]
      refine ⟨t.pg, fun _ => rfl, a2, cap2, g2, hL, ?_⟩
      have := hS.set (.cells (Pc.ren { t with fd := true, dn := true } t.pg) 212 (0, 0))
      unfold Pc.ren at this
      simp only [he, ↓D0, ↓D1, ↓D2, ↓D3, ↓D4, ↓D5, ↓D6, ↓D7, ↓D8, ↓D9, ↓D10, U0, U1, U2, U3, U4, U5, U6, U7, U8, U9, U10, ↓reduceIte, Nat.reduceAdd, Nat.reduceMul, Nat.reduceSub, Nat.reduceEqDiff, Nat.reduceBEq, Nat.reduceLeDiff, Nat.reduceLT, Int.reduceAdd, Int.reduceMul, Int.reduceSub, Int.reduceLT, Int.reduceLE, Int.reduceToNat, Int.reduceEq, Int.reduceNe, Int.reduceBEq, Int.reduceBNe, ne_eq, eq_self] at this
      unfold rpB Pc.ren
      simp only [he, ↓D0, ↓D1, ↓D2, ↓D3, ↓D4, ↓D5, ↓D6, ↓D7, ↓D8, ↓D9, ↓D10, U0, U1, U2, U3, U4, U5, U6, U7, U8, U9, U10, ↓reduceIte, Nat.reduceAdd, Nat.reduceMul, Nat.reduceSub, Nat.reduceEqDiff, Nat.reduceBEq, Nat.reduceLeDiff, Nat.reduceLT, Int.reduceAdd, Int.reduceMul, Int.reduceSub, Int.reduceLT, Int.reduceLE, Int.reduceToNat, Int.reduceEq, Int.reduceNe, Int.reduceBEq, Int.reduceBNe, ne_eq, eq_self]
      exact this
end

end Go.Proofs.YtpdmeneigpipiaaGreat
