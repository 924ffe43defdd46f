/-
  Whether a heap is sound, walked: it ends, with some answer; the heap is as it was. Conditions: none.
-/
import Derived.Test.YtbehnodllajnjaaSound2
set_option linter.unusedVariables false
set_option linter.unusedSimpArgs false
set_option maxRecDepth 8000
namespace Go.Proofs.Ytbehnodllajnjaa
open Go Go.Ev Go.Pl Go.Ma

section
variable {W : World} {H h : Hp} {l : List Hp} {n cap : Nat} {a : Option Addr} {ws : Nat → Int} {sh : Sh}
def soG (n cap : Nat) (a : Option Addr) (x : Nat) (F' : Fr) : Prop := gt F' 1 = .slice a n cap ∧ gt F' 2 = .pointer (some ⟨x, 0, none⟩)
def soA (sh : Sh) (n cap : Nat) (a : Option Addr) (x : Nat) (L : List Hp) (F' : Fr) (H' : Hp) : Prop :=
  ∃ p : Nat, (p : Int) ≤ sh.p ∧ gt F' 5 = .int .i64 (p : Int) ∧ soG n cap a x F' ∧ Sep L H'
def soB (sh : Sh) (n cap : Nat) (a : Option Addr) (x : Nat) (L : List Hp) (F' : Fr) (H' : Hp) : Prop :=
  ∃ (c k ecap : Nat) (es : Option Addr) (g : Hp), (c : Int) ≤ sh.c ∧ gt F' 9 = .int .i64 (c : Int) ∧ gt F' 8 = .slice es k ecap ∧ Es es k ecap g ∧ k ≤ c * 8 ∧ soG n cap a x F' ∧ Sep (g :: L) H'
def soC (sh : Sh) (c n cap : Nat) (a : Option Addr) (x : Nat) (L : List Hp) (F' : Fr) (H' : Hp) : Prop :=
  ∃ (i k ecap : Nat) (es : Option Addr) (g : Hp), (i : Int) ≤ sh.m ∧ gt F' 10 = .int .i64 (i : Int) ∧ gt F' 9 = .int .i64 (c : Int) ∧ gt F' 8 = .slice es k ecap ∧ Es es k ecap g ∧ k ≤ c * 8 + i ∧ soG n cap a x F' ∧ Sep (g :: L) H'
def soD (c i k ecap : Nat) (es : Option Addr) (y n cap : Nat) (a : Option Addr) (x : Nat) (L : List Hp) (F' : Fr) (H' : Hp) : Prop :=
  ∃ j : Nat, j ≤ k ∧ gt F' 16 = .int .i64 (j : Int) ∧ gt F' 12 = .pointer (some ⟨y, 0, none⟩) ∧ gt F' 10 = .int .i64 (i : Int) ∧ gt F' 9 = .int .i64 (c : Int) ∧ gt F' 8 = .slice es k ecap ∧ soG n cap a x F' ∧ Sep L H'
set_option maxHeartbeats 8000000 in
theorem c_sound (hm : may sh.p sh.c sh.m = true) (hn : (n : Int) = words sh.p sh.c sh.m) (hr : RowU h a n ws) (hU : ∀ i, i < n → U (ws i)) (hS : Sep (h :: l) H) :
    CallP Try.prog W 38 #[.agg #[.int .i64 sh.p, .int .i64 sh.c, .int .i64 sh.m], .slice a n cap] H fun v H' => ∃ b, v = .bool b ∧ Sep (h :: l) H' := by
  refine CallP.of mixed Try.func38 tr38 (by show 2 ≤ _; decide) fun W _ => ?_
  simp only [↓D0, ↓D1, ↓D2, ↓D3, ↓D4, ↓D5, ↓D6, ↓D7, ↓D8, ↓D9, U0, U1, U2, U3, U4, U5, U6, U7, U8, U9, U10, ↓reduceIte, Nat.reduceAdd, Nat.reduceMul, Nat.reduceSub, Nat.reduceEqDiff, Nat.reduceBEq, Nat.reduceLeDiff, Nat.reduceLT, Int.reduceAdd, Int.reduceMul, Int.reduceSub, Int.reduceLT, Int.reduceLE, Int.reduceToNat, Int.reduceEq, Int.reduceNe, Int.reduceBEq, Int.reduceBNe, ne_eq, eq_self]
  refine newB_intro fun x hx f1 f2 => ?_
  have hS := (hS.new f1 (.cells #[.int .i64 sh.p, .int .i64 sh.c, .int .i64 sh.m] 25 (0, 0)))
  have hx1 := hS.look
  have r1 := fun o n => rdn_of hx1 o n
  have hw := words_ge hm hn
  have hb := (may_iff _ _ _).1 hm
  simp only [hx1, r1, ↓D0, ↓D1, ↓D2, ↓D3, ↓D4, ↓D5, ↓D6, ↓D7, ↓D8, ↓D9, U0, U1, U2, U3, U4, U5, U6, U7, U8, U9, U10, ↓reduceIte, Nat.reduceAdd, Nat.reduceMul, Nat.reduceSub, Nat.reduceEqDiff, Nat.reduceBEq, Nat.reduceLeDiff, Nat.reduceLT, Int.reduceAdd, Int.reduceMul, Int.reduceSub, Int.reduceLT, Int.reduceLE, Int.reduceToNat, Int.reduceEq, Int.reduceNe, Int.reduceBEq, Int.reduceBNe, ne_eq, eq_self]
  refine callT_of (c_senough hm hn hS) ?_
  rintro v H' ⟨rfl, hS⟩
  simp only [↓D0, ↓D1, ↓D2, ↓D3, ↓D4, ↓D5, ↓D6, ↓D7, ↓D8, ↓D9, U0, U1, U2, U3, U4, U5, U6, U7, U8, U9, U10, ↓reduceIte, Nat.reduceAdd, Nat.reduceMul, Nat.reduceSub, Nat.reduceEqDiff, Nat.reduceBEq, Nat.reduceLeDiff, Nat.reduceLT, Int.reduceAdd, Int.reduceMul, Int.reduceSub, Int.reduceLT, Int.reduceLE, Int.reduceToNat, Int.reduceEq, Int.reduceNe, Int.reduceBEq, Int.reduceBNe, ne_eq, eq_self]
  refine loop_intro (soA sh n cap a x (sg x (.cells #[.int .i64 sh.p, .int .i64 sh.c, .int .i64 sh.m] 25 (0, 0)) :: h :: l)) (fun F' _ => (sh.p - iv (gt F' 5)).toNat)
    ⟨0, by omega, rfl, ⟨rfl, rfl⟩, hS⟩ ?_
  clear hS hx1 r1
  rintro F' H' ⟨p, hp, e5, ⟨e1, e2⟩, hS⟩
  have hx1 := hS.look
  have r1 := fun o n => rdn_of hx1 o n
  have r0 := fun o => rd_of hx1 o
  by_cases hlt : (p : Int) < sh.p
  · have d1 : decide ((p : Int) < sh.p) = true := decide_eq_true hlt
    have wi : w64 ((p : Int) + 1) = (p : Int) + 1 := w64_eq (by omega) (by omega)
    simp only [e5, e1, e2, hx1, r0, r1, d1, ↓D0, ↓D1, ↓D2, ↓D3, ↓D4, ↓D5, ↓D6, ↓D7, ↓D8, ↓D9, U0, U1, U2, U3, U4, U5, U6, U7, U8, U9, U10, ↓reduceIte, Nat.reduceAdd, Nat.reduceMul, Nat.reduceSub, Nat.reduceEqDiff, Nat.reduceBEq, Nat.reduceLeDiff, Nat.reduceLT, Int.reduceAdd, Int.reduceMul, Int.reduceSub, Int.reduceLT, Int.reduceLE, Int.reduceToNat, Int.reduceEq, Int.reduceNe, Int.reduceBEq, Int.reduceBNe, ne_eq, eq_self]
    refine callT_of (c_spage p hm hn hr hU hS.p1) ?_
    rintro v H' ⟨rfl, hS⟩
    have hx0 := hS.lk 1 rfl
    have r1 := fun o n => rdn_of hx0 o n
    simp only [e5, e1, e2, ↓D0, ↓D1, ↓D2, ↓D3, ↓D4, ↓D5, ↓D6, ↓D7, ↓D8, ↓D9, U0, U1, U2, U3, U4, U5, U6, U7, U8, U9, U10, ↓reduceIte, Nat.reduceAdd, Nat.reduceMul, Nat.reduceSub, Nat.reduceEqDiff, Nat.reduceBEq, Nat.reduceLeDiff, Nat.reduceLT, Int.reduceAdd, Int.reduceMul, Int.reduceSub, Int.reduceLT, Int.reduceLE, Int.reduceToNat, Int.reduceEq, Int.reduceNe, Int.reduceBEq, Int.reduceBNe, ne_eq, eq_self]
    refine newB_intro fun z hz f5 f6 => ?_
    have nxz : (x = z) = False := f5 x (by rw [hx0]; rfl)
    have nzx : (z = x) = False := f6 x (by rw [hx0]; rfl)
    have hS := hS.new f5 (.cells #[.int .i64 0, .int .i64 0, .int .i64 0] 32 (0, 0))
    have hS := hS.set (.cells #[.int .i64 (pgK sh p (spX sh ws p)), .int .i64 (pgA sh p (spX sh ws p)), .int .i64 (pgB sh p (spX sh ws p))] 32 (0, 0))
    rw [Ev.upd_upd] at hS
    have hA : pgA sh p (spX sh ws p) ≤ 255 := by
      unfold pgA; split
      · exact (pt_bd _ _).2
      · decide
    cases hok : okPg sh p (spX sh ws p)
    · simp only [e5, e1, e2, hok, Ev.upd_upd, nxz, nzx, hx0, r1, ↓D0, ↓D1, ↓D2, ↓D3, ↓D4, ↓D5, ↓D6, ↓D7, ↓D8, ↓D9, U0, U1, U2, U3, U4, U5, U6, U7, U8, U9, U10, ↓reduceIte, Nat.reduceAdd, Nat.reduceMul, Nat.reduceSub, Nat.reduceEqDiff, Nat.reduceBEq, Nat.reduceLeDiff, Nat.reduceLT, Int.reduceAdd, Int.reduceMul, Int.reduceSub, Int.reduceLT, Int.reduceLE, Int.reduceToNat, Int.reduceEq, Int.reduceNe, Int.reduceBEq, Int.reduceBNe, ne_eq, eq_self]
      exact ⟨_, rfl, hS.tail.p1.tail⟩
    · simp only [e5, e1, e2, hok, Ev.upd_upd, nxz, nzx, hx0, r1, ↓D0, ↓D1, ↓D2, ↓D3, ↓D4, ↓D5, ↓D6, ↓D7, ↓D8, ↓D9, U0, U1, U2, U3, U4, U5, U6, U7, U8, U9, U10, ↓reduceIte, Nat.reduceAdd, Nat.reduceMul, Nat.reduceSub, Nat.reduceEqDiff, Nat.reduceBEq, Nat.reduceLeDiff, Nat.reduceLT, Int.reduceAdd, Int.reduceMul, Int.reduceSub, Int.reduceLT, Int.reduceLE, Int.reduceToNat, Int.reduceEq, Int.reduceNe, Int.reduceBEq, Int.reduceBNe, ne_eq, eq_self]
      refine callT_of (c_soundpage p _ _ _ hA hm hn hr hU ⟨by omega, hlt⟩ hS.tail) ?_
      rintro v H' ⟨b, rfl, hS⟩
      cases b
      · simp only [e5, e1, e2, ↓D0, ↓D1, ↓D2, ↓D3, ↓D4, ↓D5, ↓D6, ↓D7, ↓D8, ↓D9, U0, U1, U2, U3, U4, U5, U6, U7, U8, U9, U10, ↓reduceIte, Nat.reduceAdd, Nat.reduceMul, Nat.reduceSub, Nat.reduceEqDiff, Nat.reduceBEq, Nat.reduceLeDiff, Nat.reduceLT, Int.reduceAdd, Int.reduceMul, Int.reduceSub, Int.reduceLT, Int.reduceLE, Int.reduceToNat, Int.reduceEq, Int.reduceNe, Int.reduceBEq, Int.reduceBNe, ne_eq, eq_self]
        exact ⟨_, rfl, hS.p1.tail⟩
      · simp only [e5, e1, e2, wrap_w64, wi, ↓D0, ↓D1, ↓D2, ↓D3, ↓D4, ↓D5, ↓D6, ↓D7, ↓D8, ↓D9, U0, U1, U2, U3, U4, U5, U6, U7, U8, U9, U10, ↓reduceIte, Nat.reduceAdd, Nat.reduceMul, Nat.reduceSub, Nat.reduceEqDiff, Nat.reduceBEq, Nat.reduceLeDiff, Nat.reduceLT, Int.reduceAdd, Int.reduceMul, Int.reduceSub, Int.reduceLT, Int.reduceLE, Int.reduceToNat, Int.reduceEq, Int.reduceNe, Int.reduceBEq, Int.reduceBNe, ne_eq, eq_self]
        exact ⟨⟨p + 1, by omega, by simp [gt, wi], ⟨by simp [gt, e1], by simp [gt, e2]⟩, hS.p1⟩, by simp [gt, iv, e5, wi]; omega⟩
  have d1 : decide ((p : Int) < sh.p) = false := decide_eq_false hlt
  simp only [e5, e1, e2, hx1, r0, r1, d1, ↓D0, ↓D1, ↓D2, ↓D3, ↓D4, ↓D5, ↓D6, ↓D7, ↓D8, ↓D9, U0, U1, U2, U3, U4, U5, U6, U7, U8, U9, U10, ↓reduceIte, Nat.reduceAdd, Nat.reduceMul, Nat.reduceSub, Nat.reduceEqDiff, Nat.reduceBEq, Nat.reduceLeDiff, Nat.reduceLT, Int.reduceAdd, Int.reduceMul, Int.reduceSub, Int.reduceLT, Int.reduceLE, Int.reduceToNat, Int.reduceEq, Int.reduceNe, Int.reduceBEq, Int.reduceBNe, ne_eq, eq_self]
  refine loop_intro (soB sh n cap a x (sg x (.cells #[.int .i64 sh.p, .int .i64 sh.c, .int .i64 sh.m] 25 (0, 0)) :: h :: l)) (fun F' _ => (sh.c - iv (gt F' 9)).toNat)
    ⟨0, 0, 0, none, _, by omega, by simp [gt], by simp [gt], .inl ⟨rfl, rfl, rfl, rfl⟩, by omega, ⟨by simp [gt, e1], by simp [gt, e2]⟩, hS.nothing⟩ ?_
  clear hS hx1 r1 r0 e1 e2 e5 hlt d1
  rintro F' H' ⟨c, k, ecap, es, g, hc, e9, e8, hE, hk, ⟨e1, e2⟩, hS⟩
  have hx1 := hS.lk 1 rfl
  have r1 := fun o n => rdn_of hx1 o n
  have r0 := fun o => rd_of hx1 o
  by_cases hcl : (c : Int) < sh.c
  rotate_left
  · have d1 : decide ((c : Int) < sh.c) = false := decide_eq_false hcl
    simp only [e9, e8, e1, e2, hx1, r0, r1, d1, ↓D0, ↓D1, ↓D2, ↓D3, ↓D4, ↓D5, ↓D6, ↓D7, ↓D8, ↓D9, U0, U1, U2, U3, U4, U5, U6, U7, U8, U9, U10, ↓reduceIte, Nat.reduceAdd, Nat.reduceMul, Nat.reduceSub, Nat.reduceEqDiff, Nat.reduceBEq, Nat.reduceLeDiff, Nat.reduceLT, Int.reduceAdd, Int.reduceMul, Int.reduceSub, Int.reduceLT, Int.reduceLE, Int.reduceToNat, Int.reduceEq, Int.reduceNe, Int.reduceBEq, Int.reduceBNe, ne_eq, eq_self]
    exact ⟨_, rfl, hS.tail.tail⟩
  have d1 : decide ((c : Int) < sh.c) = true := decide_eq_true hcl
  have wc : w64 ((c : Int) + 1) = (c : Int) + 1 := w64_eq (by omega) (by omega)
  simp only [e9, e8, e1, e2, hx1, r0, r1, d1, ↓D0, ↓D1, ↓D2, ↓D3, ↓D4, ↓D5, ↓D6, ↓D7, ↓D8, ↓D9, U0, U1, U2, U3, U4, U5, U6, U7, U8, U9, U10, ↓reduceIte, Nat.reduceAdd, Nat.reduceMul, Nat.reduceSub, Nat.reduceEqDiff, Nat.reduceBEq, Nat.reduceLeDiff, Nat.reduceLT, Int.reduceAdd, Int.reduceMul, Int.reduceSub, Int.reduceLT, Int.reduceLE, Int.reduceToNat, Int.reduceEq, Int.reduceNe, Int.reduceBEq, Int.reduceBNe, ne_eq, eq_self]
  refine loop_intro (soC sh c n cap a x (sg x (.cells #[.int .i64 sh.p, .int .i64 sh.c, .int .i64 sh.m] 25 (0, 0)) :: h :: l)) (fun F' _ => (sh.m - iv (gt F' 10)).toNat)
    ⟨0, k, ecap, es, g, by omega, by simp [gt], by simp [gt, e9], by simp [gt, e8], hE, by omega, ⟨by simp [gt, e1], by simp [gt, e2]⟩, hS⟩ ?_
  have e9o := e9
  clear hS hx1 r1 r0 e1 e2 e9 e8 d1 hE hk
  rintro F'' H' ⟨i, k, ecap, es, g, hi, e10, e9, e8, hE, hk, ⟨e1, e2⟩, hS⟩
  have hx1 := hS.lk 1 rfl
  have r1 := fun o n => rdn_of hx1 o n
  have r0 := fun o => rd_of hx1 o
  by_cases hil : (i : Int) < sh.m
  rotate_left
  · have d1 : decide ((i : Int) < sh.m) = false := decide_eq_false hil
    simp only [e10, e9, e8, e1, e2, hx1, r0, r1, d1, wrap_w64, wc, ↓D0, ↓D1, ↓D2, ↓D3, ↓D4, ↓D5, ↓D6, ↓D7, ↓D8, ↓D9, U0, U1, U2, U3, U4, U5, U6, U7, U8, U9, U10, ↓reduceIte, Nat.reduceAdd, Nat.reduceMul, Nat.reduceSub, Nat.reduceEqDiff, Nat.reduceBEq, Nat.reduceLeDiff, Nat.reduceLT, Int.reduceAdd, Int.reduceMul, Int.reduceSub, Int.reduceLT, Int.reduceLE, Int.reduceToNat, Int.reduceEq, Int.reduceNe, Int.reduceBEq, Int.reduceBNe, ne_eq, eq_self]
    exact ⟨⟨c + 1, k, ecap, es, g, by omega, by simp [gt, wc], by simp [gt, e8], hE, by omega, ⟨by simp [gt, e1], by simp [gt, e2]⟩, hS⟩, by simp [gt, iv, e9o, e9, wc]; omega⟩
  have d1 : decide ((i : Int) < sh.m) = true := decide_eq_true hil
  have wi : w64 ((i : Int) + 1) = (i : Int) + 1 := w64_eq (by omega) (by omega)
  have hmg : mag sh.p sh.c sh.m (c : Int) (i : Int) = sh.c + sh.p + sh.p * 16 + (c : Int) * sh.m + (i : Int) := mag_yes hm (by omega) hcl (by omega) hil
  have hcm : (c : Int) * sh.m + sh.m ≤ sh.c * sh.m := by
    have : ((c : Int) + 1) * sh.m ≤ sh.c * sh.m := Int.mul_le_mul_of_nonneg_right (by omega) (by omega)
    rw [Int.add_mul, Int.one_mul] at this; exact this
  have hcm0 : 0 ≤ (c : Int) * sh.m := Int.mul_nonneg (by omega) (by omega)
  obtain ⟨at', hat⟩ : ∃ at', sh.c + sh.p + sh.p * 16 + (c : Int) * sh.m + (i : Int) = at' := ⟨_, rfl⟩
  rw [hat] at hmg
  have p0 : 0 ≤ at' := by omega
  have p1 : at' < (n : Int) := by omega
  obtain ⟨xb, xo, rfl, hrd⟩ := (hr.sub (hS.sb h (by simp))).at' (i := at'.toNat) (by omega)
  have hu : U (ws at'.toNat) := hU _ (by omega)
  obtain ⟨w, hww⟩ : ∃ w, ws at'.toNat = w := ⟨_, rfl⟩
  rw [hww] at hrd hu
  cases hz : (w == 0)
  rotate_left
  · simp only [e10, e9, e8, e1, e2, hx1, r0, r1, d1, u_mag, hmg, p0, p1, hrd, hz, wrap_w64, wi, ↓D0, ↓D1, ↓D2, ↓D3, ↓D4, ↓D5, ↓D6, ↓D7, ↓D8, ↓D9, U0, U1, U2, U3, U4, U5, U6, U7, U8, U9, U10, ↓reduceIte, Nat.reduceAdd, Nat.reduceMul, Nat.reduceSub, Nat.reduceEqDiff, Nat.reduceBEq, Nat.reduceLeDiff, Nat.reduceLT, Int.reduceAdd, Int.reduceMul, Int.reduceSub, Int.reduceLT, Int.reduceLE, Int.reduceToNat, Int.reduceEq, Int.reduceNe, Int.reduceBEq, Int.reduceBNe, ne_eq, eq_self]
    exact ⟨⟨i + 1, k, ecap, es, g, by omega, by simp [gt, wi], by simp [gt, e9], by simp [gt, e8], hE, by omega, ⟨by simp [gt, e1], by simp [gt, e2]⟩, hS⟩, by simp [gt, iv, e10, wi]; omega⟩
  simp only [e10, e9, e8, e1, e2, hx1, r0, r1, d1, u_mag, hmg, p0, p1, hrd, hz, u_readen sh hu, ↓D0, ↓D1, ↓D2, ↓D3, ↓D4, ↓D5, ↓D6, ↓D7, ↓D8, ↓D9, U0, U1, U2, U3, U4, U5, U6, U7, U8, U9, U10, ↓reduceIte, Nat.reduceAdd, Nat.reduceMul, Nat.reduceSub, Nat.reduceEqDiff, Nat.reduceBEq, Nat.reduceLeDiff, Nat.reduceLT, Int.reduceAdd, Int.reduceMul, Int.reduceSub, Int.reduceLT, Int.reduceLE, Int.reduceToNat, Int.reduceEq, Int.reduceNe, Int.reduceBEq, Int.reduceBNe, ne_eq, eq_self]
  refine newB_intro fun y hy f3 f4 => ?_
  have hS := hS.new f3 (.cells #[.int .i64 0, .int .i64 0, .int .i64 0] 55 (0, 0))
  have hS := hS.set (.cells #[.int .i64 (enP sh w), .int .i64 (enS sh w), .int .i64 (enK sh w)] 55 (0, 0))
  rw [Ev.upd_upd] at hS
  have hyx := hS.neq 0 2 (by decide) rfl rfl
  have hxy := hS.qen 0 2 (by decide) rfl rfl
  cases hok : okEn sh w
  · simp only [e10, e9, e8, e1, e2, hok, Ev.upd_upd, ↓D0, ↓D1, ↓D2, ↓D3, ↓D4, ↓D5, ↓D6, ↓D7, ↓D8, ↓D9, U0, U1, U2, U3, U4, U5, U6, U7, U8, U9, U10, ↓reduceIte, Nat.reduceAdd, Nat.reduceMul, Nat.reduceSub, Nat.reduceEqDiff, Nat.reduceBEq, Nat.reduceLeDiff, Nat.reduceLT, Int.reduceAdd, Int.reduceMul, Int.reduceSub, Int.reduceLT, Int.reduceLE, Int.reduceToNat, Int.reduceEq, Int.reduceNe, Int.reduceBEq, Int.reduceBNe, ne_eq, eq_self]
    exact ⟨_, rfl, hS.tail.tail.tail⟩
  obtain ⟨hep, hes⟩ := okEn_in hm hok
  obtain ⟨ep, hepp⟩ : ∃ ep, enP sh w = ep := ⟨_, rfl⟩
  obtain ⟨e_s, hess⟩ : ∃ e_s, enS sh w = e_s := ⟨_, rfl⟩
  obtain ⟨ek, hekk⟩ : ∃ ek, enK sh w = ek := ⟨_, rfl⟩
  rw [hepp] at hep
  rw [hess] at hes
  rw [hepp, hess, hekk] at hS
  simp only [e10, e9, e8, e1, e2, hok, hepp, hess, hekk, Ev.upd_upd, hx1, r0, r1, hyx, hxy, ↓D0, ↓D1, ↓D2, ↓D3, ↓D4, ↓D5, ↓D6, ↓D7, ↓D8, ↓D9, U0, U1, U2, U3, U4, U5, U6, U7, U8, U9, U10, ↓reduceIte, Nat.reduceAdd, Nat.reduceMul, Nat.reduceSub, Nat.reduceEqDiff, Nat.reduceBEq, Nat.reduceLeDiff, Nat.reduceLT, Int.reduceAdd, Int.reduceMul, Int.reduceSub, Int.reduceLT, Int.reduceLE, Int.reduceToNat, Int.reduceEq, Int.reduceNe, Int.reduceBEq, Int.reduceBNe, ne_eq, eq_self]
  refine callT_of (c_spage ep hm hn hr hU hS.p3) ?_
  rintro v H' ⟨rfl, hS⟩
  have hy1 := hS.lk 1 rfl
  have hx1 := hS.lk 3 rfl
  have r1 := fun o n => rdn_of hx1 o n
  have r0 := fun o => rd_of hx1 o
  have r2 := fun o => rd_of hy1 o
  have r2n := fun o n => rdn_of hy1 o n
  have hyx := hS.neq 1 3 (by decide) rfl rfl
  have hxy := hS.qen 1 3 (by decide) rfl rfl
  have hsl : slot sh.p sh.c sh.m ep e_s = sh.c + sh.p + ep * 16 + e_s := slot_yes hm hep.1 hep.2 hes.1 hes.2
  have q0 : (0 : Int) ≤ sh.c + sh.p + ep * 16 + e_s := by omega
  have q1 : sh.c + sh.p + ep * 16 + e_s < (n : Int) := by omega
  obtain ⟨xb2, xo2, hxe, hrd2⟩ := (hr.sub (hS.sb h (by simp))).at' (i := (sh.c + sh.p + ep * 16 + e_s).toNat) (by omega)
  cases hxe
  simp only [e10, e9, e8, e1, e2, ↓D0, ↓D1, ↓D2, ↓D3, ↓D4, ↓D5, ↓D6, ↓D7, ↓D8, ↓D9, U0, U1, U2, U3, U4, U5, U6, U7, U8, U9, U10, ↓reduceIte, Nat.reduceAdd, Nat.reduceMul, Nat.reduceSub, Nat.reduceEqDiff, Nat.reduceBEq, Nat.reduceLeDiff, Nat.reduceLT, Int.reduceAdd, Int.reduceMul, Int.reduceSub, Int.reduceLT, Int.reduceLE, Int.reduceToNat, Int.reduceEq, Int.reduceNe, Int.reduceBEq, Int.reduceBNe, ne_eq, eq_self]
  refine newB_intro fun z hz2 f5 f6 => ?_
  have nxz : (x = z) = False := f5 x (by rw [hx1]; rfl)
  have nzx : (z = x) = False := f6 x (by rw [hx1]; rfl)
  have nyz : (y = z) = False := f5 y (by rw [hy1]; rfl)
  have nzy : (z = y) = False := f6 y (by rw [hy1]; rfl)
  have nbz : (xb = z) = False := f5 xb (by obtain ⟨c, T, f, hc, -⟩ := cells_of hrd2; rw [hc]; rfl)
  obtain ⟨pK, hpK⟩ : ∃ pK, pgK sh ep (spX sh ws ep) = pK := ⟨_, rfl⟩
  obtain ⟨pA, hpA⟩ : ∃ pA, pgA sh ep (spX sh ws ep) = pA := ⟨_, rfl⟩
  obtain ⟨pB, hpB⟩ : ∃ pB, pgB sh ep (spX sh ws ep) = pB := ⟨_, rfl⟩
  have hS := hS.new f5 (.cells #[.int .i64 0, .int .i64 0, .int .i64 0] 32 (0, 0))
  have hS := hS.set (.cells #[.int .i64 pK, .int .i64 pA, .int .i64 pB] 32 (0, 0))
  rw [Ev.upd_upd] at hS
  have hSt := hS.tail
  cases c1 : (pK != 2)
  rotate_left
  · simp only [e10, e9, e8, e1, e2, hpK, hpA, hpB, Ev.upd_upd, nxz, nzx, nyz, nzy, nbz, hx1, hy1, r0, r1, r2, hyx, hxy, c1, ↓D0, ↓D1, ↓D2, ↓D3, ↓D4, ↓D5, ↓D6, ↓D7, ↓D8, ↓D9, U0, U1, U2, U3, U4, U5, U6, U7, U8, U9, U10, ↓reduceIte, Nat.reduceAdd, Nat.reduceMul, Nat.reduceSub, Nat.reduceEqDiff, Nat.reduceBEq, Nat.reduceLeDiff, Nat.reduceLT, Int.reduceAdd, Int.reduceMul, Int.reduceSub, Int.reduceLT, Int.reduceLE, Int.reduceToNat, Int.reduceEq, Int.reduceNe, Int.reduceBEq, Int.reduceBNe, ne_eq, eq_self]
    exact ⟨_, rfl, hSt.p1.tail.p1.tail.p1.tail⟩
  cases c2 : (pA != ek)
  rotate_left
  · simp only [e10, e9, e8, e1, e2, hpK, hpA, hpB, Ev.upd_upd, nxz, nzx, nyz, nzy, nbz, hx1, hy1, r0, r1, r2, hyx, hxy, c1, c2, ↓D0, ↓D1, ↓D2, ↓D3, ↓D4, ↓D5, ↓D6, ↓D7, ↓D8, ↓D9, U0, U1, U2, U3, U4, U5, U6, U7, U8, U9, U10, ↓reduceIte, Nat.reduceAdd, Nat.reduceMul, Nat.reduceSub, Nat.reduceEqDiff, Nat.reduceBEq, Nat.reduceLeDiff, Nat.reduceLT, Int.reduceAdd, Int.reduceMul, Int.reduceSub, Int.reduceLT, Int.reduceLE, Int.reduceToNat, Int.reduceEq, Int.reduceNe, Int.reduceBEq, Int.reduceBNe, ne_eq, eq_self]
    exact ⟨_, rfl, hSt.p1.tail.p1.tail.p1.tail⟩
  cases c3 : (ws (sh.c + sh.p + ep * 16 + e_s).toNat != putSl 2 (c : Int))
  rotate_left
  · simp only [e10, e9, e8, e1, e2, hpK, hpA, hpB, Ev.upd_upd, nxz, nzx, nyz, nzy, nbz, hx1, hy1, r0, r1, r2, hyx, hxy, c1, c2, u_slot, hsl, q0, q1, hrd2, u_putsl, c3, ↓D0, ↓D1, ↓D2, ↓D3, ↓D4, ↓D5, ↓D6, ↓D7, ↓D8, ↓D9, U0, U1, U2, U3, U4, U5, U6, U7, U8, U9, U10, ↓reduceIte, Nat.reduceAdd, Nat.reduceMul, Nat.reduceSub, Nat.reduceEqDiff, Nat.reduceBEq, Nat.reduceLeDiff, Nat.reduceLT, Int.reduceAdd, Int.reduceMul, Int.reduceSub, Int.reduceLT, Int.reduceLE, Int.reduceToNat, Int.reduceEq, Int.reduceNe, Int.reduceBEq, Int.reduceBNe, ne_eq, eq_self]
    exact ⟨_, rfl, hSt.p1.tail.p1.tail.p1.tail⟩
  simp only [e10, e9, e8, e1, e2, hpK, hpA, hpB, Ev.upd_upd, nxz, nzx, nyz, nzy, nbz, hx1, hy1, r0, r1, r2, hyx, hxy, c1, c2, u_slot, hsl, q0, q1, hrd2, u_putsl, c3, ↓D0, ↓D1, ↓D2, ↓D3, ↓D4, ↓D5, ↓D6, ↓D7, ↓D8, ↓D9, U0, U1, U2, U3, U4, U5, U6, U7, U8, U9, U10, ↓reduceIte, Nat.reduceAdd, Nat.reduceMul, Nat.reduceSub, Nat.reduceEqDiff, Nat.reduceBEq, Nat.reduceLeDiff, Nat.reduceLT, Int.reduceAdd, Int.reduceMul, Int.reduceSub, Int.reduceLT, Int.reduceLE, Int.reduceToNat, Int.reduceEq, Int.reduceNe, Int.reduceBEq, Int.reduceBNe, ne_eq, eq_self]
  refine loop_intro (soD c i k ecap es y n cap (some ⟨xb, xo, none⟩) x (g :: sg y (.cells #[.int .i64 ep, .int .i64 e_s, .int .i64 ek] 55 (0, 0)) :: sg x (.cells #[.int .i64 sh.p, .int .i64 sh.c, .int .i64 sh.m] 25 (0, 0)) :: h :: l)) (fun F' _ => (k - iv (gt F' 16)).toNat)
    ⟨0, by omega, by simp [gt], by simp [gt], by simp [gt, e10], by simp [gt, e9], by simp [gt, e8], ⟨by simp [gt, e1], by simp [gt, e2]⟩, hSt.p3.p2.p3⟩ ?_
  have e10o := e10
  clear hS hSt hx1 hy1 r0 r1 r2 r2n hrd hrd2 e10 e9 e8 e1 e2 nbz
  rintro F3 H' ⟨j, hj, e16, e12, e10, e9, e8, ⟨e1, e2⟩, hS⟩
  have hy1 := hS.lk 1 rfl
  have r2 := fun o => rd_of hy1 o
  have r2n := fun o n => rdn_of hy1 o n
  by_cases hjk : j < k
  · have d2 : decide ((j : Int) < (k : Int)) = true := decide_eq_true (by omega)
    have j0 : (0 : Int) ≤ (j : Int) := by omega
    have j1 : (j : Int) < (k : Int) := by omega
    have wj : w64 ((j : Int) + 1) = (j : Int) + 1 := w64_eq (by omega) (by omega)
    obtain ⟨sz, v1, v2, rfl, g1, g2⟩ := hE.rd hS (by simp) hjk
    cases t1 : (v1 == ep)
    · simp only [e16, e12, e10, e9, e8, e1, e2, hy1, r2, d2, j0, j1, Int.toNat_natCast, Nat.zero_add, Nat.add_zero, g1, g2, t1, wrap_w64, wj, ↓D0, ↓D1, ↓D2, ↓D3, ↓D4, ↓D5, ↓D6, ↓D7, ↓D8, ↓D9, U0, U1, U2, U3, U4, U5, U6, U7, U8, U9, U10, ↓reduceIte, Nat.reduceAdd, Nat.reduceMul, Nat.reduceSub, Nat.reduceEqDiff, Nat.reduceBEq, Nat.reduceLeDiff, Nat.reduceLT, Int.reduceAdd, Int.reduceMul, Int.reduceSub, Int.reduceLT, Int.reduceLE, Int.reduceToNat, Int.reduceEq, Int.reduceNe, Int.reduceBEq, Int.reduceBNe, ne_eq, eq_self]
      exact ⟨⟨j + 1, by omega, by simp [gt, wj], by simp [gt, e12], by simp [gt, e10], by simp [gt, e9], by simp [gt, e8], ⟨by simp [gt, e1], by simp [gt, e2]⟩, hS⟩, by simp [gt, iv, e16, wj]; omega⟩
    · cases t2 : (v2 == e_s)
      · simp only [e16, e12, e10, e9, e8, e1, e2, hy1, r2, d2, j0, j1, Int.toNat_natCast, Nat.zero_add, Nat.add_zero, g1, g2, t1, t2, wrap_w64, wj, ↓D0, ↓D1, ↓D2, ↓D3, ↓D4, ↓D5, ↓D6, ↓D7, ↓D8, ↓D9, U0, U1, U2, U3, U4, U5, U6, U7, U8, U9, U10, ↓reduceIte, Nat.reduceAdd, Nat.reduceMul, Nat.reduceSub, Nat.reduceEqDiff, Nat.reduceBEq, Nat.reduceLeDiff, Nat.reduceLT, Int.reduceAdd, Int.reduceMul, Int.reduceSub, Int.reduceLT, Int.reduceLE, Int.reduceToNat, Int.reduceEq, Int.reduceNe, Int.reduceBEq, Int.reduceBNe, ne_eq, eq_self]
        exact ⟨⟨j + 1, by omega, by simp [gt, wj], by simp [gt, e12], by simp [gt, e10], by simp [gt, e9], by simp [gt, e8], ⟨by simp [gt, e1], by simp [gt, e2]⟩, hS⟩, by simp [gt, iv, e16, wj]; omega⟩
      · simp only [e16, e12, e10, e9, e8, e1, e2, hy1, r2, d2, j0, j1, Int.toNat_natCast, Nat.zero_add, Nat.add_zero, g1, g2, t1, t2, ↓D0, ↓D1, ↓D2, ↓D3, ↓D4, ↓D5, ↓D6, ↓D7, ↓D8, ↓D9, U0, U1, U2, U3, U4, U5, U6, U7, U8, U9, U10, ↓reduceIte, Nat.reduceAdd, Nat.reduceMul, Nat.reduceSub, Nat.reduceEqDiff, Nat.reduceBEq, Nat.reduceLeDiff, Nat.reduceLT, Int.reduceAdd, Int.reduceMul, Int.reduceSub, Int.reduceLT, Int.reduceLE, Int.reduceToNat, Int.reduceEq, Int.reduceNe, Int.reduceBEq, Int.reduceBNe, ne_eq, eq_self]
        exact ⟨_, rfl, hS.tail.tail.tail⟩
  have d2 : decide ((j : Int) < (k : Int)) = false := decide_eq_false (by omega)
  simp only [e16, e12, e10, e9, e8, e1, e2, hy1, r2n, d2, ↓D0, ↓D1, ↓D2, ↓D3, ↓D4, ↓D5, ↓D6, ↓D7, ↓D8, ↓D9, U0, U1, U2, U3, U4, U5, U6, U7, U8, U9, U10, ↓reduceIte, Nat.reduceAdd, Nat.reduceMul, Nat.reduceSub, Nat.reduceEqDiff, Nat.reduceBEq, Nat.reduceLeDiff, Nat.reduceLT, Int.reduceAdd, Int.reduceMul, Int.reduceSub, Int.reduceLT, Int.reduceLE, Int.reduceToNat, Int.reduceEq, Int.reduceNe, Int.reduceBEq, Int.reduceBNe, ne_eq, eq_self]
  refine newB_intro fun u hu2 f7 f8 => ?_
  have hS2 := hS.new f7 (.cells #[.int .i64 ep, .int .i64 e_s, .int .i64 ek] 55 (0, 0))
  have ha : rds (upd H' u (.cells #[.int .i64 ep, .int .i64 e_s, .int .i64 ek] 55 (0, 0))) (some ⟨u, 0, none⟩) 3 = some #[.int .i64 ep, .int .i64 e_s, .int .i64 ek] := by
    simp only [rds, ↓D0, ↓D1, ↓D2, ↓D3, ↓D4, ↓D5, ↓D6, ↓D7, ↓D8, ↓D9, U0, U1, U2, U3, U4, U5, U6, U7, U8, U9, U10, ↓reduceIte, Nat.reduceAdd, Nat.reduceMul, Nat.reduceSub, Nat.reduceEqDiff, Nat.reduceBEq, Nat.reduceLeDiff, Nat.reduceLT, Int.reduceAdd, Int.reduceMul, Int.reduceSub, Int.reduceLT, Int.reduceLE, Int.reduceToNat, Int.reduceEq, Int.reduceNe, Int.reduceBEq, Int.reduceBNe, ne_eq, eq_self]
  simp only [ha, e8, ↓D0, ↓D1, ↓D2, ↓D3, ↓D4, ↓D5, ↓D6, ↓D7, ↓D8, ↓D9, U0, U1, U2, U3, U4, U5, U6, U7, U8, U9, U10, ↓reduceIte, Nat.reduceAdd, Nat.reduceMul, Nat.reduceSub, Nat.reduceEqDiff, Nat.reduceBEq, Nat.reduceLeDiff, Nat.reduceLT, Int.reduceAdd, Int.reduceMul, Int.reduceSub, Int.reduceLT, Int.reduceLE, Int.reduceToNat, Int.reduceEq, Int.reduceNe, Int.reduceBEq, Int.reduceBNe, ne_eq, eq_self]
  refine grow3 hE (by omega) hS2.p1 (fun g2 H2 hG2 hS3 => ?_) (fun old cap2 b2 hG2 hS3 => ?_)
  all_goals
    simp only [e16, e12, e10, e9, e8, e1, e2, wrap_w64, wi, ↓D0, ↓D1, ↓D2, ↓D3, ↓D4, ↓D5, ↓D6, ↓D7, ↓D8, ↓D9, U0, U1, U2, U3, U4, U5, U6, U7, U8, U9, U10, ↓reduceIte, Nat.reduceAdd, Nat.reduceMul, Nat.reduceSub, Nat.reduceEqDiff, Nat.reduceBEq, Nat.reduceLeDiff, Nat.reduceLT, Int.reduceAdd, Int.reduceMul, Int.reduceSub, Int.reduceLT, Int.reduceLE, Int.reduceToNat, Int.reduceEq, Int.reduceNe, Int.reduceBEq, Int.reduceBNe, ne_eq, eq_self]
    exact ⟨⟨i + 1, k + 1, _, _, _, by omega, by simp [gt, wi], by simp [gt, e9], by simp [gt], hG2, by omega, ⟨by simp [gt, e1], by simp [gt, e2]⟩, hS3.p1.tail.p1.tail⟩, by simp [gt, iv, e10o, e10, wi]; omega⟩
end
end Go.Proofs.Ytbehnodllajnjaa
