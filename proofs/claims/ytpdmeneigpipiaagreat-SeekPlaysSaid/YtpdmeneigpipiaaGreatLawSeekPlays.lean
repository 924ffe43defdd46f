/-
  SeekPlays, walked: the program's seeker and the document's go the same way, step by step. Conditions: none.
-/
import Derived.Test.YtpdmeneigpipiaaGreatCodeAllotmentlaw13
import Derived.Test.YtpdmeneigpipiaaGreatSeekM
import Derived.Test.YtpdmeneigpipiaaGreatSeekK
import Derived.Test.YtpdmeneigpipiaaGreatLawK
import Derived.Test.YtpdmeneigpipiaaGreatRowV
set_option linter.unusedVariables false
set_option linter.unusedSimpArgs false
set_option maxRecDepth 8000
namespace Go.Ev
theorem Sep.rot4 {a b c d : Hp} {l : List Hp} {H : Hp} (h : Sep (a :: b :: c :: d :: l) H) : Sep (l ++ [a, b, c, d]) H := h.perm (List.perm_append_comm (l₁ := [a, b, c, d]) (l₂ := l))
theorem Sep.tor4 {a b c d : Hp} {l : List Hp} {H : Hp} (h : Sep (l ++ [a, b, c, d]) H) : Sep (a :: b :: c :: d :: l) H := h.perm (List.perm_append_comm (l₁ := [a, b, c, d]) (l₂ := l)).symm
theorem Sep.rot2 {a b : Hp} {l : List Hp} {H : Hp} (h : Sep (a :: b :: l) H) : Sep (l ++ [a, b]) H := h.perm (List.perm_append_comm (l₁ := [a, b]) (l₂ := l))
theorem Sep.tor2 {a b : Hp} {l : List Hp} {H : Hp} (h : Sep (l ++ [a, b]) H) : Sep (a :: b :: l) H := h.perm (List.perm_append_comm (l₁ := [a, b]) (l₂ := l)).symm
theorem Sep.pl (l1 : List Hp) {a : Hp} {l : List Hp} {H : Hp} (h : Sep (l1 ++ a :: l) H) : Sep (a :: (l1 ++ l)) H := h.perm (List.perm_middle (l₁ := l1) (a := a) (l₂ := l))
theorem Sep.rot13 {a1 a2 a3 a4 a5 a6 a7 a8 a9 b1 b2 b3 b4 x : Hp} {l : List Hp} {H : Hp} (h : Sep (x :: a1 :: a2 :: a3 :: a4 :: a5 :: a6 :: a7 :: a8 :: a9 :: b1 :: b2 :: b3 :: b4 :: l) H) : Sep (a1 :: a2 :: a3 :: a4 :: a5 :: a6 :: a7 :: a8 :: a9 :: b1 :: b2 :: b3 :: b4 :: x :: l) H := h.perm (List.perm_middle (l₁ := [a1, a2, a3, a4, a5, a6, a7, a8, a9, b1, b2, b3, b4]) (a := x) (l₂ := l)).symm
end Go.Ev
namespace Go.Proofs.YtpdmeneigpipiaaGreat
open Go Go.Ev Go.Pl Go.Ma

section
variable {W : World} {H h : Hp} {l : List Hp} {n cap : Nat} {a : Option Addr} {ws : Nat → Int}

def spBd (sh : Sh) : Int := sh.m + 80 * sh.p + 80
/-- What is read of the document's. -/
theorem SD.cells {t : Sk} {C : Array Value} {X1 X2 X3 X4 X5 : Hp} (hf : t.dn = false → t.fd = false) (h : SD t C X1 X2 X3 X4 X5) : C[8]? = some (.bool t.fd) ∧ C[9]? = some (.bool t.dn) ∧ (t.fd = true → C[6]? = some (.int .i64 t.pg) ∧ C[7]? = some (.int .i64 t.sl)) := by
  cases h with
  | dn hd hg => exact ⟨rfl, by rw [hd]; rfl, fun g => by obtain ⟨g1, g2⟩ := hg g; rw [← g1, ← g2]; exact ⟨rfl, rfl⟩⟩
  | tk hd => exact ⟨by rw [hf hd]; rfl, by rw [hd]; rfl, fun g => by rw [hf hd] at g; cases g⟩
  | sc hd => exact ⟨by rw [hf hd]; rfl, by rw [hd]; rfl, fun g => by rw [hf hd] at g; cases g⟩
  | pc hd => exact ⟨by rw [hf hd]; rfl, by rw [hd]; rfl, fun g => by rw [hf hd] at g; cases g⟩
  | no hd => exact ⟨by rw [hf hd]; rfl, by rw [hd]; rfl, fun g => by rw [hf hd] at g; cases g⟩
  | st hd => exact ⟨by rw [hf hd]; rfl, by rw [hd]; rfl, fun g => by rw [hf hd] at g; cases g⟩
  | bi hd => exact ⟨by rw [hf hd]; rfl, by rw [hd]; rfl, fun g => by rw [hf hd] at g; cases g⟩
def spI (sh : Sh) (kt ku b s b' s' x : Nat) (L : List Hp) (F' : Fr) (H' : Hp) : Prop :=
  ∃ (i : Int) (t : Sk) (w : Wd) (kn : Nat) (C : Array Value) (X1 X2 X3 X4 X5 : Hp) (d : Option Addr) (c : Nat) (g : Hp), 0 ≤ i ∧ i ≤ spBd sh ∧
    (gt F' 11 = .int .i64 i ∧ gt F' 9 = .pointer (some ⟨kt, 0, none⟩) ∧ gt F' 10 = .pointer (some ⟨ku, 0, none⟩) ∧ gt F' 7 = .pointer (some ⟨b, 0, none⟩) ∧ gt F' 8 = .pointer (some ⟨b', 0, none⟩) ∧ gt F' 3 = .pointer (some ⟨x, 0, none⟩)) ∧
    (t.wf ∧ t.s = sh ∧ w.of sh ∧ t.left ≤ max 0 (spBd sh - i) ∧ SD t C X1 X2 X3 X4 X5) ∧ w.st ≤ i ∧ LogOk d c w g ∧
    Sep (skB kt kn t :: nwB kn t.nw :: wB b s w :: wR s w :: mB b' s' d c w :: wR s' w :: g :: sdB ku C :: X1 :: X2 :: X3 :: X4 :: X5 :: sg x (.cells #[.int .i64 sh.p, .int .i64 sh.c, .int .i64 sh.m] 23 (0, 0)) :: L) H'
theorem c_seekplays (sh : Sh) (c kk f : Int) (hr : RowU h a n ws) (hU : ∀ i, i < n → U (ws i)) (hS : Sep (h :: l) H) :
    CallP Tryz.prog W 4 #[.agg #[.int .i64 sh.p, .int .i64 sh.c, .int .i64 sh.m], .slice a n cap, .agg #[.int .i64 c, .int .i64 kk, .int .i64 f]] H fun v H' => v = .bool true ∧ Sep (h :: l) H' := by
  refine CallP.of mixed Tryz.func4 tr4 (by show 3 ≤ _; decide) fun W _ => ?_
  simp only [↓D0, ↓D1, ↓D2, ↓D3, ↓D4, ↓D5, ↓D6, ↓D7, ↓D8, ↓D9, ↓D10, U0, U1, U2, U3, U4, U5, U6, U7, U8, U9, U10, ↓reduceIte, Nat.reduceAdd, Nat.reduceMul, Nat.reduceSub, Nat.reduceEqDiff, Nat.reduceBEq, Nat.reduceLeDiff, Nat.reduceLT, Int.reduceAdd, Int.reduceMul, Int.reduceSub, Int.reduceLT, Int.reduceLE, Int.reduceToNat, Int.reduceEq, Int.reduceNe, Int.reduceBEq, Int.reduceBNe, ne_eq, eq_self]
  refine newB_intro fun x hx f1 f2 => ?_
  simp only [↓D0, ↓D1, ↓D2, ↓D3, ↓D4, ↓D5, ↓D6, ↓D7, ↓D8, ↓D9, ↓D10, U0, U1, U2, U3, U4, U5, U6, U7, U8, U9, U10, ↓reduceIte, Nat.reduceAdd, Nat.reduceMul, Nat.reduceSub, Nat.reduceEqDiff, Nat.reduceBEq, Nat.reduceLeDiff, Nat.reduceLT, Int.reduceAdd, Int.reduceMul, Int.reduceSub, Int.reduceLT, Int.reduceLE, Int.reduceToNat, Int.reduceEq, Int.reduceNe, Int.reduceBEq, Int.reduceBNe, ne_eq, eq_self]
  refine newB_intro fun y hy f3 f4 => ?_
  have hS := (hS.new f1 (.cells #[.int .i64 sh.p, .int .i64 sh.c, .int .i64 sh.m] 23 (0, 0))).new f3 (.cells #[.int .i64 c, .int .i64 kk, .int .i64 f] 63 (0, 0))
  simp only [↓D0, ↓D1, ↓D2, ↓D3, ↓D4, ↓D5, ↓D6, ↓D7, ↓D8, ↓D9, ↓D10, U0, U1, U2, U3, U4, U5, U6, U7, U8, U9, U10, ↓reduceIte, Nat.reduceAdd, Nat.reduceMul, Nat.reduceSub, Nat.reduceEqDiff, Nat.reduceBEq, Nat.reduceLeDiff, Nat.reduceLT, Int.reduceAdd, Int.reduceMul, Int.reduceSub, Int.reduceLT, Int.reduceLE, Int.reduceToNat, Int.reduceEq, Int.reduceNe, Int.reduceBEq, Int.reduceBNe, ne_eq, eq_self]
  refine callT_of (c_awake13 hS) ?_
  rintro v H' ⟨rfl, hS⟩
  have hx1 := hS.lk 1 rfl
  have hy1 := hS.look
  have r1 := fun o n => rdn_of hx1 o n
  simp only [hx1, hy1, r1, ↓D0, ↓D1, ↓D2, ↓D3, ↓D4, ↓D5, ↓D6, ↓D7, ↓D8, ↓D9, ↓D10, U0, U1, U2, U3, U4, U5, U6, U7, U8, U9, U10, ↓reduceIte, Nat.reduceAdd, Nat.reduceMul, Nat.reduceSub, Nat.reduceEqDiff, Nat.reduceBEq, Nat.reduceLeDiff, Nat.reduceLT, Int.reduceAdd, Int.reduceMul, Int.reduceSub, Int.reduceLT, Int.reduceLE, Int.reduceToNat, Int.reduceEq, Int.reduceNe, Int.reduceBEq, Int.reduceBNe, ne_eq, eq_self]
  refine callT_of (c_fair (sh := sh) hS) ?_
  rintro v H' ⟨rfl, hS⟩
  cases hfair : (may sh.p sh.c sh.m && ((n : Int) == words sh.p sh.c sh.m))
  · simp only [hfair, ↓D0, ↓D1, ↓D2, ↓D3, ↓D4, ↓D5, ↓D6, ↓D7, ↓D8, ↓D9, ↓D10, U0, U1, U2, U3, U4, U5, U6, U7, U8, U9, U10, ↓reduceIte, Nat.reduceAdd, Nat.reduceMul, Nat.reduceSub, Nat.reduceEqDiff, Nat.reduceBEq, Nat.reduceLeDiff, Nat.reduceLT, Int.reduceAdd, Int.reduceMul, Int.reduceSub, Int.reduceLT, Int.reduceLE, Int.reduceToNat, Int.reduceEq, Int.reduceNe, Int.reduceBEq, Int.reduceBNe, ne_eq, eq_self]
    exact hS.tail.tail
  simp only [Bool.and_eq_true, beq_iff_eq] at hfair
  obtain ⟨hm, hn⟩ := hfair
  have hwl := words_le hm
  have hn2 : n ≤ 2000 := by omega
  obtain ⟨a1, a2, a3, a4, a5, a6⟩ := (may_iff _ _ _).1 hm
  have hb : (true && ((n : Int) == words sh.p sh.c sh.m)) = true := by simp [hn]
  simp only [hm, hb, ↓D0, ↓D1, ↓D2, ↓D3, ↓D4, ↓D5, ↓D6, ↓D7, ↓D8, ↓D9, ↓D10, U0, U1, U2, U3, U4, U5, U6, U7, U8, U9, U10, ↓reduceIte, Nat.reduceAdd, Nat.reduceMul, Nat.reduceSub, Nat.reduceEqDiff, Nat.reduceBEq, Nat.reduceLeDiff, Nat.reduceLT, Int.reduceAdd, Int.reduceMul, Int.reduceSub, Int.reduceLT, Int.reduceLE, Int.reduceToNat, Int.reduceEq, Int.reduceNe, Int.reduceBEq, Int.reduceBNe, ne_eq, eq_self]
  refine callT_of (c_fill hn2 hr hS.p2) ?_
  rintro v H' ⟨b, s, rfl, hS⟩
  simp only [↓D0, ↓D1, ↓D2, ↓D3, ↓D4, ↓D5, ↓D6, ↓D7, ↓D8, ↓D9, ↓D10, U0, U1, U2, U3, U4, U5, U6, U7, U8, U9, U10, ↓reduceIte, Nat.reduceAdd, Nat.reduceMul, Nat.reduceSub, Nat.reduceEqDiff, Nat.reduceBEq, Nat.reduceLeDiff, Nat.reduceLT, Int.reduceAdd, Int.reduceMul, Int.reduceSub, Int.reduceLT, Int.reduceLE, Int.reduceToNat, Int.reduceEq, Int.reduceNe, Int.reduceBEq, Int.reduceBNe, ne_eq, eq_self]
  refine callT_of (c_model hn2 hr hS.p2) ?_
  rintro v H' ⟨b', s', rfl, hS⟩
  have hx1 := hS.lk 6 rfl
  have hy1 := hS.lk 5 rfl
  have r1 := fun o n => rdn_of hx1 o n
  have r2 := fun o => rd_of hy1 o
  have i0 : (0 : Int) < ((3 : Nat) : Int) := by decide
  have i1 : (1 : Int) < ((3 : Nat) : Int) := by decide
  have i2 : (2 : Int) < ((3 : Nat) : Int) := by decide
  have nyx := hS.neq 5 6 (by decide) rfl rfl
  have nxy := hS.qen 5 6 (by decide) rfl rfl
  simp only [↓D0, ↓D1, ↓D2, ↓D3, ↓D4, ↓D5, ↓D6, ↓D7, ↓D8, ↓D9, ↓D10, U0, U1, U2, U3, U4, U5, U6, U7, U8, U9, U10, ↓reduceIte, Nat.reduceAdd, Nat.reduceMul, Nat.reduceSub, Nat.reduceEqDiff, Nat.reduceBEq, Nat.reduceLeDiff, Nat.reduceLT, Int.reduceAdd, Int.reduceMul, Int.reduceSub, Int.reduceLT, Int.reduceLE, Int.reduceToNat, Int.reduceEq, Int.reduceNe, Int.reduceBEq, Int.reduceBNe, ne_eq, eq_self]
  refine draw_intro [(x, #[.int .i64 sh.p, .int .i64 sh.c, .int .i64 sh.m], []), (y, #[.int .i64 c, .int .i64 kk, .int .i64 f], [])] (by simp only [hx1, hy1, ↓D0, ↓D1, ↓D2, ↓D3, ↓D4, ↓D5, ↓D6, ↓D7, ↓D8, ↓D9, ↓D10, U0, U1, U2, U3, U4, U5, U6, U7, U8, U9, U10, ↓reduceIte, Nat.reduceAdd, Nat.reduceMul, Nat.reduceSub, Nat.reduceEqDiff, Nat.reduceBEq, Nat.reduceLeDiff, Nat.reduceLT, Int.reduceAdd, Int.reduceMul, Int.reduceSub, Int.reduceLT, Int.reduceLE, Int.reduceToNat, Int.reduceEq, Int.reduceNe, Int.reduceBEq, Int.reduceBNe, ne_eq, eq_self]) ?_
  simp only [hx1, hy1, r1, r2, i0, i1, i2, nxy, nyx, ↓D0, ↓D1, ↓D2, ↓D3, ↓D4, ↓D5, ↓D6, ↓D7, ↓D8, ↓D9, ↓D10, U0, U1, U2, U3, U4, U5, U6, U7, U8, U9, U10, ↓reduceIte, Nat.reduceAdd, Nat.reduceMul, Nat.reduceSub, Nat.reduceEqDiff, Nat.reduceBEq, Nat.reduceLeDiff, Nat.reduceLT, Int.reduceAdd, Int.reduceMul, Int.reduceSub, Int.reduceLT, Int.reduceLE, Int.reduceToNat, Int.reduceEq, Int.reduceNe, Int.reduceBEq, Int.reduceBNe, ne_eq, eq_self]
  refine callT_of (c_sknew (sh := sh) hS) ?_
  rintro v H' ⟨kt, kn, rfl, hS⟩
  have hx1 := hS.lk 8 rfl
  have hy1 := hS.lk 7 rfl
  simp only [hx1, hy1, ↓D0, ↓D1, ↓D2, ↓D3, ↓D4, ↓D5, ↓D6, ↓D7, ↓D8, ↓D9, ↓D10, U0, U1, U2, U3, U4, U5, U6, U7, U8, U9, U10, ↓reduceIte, Nat.reduceAdd, Nat.reduceMul, Nat.reduceSub, Nat.reduceEqDiff, Nat.reduceBEq, Nat.reduceLeDiff, Nat.reduceLT, Int.reduceAdd, Int.reduceMul, Int.reduceSub, Int.reduceLT, Int.reduceLE, Int.reduceToNat, Int.reduceEq, Int.reduceNe, Int.reduceBEq, Int.reduceBNe, ne_eq, eq_self]
  refine callT_of (m_sdnew (sh := sh) hS) ?_
  rintro v H' ⟨ku, C, X1, X2, X3, rfl, hD, hS⟩
  have hx1 := hS.lk 12 rfl
  have hy1 := hS.lk 11 rfl
  simp only [hx1, hy1, ↓D0, ↓D1, ↓D2, ↓D3, ↓D4, ↓D5, ↓D6, ↓D7, ↓D8, ↓D9, ↓D10, U0, U1, U2, U3, U4, U5, U6, U7, U8, U9, U10, ↓reduceIte, Nat.reduceAdd, Nat.reduceMul, Nat.reduceSub, Nat.reduceEqDiff, Nat.reduceBEq, Nat.reduceLeDiff, Nat.reduceLT, Int.reduceAdd, Int.reduceMul, Int.reduceSub, Int.reduceLT, Int.reduceLE, Int.reduceToNat, Int.reduceEq, Int.reduceNe, Int.reduceBEq, Int.reduceBNe, ne_eq, eq_self]
  have hof := rowW_of (ws := ws) hn hU
  have hS := hS.nothing.nothing.r5.r4.nothing
  have hS := hS.pl [_, _, _, _, _, _, _, _, _, _]
  have hS := hS.pl [_, _, _, _, _, _, _, _, _, _]
  have hS := hS.pl [_, _, _, _, _, _, _, _, _, _, _, _, _]
  have hS := hS.pl [_, _, _, _, _, _, _, _, _, _, _, _, _]
  have hS := hS.pl [_, _, _, _, _, _, _, _, _, _, _, _]
  have hS := hS.pl [_, _, _, _, _, _, _, _, _, _, _, _]
  have hS := hS.pl [_, _, _, _, _, _, _, _, _, _, _, _, _, _, _]
  have hS := (Sep.rot13 hS)
  have wm3 : w64 (sh.m + 80 * sh.p + 80) = sh.m + 80 * sh.p + 80 := w64_eq (by omega) (by omega)
  have wm4 : w64 (sh.m + 80 * sh.p) = sh.m + 80 * sh.p := w64_eq (by omega) (by omega)
  have wm5 : w64 (80 * sh.p) = 80 * sh.p := w64_eq (by omega) (by omega)
  have hB : spBd sh = sh.m + 80 * sh.p + 80 := rfl
  refine loop_intro (spI sh kt ku b s b' s' x (h :: sg y (.cells #[.int .i64 c, .int .i64 kk, .int .i64 f] 63 (0, 0)) :: l)) (fun F' _ => (spBd sh - iv (gt F' 11)).toNat) ?_ ?_
  · have hl0 : (Sk.new sh c kk f).left ≤ sh.m + 70 * sh.p + 36 := Sk.new_left sh c kk f hm
    refine ⟨0, Sk.new sh c kk f, rowW n ws, kn, C, X1, X2, X3, sno, sno, none, 0, fun _ => none, by omega, by omega, ⟨rfl, rfl, rfl, rfl, rfl, rfl⟩, ⟨Sk.new_wf sh c kk f, (Sk.new_kp sh c kk f).1, hof, by omega, hD⟩, by show (0 : Int) ≤ 0; omega, LogOk.row n ws, hS⟩
  · clear hD hS
    rintro F' H' ⟨i, t, w, kn, C, X1, X2, X3, X4, X5, d, cc, g, h0, h1, ⟨e11, e9, e10, e7, e8, e3⟩, ⟨hwf, hs, hof, hlf, hD⟩, hst, hL, hS⟩
    subst hs
    have hx1 := hS.lk 13 rfl
    have hu1 := hS.lk 7 rfl
    have rx := fun o => rd_of hx1 o
    have ru := fun o => rd_of hu1 o
    obtain ⟨h8, h9, h67⟩ := SD.cells hwf.fd hD
    have wi : w64 (i + 1) = i + 1 := w64_eq (by omega) (by omega)
    by_cases hlt : i < spBd t.s
    · have g1 : decide (i < t.s.m + 80 * t.s.p + 80) = true := decide_eq_true hlt
      simp only [e11, e9, e10, e7, e8, e3, hx1, rx, wrap_w64, wm3, wm4, wm5, g1, ↓D0, ↓D1, ↓D2, ↓D3, ↓D4, ↓D5, ↓D6, ↓D7, ↓D8, ↓D9, ↓D10, U0, U1, U2, U3, U4, U5, U6, U7, U8, U9, U10, ↓reduceIte, Nat.reduceAdd, Nat.reduceMul, Nat.reduceSub, Nat.reduceEqDiff, Nat.reduceBEq, Nat.reduceLeDiff, Nat.reduceLT, Int.reduceAdd, Int.reduceMul, Int.reduceSub, Int.reduceLT, Int.reduceLE, Int.reduceToNat, Int.reduceEq, Int.reduceNe, Int.reduceBEq, Int.reduceBNe, ne_eq, eq_self]
      refine callT_of (c_skfound hS) ?_
      rintro v H' ⟨rfl, hS⟩
      have hu1 := hS.lk 7 rfl
      have ru := fun o => rd_of hu1 o
      simp only [e11, e9, e10, e7, e8, e3, hu1, ru, h8, ↓D0, ↓D1, ↓D2, ↓D3, ↓D4, ↓D5, ↓D6, ↓D7, ↓D8, ↓D9, ↓D10, U0, U1, U2, U3, U4, U5, U6, U7, U8, U9, U10, ↓reduceIte, Nat.reduceAdd, Nat.reduceMul, Nat.reduceSub, Nat.reduceEqDiff, Nat.reduceBEq, Nat.reduceLeDiff, Nat.reduceLT, Int.reduceAdd, Int.reduceMul, Int.reduceSub, Int.reduceLT, Int.reduceLE, Int.reduceToNat, Int.reduceEq, Int.reduceNe, Int.reduceBEq, Int.reduceBNe, ne_eq, eq_self]
      cases hfd : t.fd
      · simp only [e11, e9, e10, e7, e8, e3, hu1, ru, h8, hfd, ↓D0, ↓D1, ↓D2, ↓D3, ↓D4, ↓D5, ↓D6, ↓D7, ↓D8, ↓D9, ↓D10, U0, U1, U2, U3, U4, U5, U6, U7, U8, U9, U10, ↓reduceIte, Nat.reduceAdd, Nat.reduceMul, Nat.reduceSub, Nat.reduceEqDiff, Nat.reduceBEq, Nat.reduceLeDiff, Nat.reduceLT, Int.reduceAdd, Int.reduceMul, Int.reduceSub, Int.reduceLT, Int.reduceLE, Int.reduceToNat, Int.reduceEq, Int.reduceNe, Int.reduceBEq, Int.reduceBNe, ne_eq, eq_self]
        have w0 : (IntKind.i64.wrap 0 != 0) = false := by rfl
        simp only [w0, e11, e9, e10, e7, e8, e3, ↓D0, ↓D1, ↓D2, ↓D3, ↓D4, ↓D5, ↓D6, ↓D7, ↓D8, ↓D9, ↓D10, U0, U1, U2, U3, U4, U5, U6, U7, U8, U9, U10, ↓reduceIte, Nat.reduceAdd, Nat.reduceMul, Nat.reduceSub, Nat.reduceEqDiff, Nat.reduceBEq, Nat.reduceLeDiff, Nat.reduceLT, Int.reduceAdd, Int.reduceMul, Int.reduceSub, Int.reduceLT, Int.reduceLE, Int.reduceToNat, Int.reduceEq, Int.reduceNe, Int.reduceBEq, Int.reduceBNe, ne_eq, eq_self]
        refine draw_intro [(ku, C, [])] (by simp only [hu1, ↓D0, ↓D1, ↓D2, ↓D3, ↓D4, ↓D5, ↓D6, ↓D7, ↓D8, ↓D9, ↓D10, U0, U1, U2, U3, U4, U5, U6, U7, U8, U9, U10, ↓reduceIte, Nat.reduceAdd, Nat.reduceMul, Nat.reduceSub, Nat.reduceEqDiff, Nat.reduceBEq, Nat.reduceLeDiff, Nat.reduceLT, Int.reduceAdd, Int.reduceMul, Int.reduceSub, Int.reduceLT, Int.reduceLE, Int.reduceToNat, Int.reduceEq, Int.reduceNe, Int.reduceBEq, Int.reduceBNe, ne_eq, eq_self]) ?_
        simp only [e11, e9, e10, e7, e8, e3, hu1, ru, h9, ↓D0, ↓D1, ↓D2, ↓D3, ↓D4, ↓D5, ↓D6, ↓D7, ↓D8, ↓D9, ↓D10, U0, U1, U2, U3, U4, U5, U6, U7, U8, U9, U10, ↓reduceIte, Nat.reduceAdd, Nat.reduceMul, Nat.reduceSub, Nat.reduceEqDiff, Nat.reduceBEq, Nat.reduceLeDiff, Nat.reduceLT, Int.reduceAdd, Int.reduceMul, Int.reduceSub, Int.reduceLT, Int.reduceLE, Int.reduceToNat, Int.reduceEq, Int.reduceNe, Int.reduceBEq, Int.reduceBNe, ne_eq, eq_self]
        refine callT_of (c_skdone hS) ?_
        rintro v H' ⟨rfl, hS⟩
        have hu1 := hS.lk 7 rfl
        have ru := fun o => rd_of hu1 o
        have hxx : (t.dn != t.dn) = false := by simp
        simp only [e11, e9, e10, e7, e8, e3, hu1, ru, h9, hxx, ↓D0, ↓D1, ↓D2, ↓D3, ↓D4, ↓D5, ↓D6, ↓D7, ↓D8, ↓D9, ↓D10, U0, U1, U2, U3, U4, U5, U6, U7, U8, U9, U10, ↓reduceIte, Nat.reduceAdd, Nat.reduceMul, Nat.reduceSub, Nat.reduceEqDiff, Nat.reduceBEq, Nat.reduceLeDiff, Nat.reduceLT, Int.reduceAdd, Int.reduceMul, Int.reduceSub, Int.reduceLT, Int.reduceLE, Int.reduceToNat, Int.reduceEq, Int.reduceNe, Int.reduceBEq, Int.reduceBNe, ne_eq, eq_self]
        refine callT_of (c_skdone hS) ?_
        rintro v H' ⟨rfl, hS⟩
        cases hd : t.dn
        · simp only [e11, e9, e10, e7, e8, e3, hd, ↓D0, ↓D1, ↓D2, ↓D3, ↓D4, ↓D5, ↓D6, ↓D7, ↓D8, ↓D9, ↓D10, U0, U1, U2, U3, U4, U5, U6, U7, U8, U9, U10, ↓reduceIte, Nat.reduceAdd, Nat.reduceMul, Nat.reduceSub, Nat.reduceEqDiff, Nat.reduceBEq, Nat.reduceLeDiff, Nat.reduceLT, Int.reduceAdd, Int.reduceMul, Int.reduceSub, Int.reduceLT, Int.reduceLE, Int.reduceToNat, Int.reduceEq, Int.reduceNe, Int.reduceBEq, Int.reduceBNe, ne_eq, eq_self]
          refine callT_of (c_skstep hwf (fun _ => hof) hS) ?_
          rintro v H' ⟨rfl, kn2, hS⟩
          simp only [e11, e9, e10, e7, e8, e3, ↓D0, ↓D1, ↓D2, ↓D3, ↓D4, ↓D5, ↓D6, ↓D7, ↓D8, ↓D9, ↓D10, U0, U1, U2, U3, U4, U5, U6, U7, U8, U9, U10, ↓reduceIte, Nat.reduceAdd, Nat.reduceMul, Nat.reduceSub, Nat.reduceEqDiff, Nat.reduceBEq, Nat.reduceLeDiff, Nat.reduceLT, Int.reduceAdd, Int.reduceMul, Int.reduceSub, Int.reduceLT, Int.reduceLE, Int.reduceToNat, Int.reduceEq, Int.reduceNe, Int.reduceBEq, Int.reduceBNe, ne_eq, eq_self]
          refine callT_of (m_sdstep hwf (fun _ => hof) hD hL (by omega) hS.rot4) ?_
          rintro v H' ⟨rfl, C2, Y1, Y2, Y3, Y4, Y5, d2, cc2, g2, hD2, hL2, hS⟩
          have hS := Sep.tor4 (l := _ :: _ :: _ :: _ :: _ :: _ :: _ :: _ :: _ :: _ :: _) hS
          simp only [e11, e9, e10, e7, e8, e3, ↓D0, ↓D1, ↓D2, ↓D3, ↓D4, ↓D5, ↓D6, ↓D7, ↓D8, ↓D9, ↓D10, U0, U1, U2, U3, U4, U5, U6, U7, U8, U9, U10, ↓reduceIte, Nat.reduceAdd, Nat.reduceMul, Nat.reduceSub, Nat.reduceEqDiff, Nat.reduceBEq, Nat.reduceLeDiff, Nat.reduceLT, Int.reduceAdd, Int.reduceMul, Int.reduceSub, Int.reduceLT, Int.reduceLE, Int.reduceToNat, Int.reduceEq, Int.reduceNe, Int.reduceBEq, Int.reduceBNe, ne_eq, eq_self]
          have hn3 : (t.step w).2.n ≤ 2000 := by have := (Sk.step_of (t := t) hof).n; omega
          refine callT_of (c_steps8 hn3 hS.rot2) ?_
          rintro v H' ⟨rfl, hS⟩
          have hS := Sep.tor2 (l := _ :: _ :: _ :: _ :: _ :: _ :: _ :: _ :: _ :: _ :: _ :: _ :: _) hS
          simp only [e11, e9, e10, e7, e8, e3, wrap_w64, wi, ↓D0, ↓D1, ↓D2, ↓D3, ↓D4, ↓D5, ↓D6, ↓D7, ↓D8, ↓D9, ↓D10, U0, U1, U2, U3, U4, U5, U6, U7, U8, U9, U10, ↓reduceIte, Nat.reduceAdd, Nat.reduceMul, Nat.reduceSub, Nat.reduceEqDiff, Nat.reduceBEq, Nat.reduceLeDiff, Nat.reduceLT, Int.reduceAdd, Int.reduceMul, Int.reduceSub, Int.reduceLT, Int.reduceLE, Int.reduceToNat, Int.reduceEq, Int.reduceNe, Int.reduceBEq, Int.reduceBNe, ne_eq, eq_self]
          refine ⟨⟨i + 1, (t.step w).1, (t.step w).2, kn2, C2, Y1, Y2, Y3, Y4, Y5, d2, cc2, g2, by omega, by omega, ⟨rfl, by simp [gt, e9], by simp [gt, e10], by simp [gt, e7], by simp [gt, e8], by simp [gt, e3]⟩,
            ⟨Sk.step_wf hwf, Sk.step_kp.1, Sk.step_of hof, ?_, hD2⟩, ?_, hL2, by exact hS⟩, by simp [gt, iv, e11]; omega⟩
          · have := Sk.step_left (w := w) hwf hd
            omega
          · have := (Sk.step_st (t := t) (w := w) hL.lo hL.hi).2; omega
        · simp only [e11, e9, e10, e7, e8, e3, hd, ↓D0, ↓D1, ↓D2, ↓D3, ↓D4, ↓D5, ↓D6, ↓D7, ↓D8, ↓D9, ↓D10, U0, U1, U2, U3, U4, U5, U6, U7, U8, U9, U10, ↓reduceIte, Nat.reduceAdd, Nat.reduceMul, Nat.reduceSub, Nat.reduceEqDiff, Nat.reduceBEq, Nat.reduceLeDiff, Nat.reduceLT, Int.reduceAdd, Int.reduceMul, Int.reduceSub, Int.reduceLT, Int.reduceLE, Int.reduceToNat, Int.reduceEq, Int.reduceNe, Int.reduceBEq, Int.reduceBNe, ne_eq, eq_self]
          refine callT_of (c_skstep hwf (fun _ => hof) hS) ?_
          rintro v H' ⟨rfl, kn2, hS⟩
          rw [Sk.step_dn hd] at hS
          have hm1 := hS.lk 4 rfl
          have rm := fun o => rd_of hm1 o
          simp only [e11, e9, e10, e7, e8, e3, ↓D0, ↓D1, ↓D2, ↓D3, ↓D4, ↓D5, ↓D6, ↓D7, ↓D8, ↓D9, ↓D10, U0, U1, U2, U3, U4, U5, U6, U7, U8, U9, U10, ↓reduceIte, Nat.reduceAdd, Nat.reduceMul, Nat.reduceSub, Nat.reduceEqDiff, Nat.reduceBEq, Nat.reduceLeDiff, Nat.reduceLT, Int.reduceAdd, Int.reduceMul, Int.reduceSub, Int.reduceLT, Int.reduceLE, Int.reduceToNat, Int.reduceEq, Int.reduceNe, Int.reduceBEq, Int.reduceBNe, ne_eq, eq_self]
          refine draw_intro [(b', mobj s' d cc w, [])] (by simp only [hm1, ↓D0, ↓D1, ↓D2, ↓D3, ↓D4, ↓D5, ↓D6, ↓D7, ↓D8, ↓D9, ↓D10, U0, U1, U2, U3, U4, U5, U6, U7, U8, U9, U10, ↓reduceIte, Nat.reduceAdd, Nat.reduceMul, Nat.reduceSub, Nat.reduceEqDiff, Nat.reduceBEq, Nat.reduceLeDiff, Nat.reduceLT, Int.reduceAdd, Int.reduceMul, Int.reduceSub, Int.reduceLT, Int.reduceLE, Int.reduceToNat, Int.reduceEq, Int.reduceNe, Int.reduceBEq, Int.reduceBNe, ne_eq, eq_self]) ?_
          simp only [e11, e9, e10, e7, e8, e3, ↓D0, ↓D1, ↓D2, ↓D3, ↓D4, ↓D5, ↓D6, ↓D7, ↓D8, ↓D9, ↓D10, U0, U1, U2, U3, U4, U5, U6, U7, U8, U9, U10, ↓reduceIte, Nat.reduceAdd, Nat.reduceMul, Nat.reduceSub, Nat.reduceEqDiff, Nat.reduceBEq, Nat.reduceLeDiff, Nat.reduceLT, Int.reduceAdd, Int.reduceMul, Int.reduceSub, Int.reduceLT, Int.reduceLE, Int.reduceToNat, Int.reduceEq, Int.reduceNe, Int.reduceBEq, Int.reduceBNe, ne_eq, eq_self]
          refine callT_of (c_skdone hS) ?_
          rintro v H' ⟨rfl, hS⟩
          have hm1 := hS.lk 4 rfl
          have rm := fun o => rd_of hm1 o
          simp only [e11, e9, e10, e7, e8, e3, hd, hm1, rm, mobj, ↓D0, ↓D1, ↓D2, ↓D3, ↓D4, ↓D5, ↓D6, ↓D7, ↓D8, ↓D9, ↓D10, U0, U1, U2, U3, U4, U5, U6, U7, U8, U9, U10, ↓reduceIte, Nat.reduceAdd, Nat.reduceMul, Nat.reduceSub, Nat.reduceEqDiff, Nat.reduceBEq, Nat.reduceLeDiff, Nat.reduceLT, Int.reduceAdd, Int.reduceMul, Int.reduceSub, Int.reduceLT, Int.reduceLE, Int.reduceToNat, Int.reduceEq, Int.reduceNe, Int.reduceBEq, Int.reduceBNe, ne_eq, eq_self]
          refine callT_of (c_steps hS.tail.tail) ?_
          rintro v H' ⟨rfl, hS⟩
          have hm1 := hS.lk 2 rfl
          simp only [e11, e9, e10, e7, e8, e3, hm1, mobj, ↓D0, ↓D1, ↓D2, ↓D3, ↓D4, ↓D5, ↓D6, ↓D7, ↓D8, ↓D9, ↓D10, U0, U1, U2, U3, U4, U5, U6, U7, U8, U9, U10, ↓reduceIte, Nat.reduceAdd, Nat.reduceMul, Nat.reduceSub, Nat.reduceEqDiff, Nat.reduceBEq, Nat.reduceLeDiff, Nat.reduceLT, Int.reduceAdd, Int.reduceMul, Int.reduceSub, Int.reduceLT, Int.reduceLE, Int.reduceToNat, Int.reduceEq, Int.reduceNe, Int.reduceBEq, Int.reduceBNe, ne_eq, eq_self]
          exact hS.tail.tail.tail.tail.tail.tail.tail.tail.tail.tail.tail.tail.p1.tail
      · obtain ⟨h6, h7⟩ := h67 hfd
        simp only [e11, e9, e10, e7, e8, e3, hu1, ru, h8, h6, h7, hfd, ↓D0, ↓D1, ↓D2, ↓D3, ↓D4, ↓D5, ↓D6, ↓D7, ↓D8, ↓D9, ↓D10, U0, U1, U2, U3, U4, U5, U6, U7, U8, U9, U10, ↓reduceIte, Nat.reduceAdd, Nat.reduceMul, Nat.reduceSub, Nat.reduceEqDiff, Nat.reduceBEq, Nat.reduceLeDiff, Nat.reduceLT, Int.reduceAdd, Int.reduceMul, Int.reduceSub, Int.reduceLT, Int.reduceLE, Int.reduceToNat, Int.reduceEq, Int.reduceNe, Int.reduceBEq, Int.reduceBNe, ne_eq, eq_self]
        refine draw_intro [(ku, C, [])] (by simp only [hu1, ↓D0, ↓D1, ↓D2, ↓D3, ↓D4, ↓D5, ↓D6, ↓D7, ↓D8, ↓D9, ↓D10, U0, U1, U2, U3, U4, U5, U6, U7, U8, U9, U10, ↓reduceIte, Nat.reduceAdd, Nat.reduceMul, Nat.reduceSub, Nat.reduceEqDiff, Nat.reduceBEq, Nat.reduceLeDiff, Nat.reduceLT, Int.reduceAdd, Int.reduceMul, Int.reduceSub, Int.reduceLT, Int.reduceLE, Int.reduceToNat, Int.reduceEq, Int.reduceNe, Int.reduceBEq, Int.reduceBNe, ne_eq, eq_self]) ?_
        simp only [e11, e9, e10, e7, e8, e3, hu1, ru, h9, ↓D0, ↓D1, ↓D2, ↓D3, ↓D4, ↓D5, ↓D6, ↓D7, ↓D8, ↓D9, ↓D10, U0, U1, U2, U3, U4, U5, U6, U7, U8, U9, U10, ↓reduceIte, Nat.reduceAdd, Nat.reduceMul, Nat.reduceSub, Nat.reduceEqDiff, Nat.reduceBEq, Nat.reduceLeDiff, Nat.reduceLT, Int.reduceAdd, Int.reduceMul, Int.reduceSub, Int.reduceLT, Int.reduceLE, Int.reduceToNat, Int.reduceEq, Int.reduceNe, Int.reduceBEq, Int.reduceBNe, ne_eq, eq_self]
        refine callT_of (c_skdone hS) ?_
        rintro v H' ⟨rfl, hS⟩
        have hu1 := hS.lk 7 rfl
        have ru := fun o => rd_of hu1 o
        have hxx : (t.dn != t.dn) = false := by simp
        simp only [e11, e9, e10, e7, e8, e3, hu1, ru, h9, hxx, ↓D0, ↓D1, ↓D2, ↓D3, ↓D4, ↓D5, ↓D6, ↓D7, ↓D8, ↓D9, ↓D10, U0, U1, U2, U3, U4, U5, U6, U7, U8, U9, U10, ↓reduceIte, Nat.reduceAdd, Nat.reduceMul, Nat.reduceSub, Nat.reduceEqDiff, Nat.reduceBEq, Nat.reduceLeDiff, Nat.reduceLT, Int.reduceAdd, Int.reduceMul, Int.reduceSub, Int.reduceLT, Int.reduceLE, Int.reduceToNat, Int.reduceEq, Int.reduceNe, Int.reduceBEq, Int.reduceBNe, ne_eq, eq_self]
        refine callT_of (c_skdone hS) ?_
        rintro v H' ⟨rfl, hS⟩
        cases hd : t.dn
        · simp only [e11, e9, e10, e7, e8, e3, hd, ↓D0, ↓D1, ↓D2, ↓D3, ↓D4, ↓D5, ↓D6, ↓D7, ↓D8, ↓D9, ↓D10, U0, U1, U2, U3, U4, U5, U6, U7, U8, U9, U10, ↓reduceIte, Nat.reduceAdd, Nat.reduceMul, Nat.reduceSub, Nat.reduceEqDiff, Nat.reduceBEq, Nat.reduceLeDiff, Nat.reduceLT, Int.reduceAdd, Int.reduceMul, Int.reduceSub, Int.reduceLT, Int.reduceLE, Int.reduceToNat, Int.reduceEq, Int.reduceNe, Int.reduceBEq, Int.reduceBNe, ne_eq, eq_self]
          refine callT_of (c_skstep hwf (fun _ => hof) hS) ?_
          rintro v H' ⟨rfl, kn2, hS⟩
          simp only [e11, e9, e10, e7, e8, e3, ↓D0, ↓D1, ↓D2, ↓D3, ↓D4, ↓D5, ↓D6, ↓D7, ↓D8, ↓D9, ↓D10, U0, U1, U2, U3, U4, U5, U6, U7, U8, U9, U10, ↓reduceIte, Nat.reduceAdd, Nat.reduceMul, Nat.reduceSub, Nat.reduceEqDiff, Nat.reduceBEq, Nat.reduceLeDiff, Nat.reduceLT, Int.reduceAdd, Int.reduceMul, Int.reduceSub, Int.reduceLT, Int.reduceLE, Int.reduceToNat, Int.reduceEq, Int.reduceNe, Int.reduceBEq, Int.reduceBNe, ne_eq, eq_self]
          refine callT_of (m_sdstep hwf (fun _ => hof) hD hL (by omega) hS.rot4) ?_
          rintro v H' ⟨rfl, C2, Y1, Y2, Y3, Y4, Y5, d2, cc2, g2, hD2, hL2, hS⟩
          have hS := Sep.tor4 (l := _ :: _ :: _ :: _ :: _ :: _ :: _ :: _ :: _ :: _ :: _) hS
          simp only [e11, e9, e10, e7, e8, e3, ↓D0, ↓D1, ↓D2, ↓D3, ↓D4, ↓D5, ↓D6, ↓D7, ↓D8, ↓D9, ↓D10, U0, U1, U2, U3, U4, U5, U6, U7, U8, U9, U10, ↓reduceIte, Nat.reduceAdd, Nat.reduceMul, Nat.reduceSub, Nat.reduceEqDiff, Nat.reduceBEq, Nat.reduceLeDiff, Nat.reduceLT, Int.reduceAdd, Int.reduceMul, Int.reduceSub, Int.reduceLT, Int.reduceLE, Int.reduceToNat, Int.reduceEq, Int.reduceNe, Int.reduceBEq, Int.reduceBNe, ne_eq, eq_self]
          have hn3 : (t.step w).2.n ≤ 2000 := by have := (Sk.step_of (t := t) hof).n; omega
          refine callT_of (c_steps8 hn3 hS.rot2) ?_
          rintro v H' ⟨rfl, hS⟩
          have hS := Sep.tor2 (l := _ :: _ :: _ :: _ :: _ :: _ :: _ :: _ :: _ :: _ :: _ :: _ :: _) hS
          simp only [e11, e9, e10, e7, e8, e3, wrap_w64, wi, ↓D0, ↓D1, ↓D2, ↓D3, ↓D4, ↓D5, ↓D6, ↓D7, ↓D8, ↓D9, ↓D10, U0, U1, U2, U3, U4, U5, U6, U7, U8, U9, U10, ↓reduceIte, Nat.reduceAdd, Nat.reduceMul, Nat.reduceSub, Nat.reduceEqDiff, Nat.reduceBEq, Nat.reduceLeDiff, Nat.reduceLT, Int.reduceAdd, Int.reduceMul, Int.reduceSub, Int.reduceLT, Int.reduceLE, Int.reduceToNat, Int.reduceEq, Int.reduceNe, Int.reduceBEq, Int.reduceBNe, ne_eq, eq_self]
          refine ⟨⟨i + 1, (t.step w).1, (t.step w).2, kn2, C2, Y1, Y2, Y3, Y4, Y5, d2, cc2, g2, by omega, by omega, ⟨rfl, by simp [gt, e9], by simp [gt, e10], by simp [gt, e7], by simp [gt, e8], by simp [gt, e3]⟩,
            ⟨Sk.step_wf hwf, Sk.step_kp.1, Sk.step_of hof, ?_, hD2⟩, ?_, hL2, by exact hS⟩, by simp [gt, iv, e11]; omega⟩
          · have := Sk.step_left (w := w) hwf hd
            omega
          · have := (Sk.step_st (t := t) (w := w) hL.lo hL.hi).2; omega
        · simp only [e11, e9, e10, e7, e8, e3, hd, ↓D0, ↓D1, ↓D2, ↓D3, ↓D4, ↓D5, ↓D6, ↓D7, ↓D8, ↓D9, ↓D10, U0, U1, U2, U3, U4, U5, U6, U7, U8, U9, U10, ↓reduceIte, Nat.reduceAdd, Nat.reduceMul, Nat.reduceSub, Nat.reduceEqDiff, Nat.reduceBEq, Nat.reduceLeDiff, Nat.reduceLT, Int.reduceAdd, Int.reduceMul, Int.reduceSub, Int.reduceLT, Int.reduceLE, Int.reduceToNat, Int.reduceEq, Int.reduceNe, Int.reduceBEq, Int.reduceBNe, ne_eq, eq_self]
          refine callT_of (c_skstep hwf (fun _ => hof) hS) ?_
          rintro v H' ⟨rfl, kn2, hS⟩
          rw [Sk.step_dn hd] at hS
          have hm1 := hS.lk 4 rfl
          have rm := fun o => rd_of hm1 o
          simp only [e11, e9, e10, e7, e8, e3, ↓D0, ↓D1, ↓D2, ↓D3, ↓D4, ↓D5, ↓D6, ↓D7, ↓D8, ↓D9, ↓D10, U0, U1, U2, U3, U4, U5, U6, U7, U8, U9, U10, ↓reduceIte, Nat.reduceAdd, Nat.reduceMul, Nat.reduceSub, Nat.reduceEqDiff, Nat.reduceBEq, Nat.reduceLeDiff, Nat.reduceLT, Int.reduceAdd, Int.reduceMul, Int.reduceSub, Int.reduceLT, Int.reduceLE, Int.reduceToNat, Int.reduceEq, Int.reduceNe, Int.reduceBEq, Int.reduceBNe, ne_eq, eq_self]
          refine draw_intro [(b', mobj s' d cc w, [])] (by simp only [hm1, ↓D0, ↓D1, ↓D2, ↓D3, ↓D4, ↓D5, ↓D6, ↓D7, ↓D8, ↓D9, ↓D10, U0, U1, U2, U3, U4, U5, U6, U7, U8, U9, U10, ↓reduceIte, Nat.reduceAdd, Nat.reduceMul, Nat.reduceSub, Nat.reduceEqDiff, Nat.reduceBEq, Nat.reduceLeDiff, Nat.reduceLT, Int.reduceAdd, Int.reduceMul, Int.reduceSub, Int.reduceLT, Int.reduceLE, Int.reduceToNat, Int.reduceEq, Int.reduceNe, Int.reduceBEq, Int.reduceBNe, ne_eq, eq_self]) ?_
          simp only [e11, e9, e10, e7, e8, e3, ↓D0, ↓D1, ↓D2, ↓D3, ↓D4, ↓D5, ↓D6, ↓D7, ↓D8, ↓D9, ↓D10, U0, U1, U2, U3, U4, U5, U6, U7, U8, U9, U10, ↓reduceIte, Nat.reduceAdd, Nat.reduceMul, Nat.reduceSub, Nat.reduceEqDiff, Nat.reduceBEq, Nat.reduceLeDiff, Nat.reduceLT, Int.reduceAdd, Int.reduceMul, Int.reduceSub, Int.reduceLT, Int.reduceLE, Int.reduceToNat, Int.reduceEq, Int.reduceNe, Int.reduceBEq, Int.reduceBNe, ne_eq, eq_self]
          refine callT_of (c_skdone hS) ?_
          rintro v H' ⟨rfl, hS⟩
          have hm1 := hS.lk 4 rfl
          have rm := fun o => rd_of hm1 o
          simp only [e11, e9, e10, e7, e8, e3, hd, hm1, rm, mobj, ↓D0, ↓D1, ↓D2, ↓D3, ↓D4, ↓D5, ↓D6, ↓D7, ↓D8, ↓D9, ↓D10, U0, U1, U2, U3, U4, U5, U6, U7, U8, U9, U10, ↓reduceIte, Nat.reduceAdd, Nat.reduceMul, Nat.reduceSub, Nat.reduceEqDiff, Nat.reduceBEq, Nat.reduceLeDiff, Nat.reduceLT, Int.reduceAdd, Int.reduceMul, Int.reduceSub, Int.reduceLT, Int.reduceLE, Int.reduceToNat, Int.reduceEq, Int.reduceNe, Int.reduceBEq, Int.reduceBNe, ne_eq, eq_self]
          refine callT_of (c_steps hS.tail.tail) ?_
          rintro v H' ⟨rfl, hS⟩
          have hm1 := hS.lk 2 rfl
          simp only [e11, e9, e10, e7, e8, e3, hm1, mobj, ↓D0, ↓D1, ↓D2, ↓D3, ↓D4, ↓D5, ↓D6, ↓D7, ↓D8, ↓D9, ↓D10, U0, U1, U2, U3, U4, U5, U6, U7, U8, U9, U10, ↓reduceIte, Nat.reduceAdd, Nat.reduceMul, Nat.reduceSub, Nat.reduceEqDiff, Nat.reduceBEq, Nat.reduceLeDiff, Nat.reduceLT, Int.reduceAdd, Int.reduceMul, Int.reduceSub, Int.reduceLT, Int.reduceLE, Int.reduceToNat, Int.reduceEq, Int.reduceNe, Int.reduceBEq, Int.reduceBNe, ne_eq, eq_self]
          exact hS.tail.tail.tail.tail.tail.tail.tail.tail.tail.tail.tail.tail.p1.tail
    · have hi : i = spBd t.s := by omega
      have hd : t.dn = true := Sk.left_dn hwf (by omega)
      have g1 : decide (i < t.s.m + 80 * t.s.p + 80) = false := decide_eq_false hlt
      simp only [e11, e9, e10, e7, e8, e3, hx1, rx, wrap_w64, wm3, wm4, wm5, g1, ↓D0, ↓D1, ↓D2, ↓D3, ↓D4, ↓D5, ↓D6, ↓D7, ↓D8, ↓D9, ↓D10, U0, U1, U2, U3, U4, U5, U6, U7, U8, U9, U10, ↓reduceIte, Nat.reduceAdd, Nat.reduceMul, Nat.reduceSub, Nat.reduceEqDiff, Nat.reduceBEq, Nat.reduceLeDiff, Nat.reduceLT, Int.reduceAdd, Int.reduceMul, Int.reduceSub, Int.reduceLT, Int.reduceLE, Int.reduceToNat, Int.reduceEq, Int.reduceNe, Int.reduceBEq, Int.reduceBNe, ne_eq, eq_self]
      refine callT_of (c_skstep hwf (fun _ => hof) hS) ?_
      rintro v H' ⟨rfl, kn2, hS⟩
      rw [Sk.step_dn hd] at hS
      have hm1 := hS.lk 4 rfl
      have rm := fun o => rd_of hm1 o
      simp only [e11, e9, e10, e7, e8, e3, ↓D0, ↓D1, ↓D2, ↓D3, ↓D4, ↓D5, ↓D6, ↓D7, ↓D8, ↓D9, ↓D10, U0, U1, U2, U3, U4, U5, U6, U7, U8, U9, U10, ↓reduceIte, Nat.reduceAdd, Nat.reduceMul, Nat.reduceSub, Nat.reduceEqDiff, Nat.reduceBEq, Nat.reduceLeDiff, Nat.reduceLT, Int.reduceAdd, Int.reduceMul, Int.reduceSub, Int.reduceLT, Int.reduceLE, Int.reduceToNat, Int.reduceEq, Int.reduceNe, Int.reduceBEq, Int.reduceBNe, ne_eq, eq_self]
      refine draw_intro [(b', mobj s' d cc w, [])] (by simp only [hm1, ↓D0, ↓D1, ↓D2, ↓D3, ↓D4, ↓D5, ↓D6, ↓D7, ↓D8, ↓D9, ↓D10, U0, U1, U2, U3, U4, U5, U6, U7, U8, U9, U10, ↓reduceIte, Nat.reduceAdd, Nat.reduceMul, Nat.reduceSub, Nat.reduceEqDiff, Nat.reduceBEq, Nat.reduceLeDiff, Nat.reduceLT, Int.reduceAdd, Int.reduceMul, Int.reduceSub, Int.reduceLT, Int.reduceLE, Int.reduceToNat, Int.reduceEq, Int.reduceNe, Int.reduceBEq, Int.reduceBNe, ne_eq, eq_self]) ?_
      simp only [e11, e9, e10, e7, e8, e3, ↓D0, ↓D1, ↓D2, ↓D3, ↓D4, ↓D5, ↓D6, ↓D7, ↓D8, ↓D9, ↓D10, U0, U1, U2, U3, U4, U5, U6, U7, U8, U9, U10, ↓reduceIte, Nat.reduceAdd, Nat.reduceMul, Nat.reduceSub, Nat.reduceEqDiff, Nat.reduceBEq, Nat.reduceLeDiff, Nat.reduceLT, Int.reduceAdd, Int.reduceMul, Int.reduceSub, Int.reduceLT, Int.reduceLE, Int.reduceToNat, Int.reduceEq, Int.reduceNe, Int.reduceBEq, Int.reduceBNe, ne_eq, eq_self]
      refine callT_of (c_skdone hS) ?_
      rintro v H' ⟨rfl, hS⟩
      have hm1 := hS.lk 4 rfl
      have rm := fun o => rd_of hm1 o
      simp only [e11, e9, e10, e7, e8, e3, hd, hm1, rm, mobj, ↓D0, ↓D1, ↓D2, ↓D3, ↓D4, ↓D5, ↓D6, ↓D7, ↓D8, ↓D9, ↓D10, U0, U1, U2, U3, U4, U5, U6, U7, U8, U9, U10, ↓reduceIte, Nat.reduceAdd, Nat.reduceMul, Nat.reduceSub, Nat.reduceEqDiff, Nat.reduceBEq, Nat.reduceLeDiff, Nat.reduceLT, Int.reduceAdd, Int.reduceMul, Int.reduceSub, Int.reduceLT, Int.reduceLE, Int.reduceToNat, Int.reduceEq, Int.reduceNe, Int.reduceBEq, Int.reduceBNe, ne_eq, eq_self]
      refine callT_of (c_steps hS.tail.tail) ?_
      rintro v H' ⟨rfl, hS⟩
      have hm1 := hS.lk 2 rfl
      simp only [e11, e9, e10, e7, e8, e3, hm1, mobj, ↓D0, ↓D1, ↓D2, ↓D3, ↓D4, ↓D5, ↓D6, ↓D7, ↓D8, ↓D9, ↓D10, U0, U1, U2, U3, U4, U5, U6, U7, U8, U9, U10, ↓reduceIte, Nat.reduceAdd, Nat.reduceMul, Nat.reduceSub, Nat.reduceEqDiff, Nat.reduceBEq, Nat.reduceLeDiff, Nat.reduceLT, Int.reduceAdd, Int.reduceMul, Int.reduceSub, Int.reduceLT, Int.reduceLE, Int.reduceToNat, Int.reduceEq, Int.reduceNe, Int.reduceBEq, Int.reduceBNe, ne_eq, eq_self]
      exact hS.tail.tail.tail.tail.tail.tail.tail.tail.tail.tail.tail.tail.p1.tail
end
theorem l_seekplays {W : World} {a : Option Addr} {n cap : Nat} {ws : Nat → Int} (p q m : Int) (hp : -9223372036854775808 ≤ p ∧ p ≤ 9223372036854775807) (hq : -9223372036854775808 ≤ q ∧ q ≤ 9223372036854775807) (hm : -9223372036854775808 ≤ m ∧ m ≤ 9223372036854775807)
    (hn : n ≤ 9223372036854775807) (hr : RowU (memOf W) a n ws) (hU : ∀ i, i < n → IntKind.u64.has (ws i)) (c kk f : Int) (hc : -9223372036854775808 ≤ c ∧ c ≤ 9223372036854775807) (hk : -9223372036854775808 ≤ kk ∧ kk ≤ 9223372036854775807) (hf : -9223372036854775808 ≤ f ∧ f ≤ 9223372036854775807) :
    CallP Tryz.prog W 4 #[.agg #[.int .i64 p, .int .i64 q, .int .i64 m], .slice a n cap, .agg #[.int .i64 c, .int .i64 kk, .int .i64 f]] (memOf W) fun v H' => v = .bool true ∧ Sub (memOf W) H' :=
  (c_seekplays ⟨p, q, m⟩ c kk f hr (fun i hi => u64_bd (hU i hi)) (Sep.one _)).mono fun v H' ⟨h1, h2⟩ => ⟨h1, h2.head⟩
end Go.Proofs.YtpdmeneigpipiaaGreat
