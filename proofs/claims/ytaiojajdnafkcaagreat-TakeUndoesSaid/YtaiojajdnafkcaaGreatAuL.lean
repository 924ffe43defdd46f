/-
Who adopts: alone, two at once, in parts. Conditions: none.
What a status's word says: the program's and the document's, as pure functions. Conditions: none.
The document's count of a heap's words, plain. Conditions: none.
The document's count of a heap's words: walked. Conditions: none.
Who lives, by its status: the document's answer. Conditions: none.
-/
import Derived.Test.YtaiojajdnafkcaaGreatMaBase
import Derived.Test.YtaiojajdnafkcaaGreatMaPS
import Derived.Test.YtaiojajdnafkcaaGreatMaMI
import Derived.Test.YtaiojajdnafkcaaGreatRefPack
import Derived.Test.YtaiojajdnafkcaaGreatCodeAllotmentref20
import Derived.Test.YtaiojajdnafkcaaGreatSoundA
import Derived.Test.YtaiojajdnafkcaaGreatCut
open Nat renaming reduceAdd → xA, reduceMul → xB, reduceSub → xC, reduceEqDiff → xD, reduceBEq → xE, reduceLeDiff → xF, reduceLT → xG
open Int renaming reduceAdd → xH, reduceMul → xI, reduceSub → xJ, reduceLT → xK, reduceLE → xL, reduceToNat → xM, reduceEq → xN, reduceNe → xO, reduceBEq → xP, reduceBNe → xQ
set_option linter.unusedVariables false
set_option linter.unusedSimpArgs false
namespace Go.Ma
open Go.Pl

/-- A status's word, and what one says. -/
def putSt (k b : Int) : Int := if 0 ≤ k ∧ k ≤ 4 ∧ 0 ≤ b ∧ b ≤ 255 ∧ (k ≠ 3 → b = 0) then k + 16 * b else 0
def stK (w : Int) : Int := if putSt (w % 16) (pt w 16) = w then w % 16 else 0
def stB (w : Int) : Int := if putSt (w % 16) (pt w 16) = w then pt w 16 else 0
/-- Who adopts; di, qK, qA, qB: the document's index and page. -/
structure Ad where
  s : Sh
  c : Int
  d : Int
  nx : Int
  was : Int
  by' : Int
  at' : Int
  i : Int
  pK : Int
  pA : Int
  pB : Int
  err : Int
  dn : Bool
  di : Int
  qK : Int
  qA : Int
  qB : Int
namespace Ad
def bad (s : Sh) (c d : Int) : Bool := decide (status s.p s.c s.m c < 0) || (decide (status s.p s.c s.m d < 0) || decide (c = d))
def new (s : Sh) (c d : Int) : Ad := ⟨s, c, d, 0, 0, 0, 0, 0, 0, 0, 0, if bad s c d then 1 else 0, bad s c d, 0, 0, 0, 0⟩
def pat (t : Ad) : Int := page t.s.p t.s.c t.s.m t.at'
def hat (t : Ad) : Int := page t.s.p t.s.c t.s.m t.pA
def sat (t : Ad) : Int := slot t.s.p t.s.c t.s.m t.at' t.i
def dat (t : Ad) : Int := status t.s.p t.s.c t.s.m t.d
def bat (t : Ad) : Int := status t.s.p t.s.c t.s.m t.by'
def mat (t : Ad) : Int := mag t.s.p t.s.c t.s.m t.d t.i
def fin (t : Ad) (e : Int) : Ad := { t with err := e, dn := true }
def turn (t : Ad) (again next : Int) : Ad :=
  if t.at' + 1 = t.s.p then { t with at' := 0, i := 0, di := 0, nx := if next = 9 ∧ t.s.m = 0 then 10 else next } else { t with at' := t.at' + 1, nx := again }
def ask (t : Ad) (x : Int) : Ad :=
  if stK x = 2 then { t with was := x, nx := 2 } else if stK x = 3 then
    (if status t.s.p t.s.c t.s.m (stB x) < 0 then { t with was := x, err := 4, dn := true } else { t with was := x, by' := stB x, nx := 1, di := stB x })
  else { t with was := x, err := 5, dn := true }
def other (t : Ad) (x : Int) : Ad := if stK x = 1 then { t with nx := 2, err := 4, dn := true } else { t with nx := 2 }
def claim (t : Ad) (x : Int) : Ad := if x = t.was then { t with nx := 3, di := 0 } else { t with nx := 3, di := 0, err := 4, dn := true }
def own (t : Ad) (q x : Int) : Bool := okPg t.s q x && (decide (pgK t.s q x = 1) && decide (pgA t.s q x = t.d))
def read (t : Ad) (x : Int) : Ad := { t with pK := pgK t.s t.at' x, pA := pgA t.s t.at' x, pB := pgB t.s t.at' x }
def readQ (t : Ad) (x : Int) : Ad := { t with pK := pgK t.s t.at' x, pA := pgA t.s t.at' x, pB := pgB t.s t.at' x, qK := pgK t.s t.at' x, qA := pgA t.s t.at' x, qB := pgB t.s t.at' x }
def isB (t : Ad) (x : Int) : Bool := okPg t.s t.at' x && decide (pgK t.s t.at' x = 4)
def isS (t : Ad) (x : Int) : Bool := okPg t.s t.at' x && decide (pgK t.s t.at' x = 2)
def bodies (t : Ad) (x : Int) : Ad := if t.isB x then { t.readQ x with nx := 4 } else (t.read x).turn 3 6
def head (t : Ad) (x : Int) : Ad := if t.own t.pA x then { t with nx := 5 } else t.turn 3 6
def pages (t : Ad) (x : Int) : Ad := if t.own t.at' x then { t with nx := 7, i := 0, di := 0 } else t.turn 6 9
def clear (t : Ad) : Ad := { t with i := t.i + 1, di := t.di + 1, nx := if t.i + 1 = 16 then 8 else 7 }
def entry (t : Ad) : Ad := if t.i + 1 = t.s.m then { t with i := 0, di := 0, nx := 10 } else { t with i := t.i + 1, di := t.di + 1 }
def supers (t : Ad) (x : Int) : Ad := if t.isS x then { t.readQ x with nx := 11, i := 0, di := 0 } else (t.read x).turn 10 13
def slot (t : Ad) : Ad := if t.i + 1 = slots t.pA then { t with i := 0, di := t.di + 1, nx := 11 }.turn 10 13 else { t with i := t.i + 1, di := t.di + 1, nx := 11 }
def slots' (t : Ad) (x : Int) : Ad := if x = way t.d then { t with nx := 12 } else t.slot
def step (t : Ad) (w : Wd) : Ad × Wd :=
  if t.dn then (t, w) else
  if t.nx = 0 then (t.ask (w.get t.dat), w.load t.c t.dat) else
  if t.nx = 1 then (t.other (w.get t.bat), w.load t.c t.bat) else
  if t.nx = 2 then (t.claim (w.get t.dat), w.swap t.c t.dat t.was (putSt 3 t.c)) else
  if t.nx = 3 then (t.bodies (w.get t.pat), w.load t.c t.pat) else
  if t.nx = 4 then (t.head (w.get t.hat), w.load t.c t.hat) else
  if t.nx = 5 then (t.turn 3 6, w.store t.c t.pat 0) else
  if t.nx = 6 then (t.pages (w.get t.pat), w.load t.c t.pat) else
  if t.nx = 7 then (t.clear, w.store t.c t.sat 0) else
  if t.nx = 8 then (t.turn 6 9, w.store t.c t.pat 0) else
  if t.nx = 9 then (t.entry, w.store t.c t.mat 0) else
  if t.nx = 10 then (t.supers (w.get t.pat), w.load t.c t.pat) else
  if t.nx = 11 then (t.slots' (w.get t.sat), w.load t.c t.sat) else
  if t.nx = 12 then (t.slot, w.store t.c t.sat (opn t.pA)) else
  (t.fin 0, w.store t.c t.dat (putSt 4 0))

/-- What stays, in numbers. -/
def Ar (p c' m c d nx b at' i pA di qA sl : Int) : Prop :=
  0 ≤ c ∧ c < c' ∧ 0 ≤ d ∧ d < c' ∧ 0 ≤ nx ∧ nx ≤ 13 ∧ 0 ≤ at' ∧ at' < p ∧ 0 ≤ i ∧ i ≤ 16 ∧ (nx = 1 → 0 ≤ b ∧ b < c' ∧ di = b) ∧ (nx = 4 → 0 ≤ pA ∧ pA < at' ∧ qA = pA) ∧ (nx = 7 → i < 16 ∧ di = i) ∧
    (nx = 8 → i = 16 ∧ di = 16) ∧ (nx = 9 → i < m ∧ di = i) ∧ (nx = 11 ∨ nx = 12 → i < sl ∧ di = i ∧ 0 ≤ pA ∧ pA ≤ 3 ∧ qA = pA) ∧ (nx ≤ 3 ∧ at' = 0 → i = 0) ∧ (nx ≤ 2 → at' = 0) ∧ 0 ≤ di ∧ di ≤ 255
structure wf (t : Ad) : Prop where
  of : t.dn = false → may t.s.p t.s.c t.s.m = true ∧ t.err = 0 ∧ t.c ≠ t.d ∧ Ar t.s.p t.s.c t.s.m t.c t.d t.nx t.by' t.at' t.i t.pA t.di t.qA (slots t.pA)
variable {t : Ad} {w : Wd}
/-! ### Who it is stays -/
/-! ### How long -/
def lf (p m nx at' i sl : Int) : Int :=
  if nx = 0 then 54 * p + m + 4 else if nx = 1 then 54 * p + m + 3 else if nx = 2 then 54 * p + m + 2 else if nx = 3 then 3 * (p - at') + 51 * p + m + 1 else if nx = 4 then 3 * (p - at') + 51 * p + m else
  if nx = 5 then 3 * (p - at') + 51 * p + m - 1 else if nx = 6 then 18 * (p - at') + 33 * p + m + 1 else if nx = 7 then 18 * (p - at') + 33 * p + m - i else if nx = 8 then 18 * (p - at') + 33 * p + m - 16 else
  if nx = 9 then m - i + 33 * p + 1 else if nx = 10 then 33 * (p - at') + 1 else if nx = 11 then 33 * (p - at') - 32 + 2 * (sl - i) else if nx = 12 then 33 * (p - at') - 33 + 2 * (sl - i) else 1
def left (t : Ad) : Int := if t.dn then 0 else lf t.s.p t.s.m t.nx t.at' t.i (slots t.pA)
end Ad
end Go.Ma
set_option linter.unusedVariables false
namespace Go.Ma
open Go.Pl

/-- n claimers in one heap; full: the pages that were not empty. -/
structure PgInv (n : Nat) (s : Sh) (full : Int → Prop) (ts : Nat → Pc) (w : Wd) : Prop where
  of : w.of s
  ok : may s.p s.c s.m = true
  nc : (n : Int) ≤ s.c
  wf : ∀ c, c < n → (ts c).wf ∧ (ts c).s = s ∧ (ts c).c = c
  fd : ∀ c, c < n → (ts c).fd = true → (ts c).dn = true
  own : ∀ c, c < n → (ts c).fd = true → 0 ≤ (ts c).pg ∧ (ts c).pg < s.p ∧ ¬ full (ts c).pg ∧ w.get (s.c + (ts c).pg) = held c
  fl : ∀ q, 0 ≤ q → q < s.p → full q → w.get (s.c + q) ≠ 0
  em : ∀ q, 0 ≤ q → q < s.p → ¬ full q → w.get (s.c + q) = 0 ∨ ∃ c, c < n ∧ (ts c).fd = true ∧ (ts c).pg = q
  seen : ∀ c, c < n → (ts c).fd = false → ∀ j, 0 ≤ j → j < (ts c).many → w.get (s.c + ((ts c).f + j) % s.p) ≠ 0
  fin : ∀ c, c < n → (ts c).dn = true → (ts c).fd = false → 0 ≤ (ts c).f ∧ (ts c).f < s.p ∧ (ts c).many = s.p

def upT {T : Type} (ts : Nat → T) (c : Nat) (t : T) : Nat → T := fun d => if d = c then t else ts d
namespace PgInv
variable {n : Nat} {s : Sh} {full : Int → Prop} {ts : Nat → Pc} {w : Wd}

end PgInv
end Go.Ma
set_option linter.unusedVariables false
set_option linter.unusedSimpArgs false
namespace Go.Ma
open Go.Pl
namespace Ad
variable {s : Sh} {a b t : Ad} {w : Wd} {ca cb d : Int}
def On (t : Ad) : Prop := t.dn = false ∧ 3 ≤ t.nx ∧ t.nx ≤ 13
/-! ### Two -/
def Try (t : Ad) : Prop := t.dn = false ∧ (t.nx = 0 ∨ (t.nx = 2 ∧ t.was = 2))
def Lost (t : Ad) (o : Int) : Prop := (t.dn = false ∧ (t.nx = 0 ∨ (t.nx = 2 ∧ t.was = 2) ∨ (t.nx = 1 ∧ t.by' = o))) ∨ (t.dn = true ∧ (t.err = 4 ∨ t.err = 5))
/-- One has adopted it, the other has not. -/
def Ahead (x ca : Int) (a b : Ad) : Prop := (x = 3 + 16 * ca ∧ a.On ∧ b.Lost ca) ∨ (x = 4 ∧ (a.dn = true ∧ a.err = 0) ∧ b.Lost ca)
structure Two (s : Sh) (ca cb d : Int) (a b : Ad) (w : Wd) : Prop where
  of : w.of s
  ok : may s.p s.c s.m = true
  ch : 0 ≤ ca ∧ ca < s.c ∧ 0 ≤ cb ∧ cb < s.c ∧ 0 ≤ d ∧ d < s.c ∧ ca ≠ d ∧ cb ≠ d
  wa : a.wf ∧ a.s = s ∧ a.c = ca ∧ a.d = d
  wb : b.wf ∧ b.s = s ∧ b.c = cb ∧ b.d = d
  va : w.get ca = 1
  vb : w.get cb = 1
  ph : (w.get d = 2 ∧ a.Try ∧ b.Try) ∨ Ahead (w.get d) ca a b ∨ Ahead (w.get d) cb b a
end Ad
end Go.Ma
set_option linter.unusedVariables false
set_option linter.unusedSectionVars false
set_option linter.unusedSimpArgs false
namespace Go.Ma
open Go.Pl

section
variable (s : Sh) (ws0 : Nat → Int) (d : Int)
/-- The dead one holds a page; it is a body of one that it holds. -/
def HeldBy (q : Int) : Prop := pgK s q (pgAt s ws0 q) = 1 ∧ pgA s q (pgAt s ws0 q) = d
def BodyOf (q : Int) : Prop := pgK s q (pgAt s ws0 q) = 4 ∧ HeldBy s ws0 d (pgA s q (pgAt s ws0 q))
/-- What is touched, on the way. -/
structure Pt (ws : Nat → Int) : Prop where
  np : ∀ q, 0 ≤ q → q < s.p → ¬ HeldBy s ws0 d q → ¬ BodyOf s ws0 d q → pgAt s ws q = pgAt s ws0 q
  bd : ∀ q, 0 ≤ q → q < s.p → BodyOf s ws0 d q → pgAt s ws q = 0 ∨ (pgAt s ws q = pgAt s ws0 q ∧ pgAt s ws (pgA s q (pgAt s ws0 q)) = pgAt s ws0 (pgA s q (pgAt s ws0 q)))
  hd : ∀ q, 0 ≤ q → q < s.p → HeldBy s ws0 d q → pgAt s ws q = pgAt s ws0 q ∨ (pgAt s ws q = 0 ∧ ∀ i, 0 ≤ i → i < 16 → slAt s ws q i = 0)
  sb : ∀ q, 0 ≤ q → q < s.p → ¬ HeldBy s ws0 d q → ∀ i, 0 ≤ i → i < 16 → slAt s ws q i = slAt s ws0 q i ∨ (pgK s q (pgAt s ws0 q) = 2 ∧ slAt s ws0 q i = way d ∧ slAt s ws q i = opn (pgA s q (pgAt s ws0 q)))
  mo : ∀ c i, 0 ≤ c → c < s.c → c ≠ d → 0 ≤ i → i < s.m → mgAt s ws c i = mgAt s ws0 c i
  md : ∀ i, 0 ≤ i → i < s.m → mgAt s ws d i = mgAt s ws0 d i ∨ mgAt s ws d i = 0
def BD (ws : Nat → Int) (n : Int) : Prop := ∀ q, 0 ≤ q → q < n → BodyOf s ws0 d q → pgAt s ws q = 0
def HD (ws : Nat → Int) (n : Int) : Prop := ∀ q, 0 ≤ q → q < n → HeldBy s ws0 d q → pgAt s ws q = 0
def MD (ws : Nat → Int) (n : Int) : Prop := ∀ i, 0 ≤ i → i < n → mgAt s ws d i = 0
def SD (ws : Nat → Int) (n : Int) : Prop := ∀ q, 0 ≤ q → q < n → pgK s q (pgAt s ws0 q) = 2 → ∀ i, 0 ≤ i → i < 16 → slAt s ws q i ≠ way d
end
section
variable {s : Sh} {ws0 ws : Nat → Int} {d q i n y : Int}
section
variable (hm : may s.p s.c s.m = true)
include hm
end
end
end Go.Ma

namespace Go.Ma
open Go.Pl
section
variable {s : Sh} {ws0 ws : Nat → Int} {d q i n y : Int}
end

namespace Ad
/-- How far it is. -/
inductive Pa (s : Sh) (ws0 : Nat → Int) (d : Int) (g0 : Int → Int) (t : Ad) (w : Wd) : Prop
  | p0 (hd : t.dn = false) (hn : t.nx = 0) (hx : w.get d = g0 d)
  | p1 (hd : t.dn = false) (hn : t.nx = 1) (hx : w.get d = g0 d) (hw : t.was = g0 d) (hk : stK (g0 d) = 3) (hb : t.by' = stB (g0 d))
  | p2 (hd : t.dn = false) (hn : t.nx = 2) (hx : w.get d = g0 d) (hw : t.was = g0 d)
  | p3 (hd : t.dn = false) (hn : t.nx = 3) (b : BD s ws0 d w.ws t.at')
  | p4 (hd : t.dn = false) (hn : t.nx = 4) (b : BD s ws0 d w.ws t.at') (hk : pgK s t.at' (pgAt s w.ws t.at') = 4) (hA : t.pA = pgA s t.at' (pgAt s w.ws t.at'))
  | p5 (hd : t.dn = false) (hn : t.nx = 5) (b : BD s ws0 d w.ws t.at') (ho : BodyOf s ws0 d t.at')
  | p6 (hd : t.dn = false) (hn : t.nx = 6) (b : BD s ws0 d w.ws s.p) (h : HD s ws0 d w.ws t.at')
  | p7 (hd : t.dn = false) (hn : t.nx = 7) (b : BD s ws0 d w.ws s.p) (h : HD s ws0 d w.ws t.at') (ho : HeldBy s ws0 d t.at') (z : ∀ j, 0 ≤ j → j < t.i → slAt s w.ws t.at' j = 0)
  | p8 (hd : t.dn = false) (hn : t.nx = 8) (b : BD s ws0 d w.ws s.p) (h : HD s ws0 d w.ws t.at') (ho : HeldBy s ws0 d t.at') (z : ∀ j, 0 ≤ j → j < 16 → slAt s w.ws t.at' j = 0)
  | p9 (hd : t.dn = false) (hn : t.nx = 9) (b : BD s ws0 d w.ws s.p) (h : HD s ws0 d w.ws s.p) (m : MD s d w.ws t.i) (ha : t.at' = 0)
  | p10 (hd : t.dn = false) (hn : t.nx = 10) (b : BD s ws0 d w.ws s.p) (h : HD s ws0 d w.ws s.p) (m : MD s d w.ws s.m) (x : SD s ws0 d w.ws t.at')
  | p11 (hd : t.dn = false) (hn : t.nx = 11) (b : BD s ws0 d w.ws s.p) (h : HD s ws0 d w.ws s.p) (m : MD s d w.ws s.m) (x : SD s ws0 d w.ws t.at') (hk : pgK s t.at' (pgAt s ws0 t.at') = 2) (hA : t.pA = pgA s t.at' (pgAt s ws0 t.at')) (z : ∀ j, 0 ≤ j → j < t.i → slAt s w.ws t.at' j ≠ way d)
  | p12 (hd : t.dn = false) (hn : t.nx = 12) (b : BD s ws0 d w.ws s.p) (h : HD s ws0 d w.ws s.p) (m : MD s d w.ws s.m) (x : SD s ws0 d w.ws t.at') (hk : pgK s t.at' (pgAt s ws0 t.at') = 2) (hA : t.pA = pgA s t.at' (pgAt s ws0 t.at')) (z : ∀ j, 0 ≤ j → j < t.i → slAt s w.ws t.at' j ≠ way d) (hw : slAt s w.ws t.at' t.i = way d)
  | p13 (hd : t.dn = false) (hn : t.nx = 13) (b : BD s ws0 d w.ws s.p) (h : HD s ws0 d w.ws s.p) (m : MD s d w.ws s.m) (x : SD s ws0 d w.ws s.p)
  | en (hd : t.dn = true) (he : t.err = 0) (hx : w.get d = putSt 4 0) (b : BD s ws0 d w.ws s.p) (h : HD s ws0 d w.ws s.p) (m : MD s d w.ws s.m) (x : SD s ws0 d w.ws s.p)
/-- Whom it adopts is dead, or was adopted by one who is dead. -/
def Win (s : Sh) (g0 : Int → Int) (d : Int) : Prop := stK (g0 d) = 2 ∨ (stK (g0 d) = 3 ∧ 0 ≤ stB (g0 d) ∧ stB (g0 d) < s.c ∧ stB (g0 d) ≠ d ∧ stK (g0 (stB (g0 d))) ≠ 1)
structure Adp (s : Sh) (ws0 : Nat → Int) (c d : Int) (g0 : Int → Int) (t : Ad) (w : Wd) : Prop where
  of : w.of s
  ok : may s.p s.c s.m = true
  wf : t.wf ∧ t.s = s ∧ t.c = c ∧ t.d = d
  cd : 0 ≤ d ∧ d < s.c
  wi : Win s g0 d
  snd : Snd s ws0
  pt : Pt s ws0 d w.ws
  st : ∀ x, 0 ≤ x → x < s.c → x ≠ d → w.get x = g0 x
  ph : Pa s ws0 d g0 t w
variable {s : Sh} {ws0 : Nat → Int} {c d : Int} {g0 : Int → Int} {t : Ad} {w : Wd}
section
variable (hts : t.s = s) (hd : t.dn = false)
include hts hd
end
end Ad
end Go.Ma

namespace Go.Ma
open Go.Pl
namespace Ad
variable {s : Sh} {ws0 : Nat → Int} {c d : Int} {g0 : Int → Int} {t : Ad} {w : Wd}
end Ad
end Go.Ma

namespace Go.Ma
open Go.Pl
section
variable {s : Sh} {ws0 ws : Nat → Int} {d q i n y : Int}
/-- All of the dead one is gone. -/
structure Gn (s : Sh) (ws0 : Nat → Int) (d : Int) (ws : Nat → Int) : Prop where
  pt : Pt s ws0 d ws
  b : BD s ws0 d ws s.p
  h : HD s ws0 d ws s.p
  m : MD s d ws s.m
  x : SD s ws0 d ws s.p
section
variable (hm : may s.p s.c s.m = true) (hsn : Snd s ws0) (d0 : 0 ≤ d) (d1 : d < s.c) (g : Gn s ws0 d ws)
include hm hsn d0 d1 g
end
end
namespace Ad
variable {s : Sh} {ws0 : Nat → Int} {c d : Int} {g0 : Int → Int} {t : Ad} {w : Wd}
end Ad
end Go.Ma

namespace Go.Ma
open Go.Pl
section
variable {s : Sh} {ws0 ws : Nat → Int} {d q i n y : Int}
variable (hm : may s.p s.c s.m = true) (hsn : Snd s ws0) (d0 : 0 ≤ d) (d1 : d < s.c) (g : Gn s ws0 d ws)
include hm hsn d0 d1 g
end
end Go.Ma
set_option linter.unusedVariables false
set_option linter.unusedSimpArgs false
set_option maxRecDepth 8000
namespace Go.Proofs.YtaiojajdnafkcaaGreat
open Go Go.Ev Go.Pl Go.Ma

theorem putSt_no {k a : Int} (h : ¬ (0 ≤ k ∧ k ≤ 4 ∧ 0 ≤ a ∧ a ≤ 255 ∧ (k ≠ 3 → a = 0))) : putSt k a = 0 := if_neg h
theorem putSt_yes {k a : Int} (h : 0 ≤ k ∧ k ≤ 4 ∧ 0 ≤ a ∧ a ≤ 255 ∧ (k ≠ 3 → a = 0)) : putSt k a = k + 16 * a := if_pos h
theorem q_putst (k a : Int) : PureC Tryz.prog 98 #[.int .i64 k, .int .i64 a] (.int .u64 (putSt k a)) := by
  refine PureC.of mixed Tryz.func98 (by kernel_rfl) tr98 (by show 2 ≤ _; decide) fun W H => ?_
  by_cases h1 : k < 0
  · have e0 : putSt k a = 0 := putSt_no (by omega)
    simp only [decide_eq_true h1, e0, ↓DD, UU, ↓reduceIte, xA, xB, xC, xD, xE, xF, xG, xH, xI, xJ, xK, xL, xM, xN, xO, xP, xQ, ne_eq, eq_self]; exact Sub.refl H
  have e1 := decide_eq_false h1
  by_cases h2 : 4 < k
  · have e0 : putSt k a = 0 := putSt_no (by omega)
    simp only [e1, decide_eq_true h2, e0, ↓DD, UU, ↓reduceIte, xA, xB, xC, xD, xE, xF, xG, xH, xI, xJ, xK, xL, xM, xN, xO, xP, xQ, ne_eq, eq_self]; exact Sub.refl H
  have e2 := decide_eq_false h2
  by_cases h3 : 0 ≤ a ∧ a ≤ 255
  rotate_left
  · have e0 : putSt k a = 0 := putSt_no (by omega)
    simp only [e1, e2, u_byte8, b8_no h3, e0, ↓DD, UU, ↓reduceIte, xA, xB, xC, xD, xE, xF, xG, xH, xI, xJ, xK, xL, xM, xN, xO, xP, xQ, ne_eq, eq_self]; exact Sub.refl H
  have w1 : wu k = k := wu_eq (by omega) (by omega)
  have w2 : wu a = a := wu_eq (by omega) (by omega)
  have s1 := shl4 (a := a) (by omega) (by omega)
  have t1 := or4 (k := k) (a := a) (by omega) (by omega) (by omega) (by omega)
  by_cases h4 : k = 3
  · have g1 : (k != 3) = false := by simp [h4]
    have e0 : putSt k a = k + 16 * a := putSt_yes (by omega)
    simp only [e1, e2, u_byte8, b8_yes h3, g1, e0, wrap_wu, w1, w2, s1, t1, ↓DD, UU, ↓reduceIte, xA, xB, xC, xD, xE, xF, xG, xH, xI, xJ, xK, xL, xM, xN, xO, xP, xQ, ne_eq, eq_self]; exact Sub.refl H
  · have g1 : (k != 3) = true := by simp [h4]
    by_cases h5 : a = 0
    · have g2 : (a != 0) = false := by simp [h5]
      have e0 : putSt k a = k + 16 * a := putSt_yes (by omega)
      simp only [e1, e2, u_byte8, b8_yes h3, g1, g2, e0, wrap_wu, w1, w2, s1, t1, ↓DD, UU, ↓reduceIte, xA, xB, xC, xD, xE, xF, xG, xH, xI, xJ, xK, xL, xM, xN, xO, xP, xQ, ne_eq, eq_self]; exact Sub.refl H
    · have g2 : (a != 0) = true := by simp [h5]
      have e0 : putSt k a = 0 := putSt_no (by omega)
      simp only [e1, e2, u_byte8, b8_yes h3, g1, g2, e0, ↓DD, UU, ↓reduceIte, xA, xB, xC, xD, xE, xF, xG, xH, xI, xJ, xK, xL, xM, xN, xO, xP, xQ, ne_eq, eq_self]; exact Sub.refl H
theorem u_putst (k a : Int) : pv Tryz.prog 98 #[.int .i64 k, .int .i64 a] = some (.int .u64 (putSt k a)) := pv_of (q_putst k a)
theorem q_readst {w : Int} (hw : U w) : PureC Tryz.prog 91 #[.int .u64 w] (.tuple #[.int .i64 (stK w), .int .i64 (stB w)]) := by
  refine PureC.of mixed Tryz.func91 (by kernel_rfl) tr91 (by show 1 ≤ _; decide) fun W H => ?_
  have a0 : bits .and .u64 w 15 = w % 16 := and15 hw
  have a1 : bits .and .u64 (w / 16) 255 = pt w 16 := and255 (U_div hw 16 (by decide))
  have b0 : w64 (w % 16) = w % 16 := w64_nib
  have b1 : w64 (pt w 16) = pt w 16 := w64_byte
  by_cases e1 : putSt (w % 16) (pt w 16) = w
  · have g1 : (putSt (w % 16) (pt w 16) != w) = false := by simp [e1]
    have k1 : stK w = w % 16 := if_pos e1
    have k2 : stB w = pt w 16 := if_pos e1
    simp only [shr4, a0, a1, wrap_w64, b0, b1, u_putst, g1, k1, k2, ↓DD, UU, ↓reduceIte, xA, xB, xC, xD, xE, xF, xG, xH, xI, xJ, xK, xL, xM, xN, xO, xP, xQ, ne_eq, eq_self]
    exact Sub.refl H
  · have g1 : (putSt (w % 16) (pt w 16) != w) = true := by simp [e1]
    have k1 : stK w = 0 := if_neg e1
    have k2 : stB w = 0 := if_neg e1
    simp only [shr4, a0, a1, wrap_w64, b0, b1, u_putst, g1, k1, k2, ↓DD, UU, ↓reduceIte, xA, xB, xC, xD, xE, xF, xG, xH, xI, xJ, xK, xL, xM, xN, xO, xP, xQ, ne_eq, eq_self]
    exact Sub.refl H
theorem u_readst {w : Int} (hw : U w) : pv Tryz.prog 91 #[.int .u64 w] = some (.tuple #[.int .i64 (stK w), .int .i64 (stB w)]) := pv_of (q_readst hw)
end Go.Proofs.YtaiojajdnafkcaaGreat
set_option linter.unusedVariables false
set_option linter.unusedSectionVars false
set_option linter.unusedSimpArgs false
namespace Go.Ma
open Go.Pl
/-- Words that are free, taken, of one who lives, of none who lives. -/
structure Cn where
  fr : Int
  ta : Int
  li : Int
  lo : Int
namespace Cn
def z : Cn := ⟨0, 0, 0, 0⟩
/-- One slot more. -/
def slot (liv : Int → Bool) (A y : Int) (n : Cn) : Cn :=
  if slK y = 1 then { n with fr := n.fr + size A } else if slK y = 3 then { n with ta := n.ta + size A } else if slK y = 2 ∧ liv (slA y) = true then { n with li := n.li + size A } else { n with lo := n.lo + size A }
def slots (liv : Int → Bool) (s : Sh) (ws : Nat → Int) (q A : Int) (n : Cn) : Nat → Cn
  | 0 => n
  | i + 1 => slot liv A (slAt s ws q i) (slots liv s ws q A n i)
/-- The page that is asked whose it is. -/
def at' (s : Sh) (ws : Nat → Int) (q : Int) : Int := if pgK s q (pgAt s ws q) = 4 then pgA s q (pgAt s ws q) else q
def who (s : Sh) (ws : Nat → Int) (q : Int) : Int := pgA s (at' s ws q) (pgAt s ws (at' s ws q))
def held (s : Sh) (ws : Nat → Int) (q : Int) : Bool := pgK s (at' s ws q) (pgAt s ws (at' s ws q)) == 1
/-- One page more. -/
def page (liv : Int → Bool) (s : Sh) (ws : Nat → Int) (q : Int) (n : Cn) : Cn :=
  if okPg s q (pgAt s ws q) = true ∧ pgK s q (pgAt s ws q) = 0 then { n with fr := n.fr + 64 }
  else if held s ws q = true ∧ liv (who s ws q) = true then { n with li := n.li + 64 }
  else if held s ws q = true ∨ okPg s q (pgAt s ws q) = false then { n with lo := n.lo + 64 }
  else if pgK s q (pgAt s ws q) = 2 then slots liv s ws q (pgA s q (pgAt s ws q)) n (Pl.slots (pgA s q (pgAt s ws q))).toNat
  else { n with ta := n.ta + 64 }
def all (liv : Int → Bool) (s : Sh) (ws : Nat → Int) : Nat → Cn
  | 0 => z
  | q + 1 => page liv s ws q (all liv s ws q)
/-- All numbers are small. -/
def Bd (b : Int) (n : Cn) : Prop := 0 ≤ n.fr ∧ n.fr ≤ b ∧ 0 ≤ n.ta ∧ n.ta ≤ b ∧ 0 ≤ n.li ∧ n.li ≤ b ∧ 0 ≤ n.lo ∧ n.lo ≤ b
theorem size_bd (A : Int) : 0 ≤ size A ∧ size A ≤ 32 := by
  unfold size; repeat' split
  all_goals omega
theorem Bd.slot {liv : Int → Bool} {b A y : Int} {n : Cn} (h : Bd b n) : Bd (b + 32) (n.slot liv A y) := by
  have := size_bd A
  unfold Bd at h
  unfold Cn.slot Bd
  repeat' split
  all_goals
    dsimp only
    omega
theorem Bd.slots {liv : Int → Bool} {s : Sh} {ws : Nat → Int} {q A b : Int} {n : Cn} (h : Bd b n) : ∀ i : Nat, Bd (b + 32 * i) (Cn.slots liv s ws q A n i)
  | 0 => by show Bd (b + 32 * ((0 : Nat) : Int)) n; rw [show b + 32 * ((0 : Nat) : Int) = b by omega]; exact h
  | i + 1 => by
    have := (Bd.slots (liv := liv) (s := s) (ws := ws) (q := q) (A := A) h i).slot (liv := liv) (A := A) (y := slAt s ws q i)
    rw [show b + 32 * ((i + 1 : Nat) : Int) = b + 32 * (i : Int) + 32 by omega]; exact this
theorem Bd.mono {b b' : Int} {n : Cn} (h : Bd b n) (hb : b ≤ b') : Bd b' n := by unfold Bd at h ⊢; omega
theorem Bd.page {liv : Int → Bool} {s : Sh} {ws : Nat → Int} {q b : Int} {n : Cn} (h : Bd b n) : Bd (b + 512) (n.page liv s ws q) := by
  have hs := slots_bd (pgA s q (pgAt s ws q))
  have hl := (h.slots (liv := liv) (s := s) (ws := ws) (q := q) (A := pgA s q (pgAt s ws q)) (Pl.slots (pgA s q (pgAt s ws q))).toNat).mono (b' := b + 512) (by omega)
  unfold Bd at h
  unfold Cn.page
  split
  · unfold Bd; dsimp only; omega
  · split
    · unfold Bd; dsimp only; omega
    · split
      · unfold Bd; dsimp only; omega
      · split
        · exact hl
        · unfold Bd; dsimp only; omega
theorem all_bd {liv : Int → Bool} {s : Sh} {ws : Nat → Int} : ∀ q : Nat, Bd (512 * q) (all liv s ws q)
  | 0 => by unfold all z Bd; dsimp only; omega
  | q + 1 => by
    have := (all_bd (liv := liv) (s := s) (ws := ws) q).page (liv := liv) (s := s) (ws := ws) (q := q)
    rw [show (512 : Int) * ((q + 1 : Nat) : Int) = 512 * (q : Int) + 512 by omega]; exact this
end Cn
end Go.Ma
set_option linter.unusedVariables false
set_option linter.unusedSectionVars false
set_option linter.unusedSimpArgs false
set_option maxRecDepth 8000
namespace Go.Proofs.YtaiojajdnafkcaaGreat
open Go Go.Ev Go.Pl Go.Ma
section
variable {W : World} {H h : Hp} {l : List Hp} {n cap : Nat} {a : Option Addr} {ws : Nat → Int} {sh : Sh}
theorem c_pholdx (q : Int) (hm : may sh.p sh.c sh.m = true) (hn : (n : Int) = words sh.p sh.c sh.m) (hr : RowU h a n ws) (hU : ∀ i, i < n → U (ws i)) (hS : Sep (h :: l) H) :
    CallP Tryz.prog W 54 #[.agg #[.int .i64 sh.p, .int .i64 sh.c, .int .i64 sh.m], .slice a n cap, .int .i64 q] H fun v H' => v = .tuple #[.int .i64 (Cn.who sh ws q), .bool (Cn.held sh ws q)] ∧ Sep (h :: l) H' := by
  refine CallP.of mixed Tryz.func54 tr54 (by show 3 ≤ _; decide) fun W _ => ?_
  have hKn : ∀ q x, pgK sh q x ≠ 0 → okPg sh q x = true := fun q x g => by
    cases e : okPg sh q x
    · unfold pgK at g; rw [e] at g; simp at g
    · rfl
  simp only [↓DD, UU, ↓reduceIte, xA, xB, xC, xD, xE, xF, xG, xH, xI, xJ, xK, xL, xM, xN, xO, xP, xQ, ne_eq, eq_self]
  refine newB_intro fun x hx f1 f2 => ?_
  have hS := (hS.new f1 (.cells #[.int .i64 sh.p, .int .i64 sh.c, .int .i64 sh.m] 23 (0, 0)))
  have hx1 := hS.look
  have r1 := fun o n => rdn_of hx1 o n
  simp only [hx1, r1, ↓DD, UU, ↓reduceIte, xA, xB, xC, xD, xE, xF, xG, xH, xI, xJ, xK, xL, xM, xN, xO, xP, xQ, ne_eq, eq_self]
  refine callT_of (c_spage q hm hn hr hU hS.p1) ?_
  rintro v H' ⟨rfl, hS⟩
  have hx1 := hS.lk 1 rfl
  have hpat : spX sh ws q = pgAt sh ws q := rfl
  simp only [hpat, ↓DD, UU, ↓reduceIte, xA, xB, xC, xD, xE, xF, xG, xH, xI, xJ, xK, xL, xM, xN, xO, xP, xQ, ne_eq, eq_self]
  refine newB_intro fun y hy f3 f4 => ?_
  have nxy : (x = y) = False := f3 x (by rw [hx1]; rfl)
  have nyx : (y = x) = False := f4 x (by rw [hx1]; rfl)
  have hS := hS.new f3 (.cells #[.int .i64 (pgK sh q (pgAt sh ws q)), .int .i64 (pgA sh q (pgAt sh ws q)), .int .i64 (pgB sh q (pgAt sh ws q))] 55 (0, 0))
  have r1 := fun o n => rdn_of hx1 o n
  simp only [nxy, nyx, hx1, r1, Ev.upd_upd, ↓DD, UU, ↓reduceIte, xA, xB, xC, xD, xE, xF, xG, xH, xI, xJ, xK, xL, xM, xN, xO, xP, xQ, ne_eq, eq_self]
  rw [Ev.upd_upd]
  by_cases k4 : pgK sh q (pgAt sh ws q) = 4
  · have hok := hKn q (pgAt sh ws q) (by rw [k4]; decide)
    have g4 : (pgK sh q (pgAt sh ws q) == 4) = true := beq_iff_eq.2 k4
    have eA : Cn.at' sh ws q = pgA sh q (pgAt sh ws q) := if_pos k4
    simp only [hok, g4, nxy, nyx, hx1, r1, Ev.upd_upd, ↓DD, UU, ↓reduceIte, xA, xB, xC, xD, xE, xF, xG, xH, xI, xJ, xK, xL, xM, xN, xO, xP, xQ, ne_eq, eq_self]
    refine callT_of (c_spage (pgA sh q (pgAt sh ws q)) hm hn hr hU hS.p1) ?_
    rintro v H' ⟨rfl, hS⟩
    unfold Cn.who Cn.held
    rw [eA]
    obtain ⟨A, hA⟩ : ∃ A, pgA sh q (pgAt sh ws q) = A := ⟨_, rfl⟩
    have hpatA : spX sh ws A = pgAt sh ws A := rfl
    have hy1 := hS.lk 1 rfl
    rw [hA] at hy1
    have hS := (hS.p1.set (.cells #[.int .i64 (pgK sh A (pgAt sh ws A)), .int .i64 (pgA sh A (pgAt sh ws A)), .int .i64 (pgB sh A (pgAt sh ws A))] 55 (0, 0)))
    have hy2 := hS.look
    have r2 := fun o => rd_of hy2 o
    rw [hA]
    cases hok2 : okPg sh A (pgAt sh ws A)
    · have k1 : (pgK sh A (pgAt sh ws A) == 1) = false := by unfold pgK; rw [hok2]; rfl
      simp only [hpatA, hy1, hy2, r2, hok2, k1, Ev.upd_upd, ↓DD, UU, ↓reduceIte, xA, xB, xC, xD, xE, xF, xG, xH, xI, xJ, xK, xL, xM, xN, xO, xP, xQ, ne_eq, eq_self]
      exact hS.tail.p1.tail
    · cases k1 : (pgK sh A (pgAt sh ws A) == 1)
      · simp only [hpatA, hy1, hy2, r2, hok2, k1, Ev.upd_upd, ↓DD, UU, ↓reduceIte, xA, xB, xC, xD, xE, xF, xG, xH, xI, xJ, xK, xL, xM, xN, xO, xP, xQ, ne_eq, eq_self]
        exact hS.tail.p1.tail
      · simp only [hpatA, hy1, hy2, r2, hok2, k1, Ev.upd_upd, ↓DD, UU, ↓reduceIte, xA, xB, xC, xD, xE, xF, xG, xH, xI, xJ, xK, xL, xM, xN, xO, xP, xQ, ne_eq, eq_self]
        exact hS.tail.p1.tail
  · have g4 : (pgK sh q (pgAt sh ws q) == 4) = false := beq_eq_false_iff_ne.2 k4
    have eA : Cn.at' sh ws q = q := if_neg k4
    unfold Cn.who Cn.held
    rw [eA]
    cases hok : okPg sh q (pgAt sh ws q)
    · have k1 : (pgK sh q (pgAt sh ws q) == 1) = false := by unfold pgK; rw [hok]; rfl
      simp only [hok, g4, k1, nxy, nyx, hx1, r1, Ev.upd_upd, ↓DD, UU, ↓reduceIte, xA, xB, xC, xD, xE, xF, xG, xH, xI, xJ, xK, xL, xM, xN, xO, xP, xQ, ne_eq, eq_self]
      exact hS.tail.p1.tail
    · cases k1 : (pgK sh q (pgAt sh ws q) == 1)
      · simp only [hok, g4, k1, nxy, nyx, hx1, r1, Ev.upd_upd, ↓DD, UU, ↓reduceIte, xA, xB, xC, xD, xE, xF, xG, xH, xI, xJ, xK, xL, xM, xN, xO, xP, xQ, ne_eq, eq_self]
        exact hS.tail.p1.tail
      · simp only [hok, g4, k1, nxy, nyx, hx1, r1, Ev.upd_upd, ↓DD, UU, ↓reduceIte, xA, xB, xC, xD, xE, xF, xG, xH, xI, xJ, xK, xL, xM, xN, xO, xP, xQ, ne_eq, eq_self]
        exact hS.tail.p1.tail
def cnV (c : Cn) : Value := .agg #[.int .i64 c.fr, .int .i64 c.ta, .int .i64 c.li, .int .i64 c.lo]
/-- What tells whether one lives. -/
def Lives (P : Program) (f : Nat) (sh : Sh) (a : Option Addr) (n cap : Nat) (h : Hp) (liv : Int → Bool) : Prop :=
  ∀ (W : World) (H : Hp) (l : List Hp) (c : Int), Sep (h :: l) H → CallP P W f #[.agg #[.int .i64 sh.p, .int .i64 sh.c, .int .i64 sh.m], .slice a n cap, .int .i64 c] H fun v H' => v = .bool (liv c) ∧ Sep (h :: l) H'
def auC (c : Cn) : Array Value := #[.int .i64 c.fr, .int .i64 c.ta, .int .i64 c.li, .int .i64 c.lo]
def auI (liv : Int → Bool) (sh : Sh) (ws : Nat → Int) (q A : Int) (n0 : Cn) (x y z n cap : Nat) (a : Option Addr) (L : List Hp) (F' : Fr) (H' : Hp) : Prop :=
  ∃ i : Nat, (i : Int) ≤ slots A ∧ gt F' 12 = .int .i64 (i : Int) ∧ (gt F' 11 = .int .i64 (size A) ∧ gt F' 10 = .pointer (some ⟨z, 0, none⟩) ∧ gt F' 9 = .pointer (some ⟨y, 0, none⟩) ∧ gt F' 5 = .pointer (some ⟨x, 0, none⟩) ∧ gt F' 1 = .slice a n cap ∧ gt F' 2 = .int .i64 q ∧ gt F' 3 = .int .i64 A) ∧
    Sep (sg z (.cells (auC Cn.z) 42 (0, 0)) :: sg y (.cells (auC (Cn.slots liv sh ws q A n0 i)) 42 (0, 0)) :: sg x (.cells #[.int .i64 sh.p, .int .i64 sh.c, .int .i64 sh.m] 23 (0, 0)) :: L) H'
theorem c_slots20 {liv : Int → Bool} (q A : Int) (n0 : Cn) (hL : Lives Tryz.prog 55 sh a n cap h liv) (q0 : 0 ≤ q) (q1 : q < sh.p) (hb : n0.Bd 100000) (hm : may sh.p sh.c sh.m = true) (hn : (n : Int) = words sh.p sh.c sh.m) (hr : RowU h a n ws) (hU : ∀ i, i < n → U (ws i)) (hS : Sep (h :: l) H) :
    CallP Tryz.prog W 56 #[.agg #[.int .i64 sh.p, .int .i64 sh.c, .int .i64 sh.m], .slice a n cap, .int .i64 q, .int .i64 A, cnV n0] H fun v H' => v = cnV (Cn.slots liv sh ws q A n0 (slots A).toNat) ∧ Sep (h :: l) H' := by
  refine CallP.of mixed Tryz.func56 tr56 (by show 5 ≤ _; decide) fun W _ => ?_
  simp only [cnV, ↓DD, UU, ↓reduceIte, xA, xB, xC, xD, xE, xF, xG, xH, xI, xJ, xK, xL, xM, xN, xO, xP, xQ, ne_eq, eq_self]
  refine newB_intro fun x hx f1 f2 => ?_
  have hS := (hS.new f1 (.cells #[.int .i64 sh.p, .int .i64 sh.c, .int .i64 sh.m] 23 (0, 0)))
  have hx1 := hS.look
  have r1 := fun o n => rdn_of hx1 o n
  simp only [hx1, r1, ↓DD, UU, ↓reduceIte, xA, xB, xC, xD, xE, xF, xG, xH, xI, xJ, xK, xL, xM, xN, xO, xP, xQ, ne_eq, eq_self]
  refine newB_intro fun y hy f3 f4 => ?_
  have nxy : (x = y) = False := f3 x (by rw [hx1]; rfl)
  have nyx : (y = x) = False := f4 x (by rw [hx1]; rfl)
  have hS := hS.new f3 (.cells #[.int .i64 n0.fr, .int .i64 n0.ta, .int .i64 n0.li, .int .i64 n0.lo] 42 (0, 0))
  have hy1 := hS.look
  simp only [↓DD, UU, ↓reduceIte, xA, xB, xC, xD, xE, xF, xG, xH, xI, xJ, xK, xL, xM, xN, xO, xP, xQ, ne_eq, eq_self]
  refine newB_intro fun z hz f5 f6 => ?_
  have hx1 := hS.lk 1 rfl
  have nxz : (x = z) = False := f5 x (by rw [hx1]; rfl)
  have nzx : (z = x) = False := f6 x (by rw [hx1]; rfl)
  have nyz : (y = z) = False := f5 y (by rw [hy1]; rfl)
  have nzy : (z = y) = False := f6 y (by rw [hy1]; rfl)
  have hS := hS.new f5 (.cells #[.int .i64 0, .int .i64 0, .int .i64 0, .int .i64 0] 42 (0, 0))
  simp only [u_size, ↓DD, UU, ↓reduceIte, xA, xB, xC, xD, xE, xF, xG, xH, xI, xJ, xK, xL, xM, xN, xO, xP, xQ, ne_eq, eq_self]
  have sb := slots_bd A
  have zb := Cn.size_bd A
  refine loop_intro (auI liv sh ws q A n0 x y z n cap a (h :: l)) (fun F' _ => (slots A - iv (gt F' 12)).toNat) ⟨0, by omega, rfl, ⟨rfl, rfl, rfl, rfl, rfl, rfl, rfl⟩, hS⟩ ?_
  clear hS hx1 hy1 r1
  rintro F' H' ⟨i, hi, e12, ⟨e11, e10, e9, e5, e1, e2, e3⟩, hS⟩
  have hx1 := hS.lk 2 rfl
  have hy1 := hS.lk 1 rfl
  have hz1 := hS.look
  have r1 := fun o n => rdn_of hx1 o n
  have ry := fun o => rd_of hy1 o
  have ryn := fun o n => rdn_of hy1 o n
  by_cases hlt : (i : Int) < slots A
  rotate_left
  · have d1 : decide ((i : Int) < slots A) = false := decide_eq_false hlt
    have hii : (slots A).toNat = i := by omega
    rw [hii]
    have rzn := fun o n => rdn_of hz1 o n
    simp only [auC] at hz1
    simp only [e12, e11, e10, e9, e5, e1, e2, e3, u_slots, d1, hy1, hz1, ryn, auC, nyz, nzy, ↓DD, UU, ↓reduceIte, xA, xB, xC, xD, xE, xF, xG, xH, xI, xJ, xK, xL, xM, xN, xO, xP, xQ, ne_eq, eq_self]
    exact (hS.set _).tail.tail.tail
  have d1 : decide ((i : Int) < slots A) = true := decide_eq_true hlt
  have wi : w64 ((i : Int) + 1) = (i : Int) + 1 := w64_eq (by omega) (by omega)
  have hb2 := hb.slots (liv := liv) (s := sh) (ws := ws) (q := q) (A := A) i
  obtain ⟨c0, hc0⟩ : ∃ c0, Cn.slots liv sh ws q A n0 i = c0 := ⟨_, rfl⟩
  have hnx : Cn.slots liv sh ws q A n0 (i + 1) = Cn.slot liv A (slAt sh ws q i) c0 := by rw [← hc0]; rfl
  rw [hc0] at hS hy1 hb2
  have ry := fun o => rd_of hy1 o
  unfold Cn.Bd at hb2
  have w1 : w64 (c0.fr + size A) = c0.fr + size A := w64_eq (by omega) (by omega)
  have w2 : w64 (c0.ta + size A) = c0.ta + size A := w64_eq (by omega) (by omega)
  have w3 : w64 (c0.li + size A) = c0.li + size A := w64_eq (by omega) (by omega)
  have w4 : w64 (c0.lo + size A) = c0.lo + size A := w64_eq (by omega) (by omega)
  simp only [e12, e11, e10, e9, e5, e1, e2, e3, u_slots, d1, hx1, r1, ↓DD, UU, ↓reduceIte, xA, xB, xC, xD, xE, xF, xG, xH, xI, xJ, xK, xL, xM, xN, xO, xP, xQ, ne_eq, eq_self]
  refine callT_of (c_sslot q i hm hn hr hU ⟨q0, q1⟩ ⟨by omega, by omega⟩ hS.p3) ?_
  rintro v H' ⟨rfl, hS⟩
  have hsa : ws (sh.c + sh.p + q * 16 + i).toNat = slAt sh ws q i := rfl
  obtain ⟨Y, hY⟩ : ∃ Y, slAt sh ws q i = Y := ⟨_, rfl⟩
  rw [hY] at hnx hsa
  have hx1 := hS.lk 3 rfl
  have hy1 := hS.lk 2 rfl
  have ry := fun o => rd_of hy1 o
  simp only [e12, e11, e10, e9, e5, e1, e2, e3, hsa, ↓DD, UU, ↓reduceIte, xA, xB, xC, xD, xE, xF, xG, xH, xI, xJ, xK, xL, xM, xN, xO, xP, xQ, ne_eq, eq_self]
  refine newB_intro fun t ht f7 f8 => ?_
  have nxt : (x = t) = False := f7 x (by rw [hx1]; rfl)
  have ntx : (t = x) = False := f8 x (by rw [hx1]; rfl)
  have nyt : (y = t) = False := f7 y (by rw [hy1]; rfl)
  have nty : (t = y) = False := f8 y (by rw [hy1]; rfl)
  have hS := (hS.new f7 (.cells #[.int .i64 (slK Y), .int .i64 (slA Y)] 68 (0, 0))).p1.r4
  have ht1 := hS.look
  have rt := fun o => rd_of ht1 o
  have r1 := fun o n => rdn_of hx1 o n
  simp only [e12, e11, e10, e9, e5, e1, e2, e3, hsa, nxt, ntx, nyt, nty, Ev.upd_upd, ↓DD, UU, ↓reduceIte, xA, xB, xC, xD, xE, xF, xG, xH, xI, xJ, xK, xL, xM, xN, xO, xP, xQ, ne_eq, eq_self]
  have fin : ∀ (c1 : Cn) (F2 : Fr) (H2 : Hp), Cn.slot liv A Y c0 = c1 → Sep (sg t (.cells #[.int .i64 (slK Y), .int .i64 (slA Y)] 68 (0, 0)) :: sg z (.cells (auC Cn.z) 42 (0, 0)) :: sg y (.cells (auC c0) 42 (0, 0)) :: sg x (.cells #[.int .i64 sh.p, .int .i64 sh.c, .int .i64 sh.m] 23 (0, 0)) :: h :: l) H2 →
      gt F2 12 = .int .i64 ((i : Int) + 1) → (gt F2 11 = .int .i64 (size A) ∧ gt F2 10 = .pointer (some ⟨z, 0, none⟩) ∧ gt F2 9 = .pointer (some ⟨y, 0, none⟩) ∧ gt F2 5 = .pointer (some ⟨x, 0, none⟩) ∧ gt F2 1 = .slice a n cap ∧ gt F2 2 = .int .i64 q ∧ gt F2 3 = .int .i64 A) →
      auI liv sh ws q A n0 x y z n cap a (h :: l) F2 (upd H2 y (.cells (auC c1) 42 (0, 0))) := fun c1 F2 H2 e h2 g12 g => by
    refine ⟨i + 1, by omega, by rw [g12]; congr 1, g, ?_⟩
    rw [hnx, e]
    exact (h2.tail.p1.set _).p1
  by_cases k1 : slK Y = 1
  · have g1 : (slK Y == 1) = true := beq_iff_eq.2 k1
    have hn1 : Cn.slot liv A Y c0 = { c0 with fr := c0.fr + size A } := by unfold Cn.slot; rw [if_pos k1]
    simp only [e12, e11, e10, e9, e5, e1, e2, e3, hsa, hy1, ry, ht1, rt, auC, nxt, ntx, nyt, nty, g1, wrap_w64, w1, wi, Ev.upd_upd, ↓DD, UU, ↓reduceIte, xA, xB, xC, xD, xE, xF, xG, xH, xI, xJ, xK, xL, xM, xN, xO, xP, xQ, ne_eq, eq_self]
    exact ⟨fin _ _ _ hn1 hS (by simp [gt]) ⟨by simp [gt, e11], by simp [gt, e10], by simp [gt, e9], by simp [gt, e5], by simp [gt, e1], by simp [gt, e2], by simp [gt, e3]⟩, by simp [gt, iv, e12]; omega⟩
  have g1 : (slK Y == 1) = false := beq_eq_false_iff_ne.2 k1
  by_cases k3 : slK Y = 3
  · have g3 : (slK Y == 3) = true := beq_iff_eq.2 k3
    have hn1 : Cn.slot liv A Y c0 = { c0 with ta := c0.ta + size A } := by unfold Cn.slot; rw [if_neg k1, if_pos k3]
    simp only [e12, e11, e10, e9, e5, e1, e2, e3, hsa, hy1, ry, ht1, rt, auC, nxt, ntx, nyt, nty, g1, g3, wrap_w64, w2, wi, Ev.upd_upd, ↓DD, UU, ↓reduceIte, xA, xB, xC, xD, xE, xF, xG, xH, xI, xJ, xK, xL, xM, xN, xO, xP, xQ, ne_eq, eq_self]
    exact ⟨fin _ _ _ hn1 hS (by simp [gt]) ⟨by simp [gt, e11], by simp [gt, e10], by simp [gt, e9], by simp [gt, e5], by simp [gt, e1], by simp [gt, e2], by simp [gt, e3]⟩, by simp [gt, iv, e12]; omega⟩
  have g3 : (slK Y == 3) = false := beq_eq_false_iff_ne.2 k3
  by_cases k2 : slK Y = 2
  · have g2 : (slK Y == 2) = true := beq_iff_eq.2 k2
    simp only [e12, e11, e10, e9, e5, e1, e2, e3, hsa, hx1, r1, hy1, ry, ht1, rt, auC, nxt, ntx, nyt, nty, g1, g2, g3, wrap_w64, wi, Ev.upd_upd, ↓DD, UU, ↓reduceIte, xA, xB, xC, xD, xE, xF, xG, xH, xI, xJ, xK, xL, xM, xN, xO, xP, xQ, ne_eq, eq_self]
    refine callT_of (hL _ _ _ _ hS.p4) ?_
    rintro v H' ⟨rfl, hS⟩
    have hS := hS.r4
    have hy1 := hS.lk 2 rfl
    have ry := fun o => rd_of hy1 o
    cases hlv : liv (slA Y)
    · have hn1 : Cn.slot liv A Y c0 = { c0 with lo := c0.lo + size A } := by unfold Cn.slot; rw [if_neg k1, if_neg k3, if_neg fun g => by rw [hlv] at g; cases g.2]
      simp only [e12, e11, e10, e9, e5, e1, e2, e3, hsa, hy1, ry, auC, nxt, ntx, nyt, nty, wrap_w64, w4, wi, Ev.upd_upd, ↓DD, UU, ↓reduceIte, xA, xB, xC, xD, xE, xF, xG, xH, xI, xJ, xK, xL, xM, xN, xO, xP, xQ, ne_eq, eq_self]
      exact ⟨fin _ _ _ hn1 hS (by simp [gt]) ⟨by simp [gt, e11], by simp [gt, e10], by simp [gt, e9], by simp [gt, e5], by simp [gt, e1], by simp [gt, e2], by simp [gt, e3]⟩, by simp [gt, iv, e12]; omega⟩
    · have hn1 : Cn.slot liv A Y c0 = { c0 with li := c0.li + size A } := by unfold Cn.slot; rw [if_neg k1, if_neg k3, if_pos ⟨k2, hlv⟩]
      simp only [e12, e11, e10, e9, e5, e1, e2, e3, hsa, hy1, ry, auC, nxt, ntx, nyt, nty, wrap_w64, w3, wi, Ev.upd_upd, ↓DD, UU, ↓reduceIte, xA, xB, xC, xD, xE, xF, xG, xH, xI, xJ, xK, xL, xM, xN, xO, xP, xQ, ne_eq, eq_self]
      exact ⟨fin _ _ _ hn1 hS (by simp [gt]) ⟨by simp [gt, e11], by simp [gt, e10], by simp [gt, e9], by simp [gt, e5], by simp [gt, e1], by simp [gt, e2], by simp [gt, e3]⟩, by simp [gt, iv, e12]; omega⟩
  · have g2 : (slK Y == 2) = false := beq_eq_false_iff_ne.2 k2
    have hn1 : Cn.slot liv A Y c0 = { c0 with lo := c0.lo + size A } := by unfold Cn.slot; rw [if_neg k1, if_neg k3, if_neg fun g => k2 g.1]
    simp only [e12, e11, e10, e9, e5, e1, e2, e3, hsa, hy1, ry, ht1, rt, auC, nxt, ntx, nyt, nty, g1, g2, g3, wrap_w64, w4, wi, Ev.upd_upd, ↓DD, UU, ↓reduceIte, xA, xB, xC, xD, xE, xF, xG, xH, xI, xJ, xK, xL, xM, xN, xO, xP, xQ, ne_eq, eq_self]
    exact ⟨fin _ _ _ hn1 hS (by simp [gt]) ⟨by simp [gt, e11], by simp [gt, e10], by simp [gt, e9], by simp [gt, e5], by simp [gt, e1], by simp [gt, e2], by simp [gt, e3]⟩, by simp [gt, iv, e12]; omega⟩
def auP (liv : Int → Bool) (sh : Sh) (ws : Nat → Int) (x y z n cap : Nat) (a : Option Addr) (L : List Hp) (F' : Fr) (H' : Hp) : Prop :=
  ∃ p : Nat, (p : Int) ≤ sh.p ∧ gt F' 6 = .int .i64 (p : Int) ∧ (gt F' 5 = .pointer (some ⟨y, 0, none⟩) ∧ gt F' 4 = .pointer (some ⟨z, 0, none⟩) ∧ gt F' 2 = .pointer (some ⟨x, 0, none⟩) ∧ gt F' 1 = .slice a n cap) ∧
    Sep (sg y (.cells (auC (Cn.all liv sh ws p)) 42 (0, 0)) :: sg z (.cells (auC Cn.z) 42 (0, 0)) :: sg x (.cells #[.int .i64 sh.p, .int .i64 sh.c, .int .i64 sh.m] 23 (0, 0)) :: L) H'
theorem c_audit {liv : Int → Bool} (hL : Lives Tryz.prog 55 sh a n cap h liv) (hm : may sh.p sh.c sh.m = true) (hn : (n : Int) = words sh.p sh.c sh.m) (hr : RowU h a n ws) (hU : ∀ i, i < n → U (ws i)) (hS : Sep (h :: l) H) :
    CallP Tryz.prog W 18 #[.agg #[.int .i64 sh.p, .int .i64 sh.c, .int .i64 sh.m], .slice a n cap] H fun v H' => v = cnV (Cn.all liv sh ws sh.p.toNat) ∧ Sep (h :: l) H' := by
  refine CallP.of mixed Tryz.func18 tr18 (by show 2 ≤ _; decide) fun W _ => ?_
  have hb := (may_iff _ _ _).1 hm
  simp only [↓DD, UU, ↓reduceIte, xA, xB, xC, xD, xE, xF, xG, xH, xI, xJ, xK, xL, xM, xN, xO, xP, xQ, ne_eq, eq_self]
  refine newB_intro fun x hx f1 f2 => ?_
  have hS := (hS.new f1 (.cells #[.int .i64 sh.p, .int .i64 sh.c, .int .i64 sh.m] 23 (0, 0)))
  have hx1 := hS.look
  simp only [↓DD, UU, ↓reduceIte, xA, xB, xC, xD, xE, xF, xG, xH, xI, xJ, xK, xL, xM, xN, xO, xP, xQ, ne_eq, eq_self]
  refine newB_intro fun z hz f3 f4 => ?_
  have nxz : (x = z) = False := f3 x (by rw [hx1]; rfl)
  have nzx : (z = x) = False := f4 x (by rw [hx1]; rfl)
  have hS := hS.new f3 (.cells (auC Cn.z) 42 (0, 0))
  have hz1 := hS.look
  simp only [Cn.z, auC] at hz1
  simp only [↓DD, UU, ↓reduceIte, xA, xB, xC, xD, xE, xF, xG, xH, xI, xJ, xK, xL, xM, xN, xO, xP, xQ, ne_eq, eq_self]
  refine newB_intro fun y hy f5 f6 => ?_
  have hx1 := hS.lk 1 rfl
  have nxy : (x = y) = False := f5 x (congrArg Option.isSome hx1)
  have nyx : (y = x) = False := f6 x (congrArg Option.isSome hx1)
  have nzy : (z = y) = False := f5 z (congrArg Option.isSome hz1)
  have nyz : (y = z) = False := f6 z (congrArg Option.isSome hz1)
  have hS := hS.new f5 (.cells (auC Cn.z) 42 (0, 0))
  have hx1 := hS.lk 2 rfl
  have hy1 := hS.look
  simp only [Cn.z, auC] at hy1
  have r1 := fun o n => rdn_of hx1 o n
  simp only [hx1, hy1, hz1, r1, nxy, nyx, nzy, nyz, nxz, nzx, Ev.upd_upd, ↓DD, UU, ↓reduceIte, xA, xB, xC, xD, xE, xF, xG, xH, xI, xJ, xK, xL, xM, xN, xO, xP, xQ, ne_eq, eq_self]
  refine callT_of (c_senough hm hn hS.p3) ?_
  rintro v H' ⟨rfl, hS⟩
  have hS := hS.r3
  have hx1 := hS.lk 2 rfl
  have hy1 := hS.look
  have r1 := fun o n => rdn_of hx1 o n
  simp only [↓DD, UU, ↓reduceIte, xA, xB, xC, xD, xE, xF, xG, xH, xI, xJ, xK, xL, xM, xN, xO, xP, xQ, ne_eq, eq_self]
  refine loop_intro (auP liv sh ws x y z n cap a (h :: l)) (fun F' _ => (sh.p - iv (gt F' 6)).toNat) ⟨0, by omega, by simp [gt], ⟨by simp [gt], by simp [gt], by simp [gt], by simp [gt]⟩, hS⟩ ?_
  clear hS hx1 hy1 r1 hz1
  rintro F' H' ⟨p, hp, e6, ⟨e5, e4, e2, e1⟩, hS⟩
  have hx1 := hS.lk 2 rfl
  have hz1 := hS.lk 1 rfl
  have hy1 := hS.look
  have r0 := fun o => rd_of hx1 o
  have r1 := fun o n => rdn_of hx1 o n
  have ryn := fun o n => rdn_of hy1 o n
  by_cases hlt : (p : Int) < sh.p
  rotate_left
  · have d1 : decide ((p : Int) < sh.p) = false := decide_eq_false hlt
    have hpp : sh.p.toNat = p := by omega
    rw [hpp]
    simp only [auC] at hz1
    simp only [e6, e5, e4, e2, e1, hx1, r0, d1, hy1, hz1, ryn, auC, nyz, nzy, cnV, ↓DD, UU, ↓reduceIte, xA, xB, xC, xD, xE, xF, xG, xH, xI, xJ, xK, xL, xM, xN, xO, xP, xQ, ne_eq, eq_self]
    exact (hS.p1.set _).tail.tail.tail
  have d1 : decide ((p : Int) < sh.p) = true := decide_eq_true hlt
  have wi : w64 ((p : Int) + 1) = (p : Int) + 1 := w64_eq (by omega) (by omega)
  have hb2 := Cn.all_bd (liv := liv) (s := sh) (ws := ws) p
  obtain ⟨c0, hc0⟩ : ∃ c0, Cn.all liv sh ws p = c0 := ⟨_, rfl⟩
  have hnx : Cn.all liv sh ws (p + 1) = Cn.page liv sh ws p c0 := by rw [← hc0]; rfl
  rw [hc0] at hS hy1 hb2
  have hbig : c0.Bd 100000 := hb2.mono (by omega)
  unfold Cn.Bd at hb2
  have w1 : w64 (c0.fr + 64) = c0.fr + 64 := w64_eq (by omega) (by omega)
  have w2 : w64 (c0.ta + 64) = c0.ta + 64 := w64_eq (by omega) (by omega)
  have w3 : w64 (c0.li + 64) = c0.li + 64 := w64_eq (by omega) (by omega)
  have w4 : w64 (c0.lo + 64) = c0.lo + 64 := w64_eq (by omega) (by omega)
  simp only [e6, e5, e4, e2, e1, hx1, r0, r1, d1, ↓DD, UU, ↓reduceIte, xA, xB, xC, xD, xE, xF, xG, xH, xI, xJ, xK, xL, xM, xN, xO, xP, xQ, ne_eq, eq_self]
  refine callT_of (c_spage p hm hn hr hU hS.p3) ?_
  rintro v H' ⟨rfl, hS⟩
  have hpat : spX sh ws p = pgAt sh ws p := rfl
  obtain ⟨X, hX⟩ : ∃ X, pgAt sh ws p = X := ⟨_, rfl⟩
  have hS := hS.r3
  have hx1 := hS.lk 2 rfl
  have hy1 := hS.look
  have r1 := fun o n => rdn_of hx1 o n
  simp only [e6, e5, e4, e2, e1, hpat, hX, ↓DD, UU, ↓reduceIte, xA, xB, xC, xD, xE, xF, xG, xH, xI, xJ, xK, xL, xM, xN, xO, xP, xQ, ne_eq, eq_self]
  refine newB_intro fun t ht f7 f8 => ?_
  have nxt : (x = t) = False := f7 x (by rw [hx1]; rfl)
  have ntx : (t = x) = False := f8 x (by rw [hx1]; rfl)
  have nyt : (y = t) = False := f7 y (by rw [hy1]; rfl)
  have nty : (t = y) = False := f8 y (by rw [hy1]; rfl)
  have hS := (hS.new f7 (.cells #[.int .i64 (pgK sh p X), .int .i64 (pgA sh p X), .int .i64 (pgB sh p X)] 55 (0, 0)))
  simp only [e6, e5, e4, e2, e1, hx1, r1, nxt, ntx, nyt, nty, Ev.upd_upd, ↓DD, UU, ↓reduceIte, xA, xB, xC, xD, xE, xF, xG, xH, xI, xJ, xK, xL, xM, xN, xO, xP, xQ, ne_eq, eq_self]
  refine callT_of (c_pholdx p hm hn hr hU hS.p4) ?_
  rintro v H' ⟨rfl, hS⟩
  have hS := hS.r4
  have hx1 := hS.lk 3 rfl
  have hy1 := hS.lk 1 rfl
  have ht1 := hS.look
  have rt := fun o => rd_of ht1 o
  have ry := fun o => rd_of hy1 o
  have ryn := fun o n => rdn_of hy1 o n
  have r1 := fun o n => rdn_of hx1 o n
  obtain ⟨hd, hhd⟩ : ∃ hd, Cn.held sh ws p = hd := ⟨_, rfl⟩
  obtain ⟨wh, hwh⟩ : ∃ wh, Cn.who sh ws p = wh := ⟨_, rfl⟩
  have hpg : Cn.page liv sh ws p c0 = (if okPg sh p X = true ∧ pgK sh p X = 0 then { c0 with fr := c0.fr + 64 } else if hd = true ∧ liv wh = true then { c0 with li := c0.li + 64 } else if hd = true ∨ okPg sh p X = false then { c0 with lo := c0.lo + 64 } else if pgK sh p X = 2 then Cn.slots liv sh ws p (pgA sh p X) c0 (slots (pgA sh p X)).toNat else { c0 with ta := c0.ta + 64 }) := by
    unfold Cn.page; rw [hhd, hwh, hX]
  have fin : ∀ (c1 : Cn) (F2 : Fr) (H2 : Hp), Cn.page liv sh ws p c0 = c1 → Sep (sg t (.cells #[.int .i64 (pgK sh p X), .int .i64 (pgA sh p X), .int .i64 (pgB sh p X)] 55 (0, 0)) :: sg y (.cells (auC c0) 42 (0, 0)) :: sg z (.cells (auC Cn.z) 42 (0, 0)) :: sg x (.cells #[.int .i64 sh.p, .int .i64 sh.c, .int .i64 sh.m] 23 (0, 0)) :: h :: l) H2 →
      gt F2 6 = .int .i64 ((p : Int) + 1) → (gt F2 5 = .pointer (some ⟨y, 0, none⟩) ∧ gt F2 4 = .pointer (some ⟨z, 0, none⟩) ∧ gt F2 2 = .pointer (some ⟨x, 0, none⟩) ∧ gt F2 1 = .slice a n cap) →
      auP liv sh ws x y z n cap a (h :: l) F2 (upd H2 y (.cells (auC c1) 42 (0, 0))) := fun c1 F2 H2 e h2 g6 g => by
    refine ⟨p + 1, by omega, by rw [g6]; congr 1, g, ?_⟩
    rw [hnx, e]
    exact h2.tail.set _
  simp only [e6, e5, e4, e2, e1, hhd, hwh, ↓DD, UU, ↓reduceIte, xA, xB, xC, xD, xE, xF, xG, xH, xI, xJ, xK, xL, xM, xN, xO, xP, xQ, ne_eq, eq_self]
  cases hok : okPg sh p X
  · cases hd
    · have hn1 : Cn.page liv sh ws p c0 = { c0 with lo := c0.lo + 64 } := by rw [hpg]; simp [hok]
      simp only [e6, e5, e4, e2, e1, hx1, r1, hy1, ry, ht1, rt, auC, hok, nxt, ntx, nyt, nty, wrap_w64, w4, wi, Ev.upd_upd, ↓DD, UU, ↓reduceIte, xA, xB, xC, xD, xE, xF, xG, xH, xI, xJ, xK, xL, xM, xN, xO, xP, xQ, ne_eq, eq_self]
      exact ⟨fin _ _ _ hn1 hS (by simp [gt]) ⟨by simp [gt, e5], by simp [gt, e4], by simp [gt, e2], by simp [gt, e1]⟩, by simp [gt, iv, e6]; omega⟩
    · simp only [e6, e5, e4, e2, e1, hx1, r1, hy1, ry, ht1, rt, auC, hok, nxt, ntx, nyt, nty, wrap_w64, wi, Ev.upd_upd, ↓DD, UU, ↓reduceIte, xA, xB, xC, xD, xE, xF, xG, xH, xI, xJ, xK, xL, xM, xN, xO, xP, xQ, ne_eq, eq_self]
      refine callT_of (hL _ _ _ _ hS.p4) ?_
      rintro v H' ⟨rfl, hS⟩
      have hS := hS.r4
      have hx1 := hS.lk 3 rfl
      have hy1 := hS.lk 1 rfl
      have ht1 := hS.look
      have rt := fun o => rd_of ht1 o
      have ry := fun o => rd_of hy1 o
      cases hlv : liv wh
      · have hn1 : Cn.page liv sh ws p c0 = { c0 with lo := c0.lo + 64 } := by rw [hpg]; simp [hok, hlv]
        simp only [e6, e5, e4, e2, e1, hx1, r1, hy1, ry, ht1, rt, auC, hok, nxt, ntx, nyt, nty, wrap_w64, w4, wi, Ev.upd_upd, ↓DD, UU, ↓reduceIte, xA, xB, xC, xD, xE, xF, xG, xH, xI, xJ, xK, xL, xM, xN, xO, xP, xQ, ne_eq, eq_self]
        exact ⟨fin _ _ _ hn1 hS (by simp [gt]) ⟨by simp [gt, e5], by simp [gt, e4], by simp [gt, e2], by simp [gt, e1]⟩, by simp [gt, iv, e6]; omega⟩
      · have hn1 : Cn.page liv sh ws p c0 = { c0 with li := c0.li + 64 } := by rw [hpg]; simp [hok, hlv]
        simp only [e6, e5, e4, e2, e1, hx1, r1, hy1, ry, ht1, rt, auC, hok, nxt, ntx, nyt, nty, wrap_w64, w3, wi, Ev.upd_upd, ↓DD, UU, ↓reduceIte, xA, xB, xC, xD, xE, xF, xG, xH, xI, xJ, xK, xL, xM, xN, xO, xP, xQ, ne_eq, eq_self]
        exact ⟨fin _ _ _ hn1 hS (by simp [gt]) ⟨by simp [gt, e5], by simp [gt, e4], by simp [gt, e2], by simp [gt, e1]⟩, by simp [gt, iv, e6]; omega⟩
  · by_cases k0 : pgK sh p X = 0
    · have g0 : (pgK sh p X == 0) = true := beq_iff_eq.2 k0
      have hn1 : Cn.page liv sh ws p c0 = { c0 with fr := c0.fr + 64 } := by rw [hpg]; simp [hok, k0]
      simp only [e6, e5, e4, e2, e1, hx1, r1, hy1, ry, ht1, rt, auC, hok, g0, nxt, ntx, nyt, nty, wrap_w64, w1, wi, Ev.upd_upd, ↓DD, UU, ↓reduceIte, xA, xB, xC, xD, xE, xF, xG, xH, xI, xJ, xK, xL, xM, xN, xO, xP, xQ, ne_eq, eq_self]
      exact ⟨fin _ _ _ hn1 hS (by simp [gt]) ⟨by simp [gt, e5], by simp [gt, e4], by simp [gt, e2], by simp [gt, e1]⟩, by simp [gt, iv, e6]; omega⟩
    have g0 : (pgK sh p X == 0) = false := beq_eq_false_iff_ne.2 k0
    cases hd
    rotate_left
    · simp only [e6, e5, e4, e2, e1, hx1, r1, hy1, ry, ht1, rt, auC, hok, g0, nxt, ntx, nyt, nty, wrap_w64, wi, Ev.upd_upd, ↓DD, UU, ↓reduceIte, xA, xB, xC, xD, xE, xF, xG, xH, xI, xJ, xK, xL, xM, xN, xO, xP, xQ, ne_eq, eq_self]
      refine callT_of (hL _ _ _ _ hS.p4) ?_
      rintro v H' ⟨rfl, hS⟩
      have hS := hS.r4
      have hx1 := hS.lk 3 rfl
      have hy1 := hS.lk 1 rfl
      have ht1 := hS.look
      have rt := fun o => rd_of ht1 o
      have ry := fun o => rd_of hy1 o
      cases hlv : liv wh
      · have hn1 : Cn.page liv sh ws p c0 = { c0 with lo := c0.lo + 64 } := by rw [hpg]; simp [hok, k0, hlv]
        simp only [e6, e5, e4, e2, e1, hx1, r1, hy1, ry, ht1, rt, auC, hok, g0, nxt, ntx, nyt, nty, wrap_w64, w4, wi, Ev.upd_upd, ↓DD, UU, ↓reduceIte, xA, xB, xC, xD, xE, xF, xG, xH, xI, xJ, xK, xL, xM, xN, xO, xP, xQ, ne_eq, eq_self]
        exact ⟨fin _ _ _ hn1 hS (by simp [gt]) ⟨by simp [gt, e5], by simp [gt, e4], by simp [gt, e2], by simp [gt, e1]⟩, by simp [gt, iv, e6]; omega⟩
      · have hn1 : Cn.page liv sh ws p c0 = { c0 with li := c0.li + 64 } := by rw [hpg]; simp [hok, k0, hlv]
        simp only [e6, e5, e4, e2, e1, hx1, r1, hy1, ry, ht1, rt, auC, hok, g0, nxt, ntx, nyt, nty, wrap_w64, w3, wi, Ev.upd_upd, ↓DD, UU, ↓reduceIte, xA, xB, xC, xD, xE, xF, xG, xH, xI, xJ, xK, xL, xM, xN, xO, xP, xQ, ne_eq, eq_self]
        exact ⟨fin _ _ _ hn1 hS (by simp [gt]) ⟨by simp [gt, e5], by simp [gt, e4], by simp [gt, e2], by simp [gt, e1]⟩, by simp [gt, iv, e6]; omega⟩
    by_cases k2 : pgK sh p X = 2
    · have g2 : (pgK sh p X == 2) = true := beq_iff_eq.2 k2
      have hn1 : Cn.page liv sh ws p c0 = Cn.slots liv sh ws p (pgA sh p X) c0 (slots (pgA sh p X)).toNat := by rw [hpg]; simp [hok, k0, k2]
      simp only [e6, e5, e4, e2, e1, hx1, r1, hy1, ry, ryn, ht1, rt, auC, hok, g0, g2, nxt, ntx, nyt, nty, wrap_w64, wi, Ev.upd_upd, ↓DD, UU, ↓reduceIte, xA, xB, xC, xD, xE, xF, xG, xH, xI, xJ, xK, xL, xM, xN, xO, xP, xQ, ne_eq, eq_self]
      refine callT_of (c_slots20 p (pgA sh p X) c0 hL (by omega) hlt hbig hm hn hr hU hS.p4) ?_
      rintro v H' ⟨rfl, hS⟩
      have hS := hS.r4
      have hy1 := hS.lk 1 rfl
      simp only [e6, e5, e4, e2, e1, hy1, cnV, auC, nxt, ntx, nyt, nty, wrap_w64, wi, Ev.upd_upd, ↓DD, UU, ↓reduceIte, xA, xB, xC, xD, xE, xF, xG, xH, xI, xJ, xK, xL, xM, xN, xO, xP, xQ, ne_eq, eq_self]
      exact ⟨fin _ _ _ hn1 hS (by simp [gt]) ⟨by simp [gt, e5], by simp [gt, e4], by simp [gt, e2], by simp [gt, e1]⟩, by simp [gt, iv, e6]; omega⟩
    · have g2 : (pgK sh p X == 2) = false := beq_eq_false_iff_ne.2 k2
      have hn1 : Cn.page liv sh ws p c0 = { c0 with ta := c0.ta + 64 } := by rw [hpg]; simp [hok, k0, k2]
      simp only [e6, e5, e4, e2, e1, hx1, r1, hy1, ry, ht1, rt, auC, hok, g0, g2, nxt, ntx, nyt, nty, wrap_w64, w2, wi, Ev.upd_upd, ↓DD, UU, ↓reduceIte, xA, xB, xC, xD, xE, xF, xG, xH, xI, xJ, xK, xL, xM, xN, xO, xP, xQ, ne_eq, eq_self]
      exact ⟨fin _ _ _ hn1 hS (by simp [gt]) ⟨by simp [gt, e5], by simp [gt, e4], by simp [gt, e2], by simp [gt, e1]⟩, by simp [gt, iv, e6]; omega⟩
end
end Go.Proofs.YtaiojajdnafkcaaGreat
set_option linter.unusedVariables false
set_option linter.unusedSimpArgs false
namespace Go.Ma
open Go.Pl
def livF (s : Sh) (ws : Nat → Int) (c : Int) : Bool := if 0 ≤ c ∧ c < s.c then stK (ws c.toNat) == 1 else false
theorem livF_congr {s : Sh} {ws ws' : Nat → Int} (h : ∀ j : Nat, (j : Int) < s.c → ws' j = ws j) : livF s ws' = livF s ws := by
  funext c
  unfold livF
  split
  · rename_i e; rw [h c.toNat (by omega)]
  · rfl
end Go.Ma
namespace Go.Proofs.YtaiojajdnafkcaaGreat
open Go Go.Ev Go.Pl Go.Ma
section
variable {W : World} {H h : Hp} {l : List Hp} {n cap : Nat} {a : Option Addr} {ws : Nat → Int}
theorem c_livesV {sh : Sh} (hm : may sh.p sh.c sh.m = true) (hn : (n : Int) = words sh.p sh.c sh.m) (hr : RowU h a n ws) (hU : ∀ i, i < n → U (ws i)) : Lives Tryz.prog 55 sh a n cap h (livF sh ws) := by
  intro W H l c hS
  refine CallP.of mixed Tryz.func55 tr55 (by show 3 ≤ _; decide) fun W _ => ?_
  have hb := (may_iff _ _ _).1 hm
  have hw := words_ge hm hn
  simp only [↓DD, UU, ↓reduceIte, xA, xB, xC, xD, xE, xF, xG, xH, xI, xJ, xK, xL, xM, xN, xO, xP, xQ, ne_eq, eq_self]
  refine newB_intro fun x hx f1 f2 => ?_
  have hS := (hS.new f1 (.cells #[.int .i64 sh.p, .int .i64 sh.c, .int .i64 sh.m] 23 (0, 0)))
  have hx1 := hS.look
  have r1 := fun o n => rdn_of hx1 o n
  by_cases hc : 0 ≤ c ∧ c < sh.c
  · have hs : status sh.p sh.c sh.m c = c := status_yes hm hc.1 hc.2
    have d1 : decide (c < 0) = false := decide_eq_false (by omega)
    obtain ⟨xb, xo, rfl, hrd⟩ := (hr.sub (hS.sb h (by simp))).at' (i := c.toNat) (by omega)
    have q0 := hc.1
    have q1 : c < (n : Int) := by omega
    have hrs := u_readst (hU c.toNat (by omega))
    have hl : livF sh ws c = (stK (ws c.toNat) == 1) := by unfold livF; rw [if_pos hc]
    simp only [hx1, r1, u_status, hs, d1, hrd, q0, q1, hrs, hl, ↓DD, UU, ↓reduceIte, xA, xB, xC, xD, xE, xF, xG, xH, xI, xJ, xK, xL, xM, xN, xO, xP, xQ, ne_eq, eq_self]
    exact hS.tail
  · have hs : status sh.p sh.c sh.m c < 0 := by rw [status_lt0]; exact fun g => hc g.2
    have hl : livF sh ws c = false := by unfold livF; rw [if_neg hc]
    simp only [hx1, r1, u_status, decide_eq_true hs, hl, ↓DD, UU, ↓reduceIte, xA, xB, xC, xD, xE, xF, xG, xH, xI, xJ, xK, xL, xM, xN, xO, xP, xQ, ne_eq, eq_self]
    exact hS.tail
end
end Go.Proofs.YtaiojajdnafkcaaGreat
