/-
Pages of a sound heap that one claims: what each of them says; the heap is sound still, its blocks are the same. Conditions: none.
Who seeks a slot from wherever, plain: its steps, what stays, how long it goes on. Conditions: none.
Who seeks a slot from wherever, plain: what fits stays so, and it ends. Conditions: none.
Who seeks a slot, alone in a sound heap: how far it is; each step keeps that. Conditions: none.
Who seeks a slot, alone in a sound heap: it is sound behind that; what is found is its own. Conditions: none.
One that looks for a row of pages and one that looks for a slot, at the same time, in an empty heap: whose a page is. Conditions: none.
-/
import Derived.Test.YtfdhilnaagpecaaGreatMaSk
import Derived.Test.YtfdhilnaagpecaaGreatMaBase
import Derived.Test.YtfdhilnaagpecaaGreatMaMI
import Derived.Test.YtfdhilnaagpecaaGreatMaGive
import Derived.Test.YtfdhilnaagpecaaGreatMaRun
set_option linter.unusedVariables false
set_option linter.unusedSectionVars false
set_option linter.unusedSimpArgs false
namespace Go.Ma
open Go.Pl
namespace Rw
section
variable (s : Sh) (ws0 : Nat → Int) (c : Int) (ws : Nat → Int) (q : Int)
/-- Nobody has a page, nor a slot of it. -/
def Free : Prop := pgK s q (pgAt s ws0 q) = 0 ∨ (pgK s q (pgAt s ws0 q) = 2 ∧ ∀ i, 0 ≤ i → i < slots (pgA s q (pgAt s ws0 q)) → slK (slAt s ws0 q i) = 1)
def Zs : Prop := ∀ i, 0 ≤ i → i < 16 → slAt s ws q i = 0
def Un : Prop := pgAt s ws q = pgAt s ws0 q ∧ ∀ i, 0 ≤ i → i < 16 → slAt s ws q i = slAt s ws0 q i
def Em : Prop := Free s ws0 q ∧ pgAt s ws q = 0 ∧ Zs s ws q
def Hl : Prop := Free s ws0 q ∧ pgAt s ws q = held c ∧ Zs s ws q
def Bo (h : Int) : Prop := Free s ws0 q ∧ pgAt s ws q = putPg 4 h 0 ∧ Zs s ws q
def Tr (j : Int) : Prop := pgAt s ws q = pgAt s ws0 q ∧ pgK s q (pgAt s ws0 q) = 2 ∧ 0 ≤ j ∧ j ≤ slots (pgA s q (pgAt s ws0 q)) ∧ (∀ i, 0 ≤ i → i < j → slAt s ws q i = way c ∧ slAt s ws0 q i = opn (pgA s q (pgAt s ws0 q))) ∧ ∀ i, j ≤ i → i < 16 → slAt s ws q i = slAt s ws0 q i
def Cl (i : Int) : Prop := Free s ws0 q ∧ pgAt s ws q = held c ∧ ∀ j, 0 ≤ j → j < i → slAt s ws q j = 0
def Sm (ws' : Nat → Int) : Prop := pgAt s ws' q = pgAt s ws q ∧ ∀ i, 0 ≤ i → i < 16 → slAt s ws' q i = slAt s ws q i
/-- What a page may say meanwhile. -/
inductive Pq (h : Int) : Prop
  | u (e : Un s ws0 ws q)
  | e (e : Em s ws0 ws q)
  | h (f : Free s ws0 q) (e : pgAt s ws q = held c)
  | b (e : Bo s ws0 ws q h) (h0 : 0 ≤ h) (h1 : h < q) (h2 : q < h + 8) (hh : pgAt s ws h = held c)
  | t (j : Int) (e : Tr s ws0 c ws q j)
end
section
variable {s : Sh} {ws0 ws ws' : Nat → Int} {c q h : Int}
end
end Rw
end Go.Ma
namespace Go.Ma
open Go.Pl
namespace Sa
section
variable (s : Sh) (ws0 : Nat → Int) (c k f : Int)
def Noe (i : Int) : Prop := ∀ j, 0 ≤ j → j < i → ¬ (okEn s (mgAt s ws0 c j) = true ∧ enK s (mgAt s ws0 c j) = k)
def Has (p i : Int) : Prop := pgK s p (pgAt s ws0 p) = 2 ∧ pgA s p (pgAt s ws0 p) = k ∧ 0 ≤ i ∧ i < slots k ∧ slAt s ws0 p i = opn k
def Nos (j : Int) : Prop := ∀ q, 0 ≤ q → q < j → ∀ i, ¬ Has s ws0 k ((f + q) % s.p) i
def Nop (j : Int) : Prop := ∀ q, 0 ≤ q → q < j → pgAt s ws0 ((f + q) % s.p) ≠ 0
def Nof (j : Int) : Prop := ∀ q, 0 ≤ q → q < j → ¬ Rw.Free s ws0 ((f + q) % s.p)
/-- No word but of one page is another one. -/
def Off (ws : Nat → Int) (p : Int) : Prop := ∀ j : Nat, (j : Int) ≠ s.c + p → ¬ (s.c + s.p + p * 16 ≤ (j : Int) ∧ (j : Int) < s.c + s.p + p * 16 + 16) → ws j = ws0 j
/-- From where a page is. -/
def Org (p : Int) : Prop := Rw.Free s ws0 p ∧ Noe s ws0 c k s.m ∧ Nos s ws0 k f s.p ∧ ∃ j, 0 ≤ j ∧ j < s.p ∧ p = (f + j) % s.p ∧ (pgAt s ws0 p = 0 ∨ Nof s ws0 f j)
inductive Ph (t : Sk) (ws : Nat → Int) : Prop
  | tk (m : Tk) (e : t.nw = .tk m) (hd : t.dn = false) (hh : m.hit = false) (hw : ws = ws0) (no : Noe s ws0 c k m.i)
  | ht (m : Tk) (e : t.nw = .tk m) (hd : t.dn = false) (hh : m.hit = true) (hw : ws = ws0) (ok : okEn s (mgAt s ws0 c m.i) = true) (kk : enK s (mgAt s ws0 c m.i) = k) (hp : m.ep = enP s (mgAt s ws0 c m.i)) (hs : m.es = enS s (mgAt s ws0 c m.i))
  | sc (m : Sc) (e : t.nw = .sc m) (hd : t.dn = false) (hw : ws = ws0) (no : Noe s ws0 c k s.m) (ns : Nos s ws0 k f m.many) (n0 : m.nx = 0 → m.i = 0)
      (np : m.nx ≠ 0 → pgK s m.pg (pgAt s ws0 m.pg) = 2 ∧ pgA s m.pg (pgAt s ws0 m.pg) = k ∧ ∀ i, 0 ≤ i → i < m.i → slAt s ws0 m.pg i ≠ opn k) (n2 : m.nx = 2 → slAt s ws0 m.pg m.i = opn k)
  | pc (m : Pc) (e : t.nw = .pc m) (hd : t.dn = false) (hw : ws = ws0) (no : Noe s ws0 c k s.m) (ns : Nos s ws0 k f s.p) (ne : Nop s ws0 f m.many) (em : m.em = true → pgAt s ws0 m.pg = 0)
  | no (e : t.nw = .no) (hd : t.dn = false) (hw : ws = ws0) (no : Noe s ws0 c k s.m) (ns : Nos s ws0 k f s.p) (ne : Nop s ws0 f s.p) (nf : Nof s ws0 f t.many)
  | st (m : St) (e : t.nw = .st m) (hd : t.dn = false) (no : Noe s ws0 c k s.m) (ns : Nos s ws0 k f s.p) (ne : Nop s ws0 f s.p) (nf : Nof s ws0 f t.many) (of : Off s ws0 ws m.p) (tr : Rw.Tr s ws0 c ws m.p m.i) (kk : m.k = pgA s m.p (pgAt s ws0 m.p)) (bk : m.bk = true → ¬ Rw.Free s ws0 m.p)
  | b1 (m : Bi) (e : t.nw = .bi m) (hd : t.dn = false) (og : Org s ws0 c k f m.p) (of : Off s ws0 ws m.p) (hx : m.bd = false) (pg : pgAt s ws m.p = held c) (sl : ∀ i, 0 ≤ i → i < m.i → slAt s ws m.p i = if i < slots k then way c else 0)
  | b2 (m : Bi) (e : t.nw = .bi m) (hd : t.dn = false) (og : Org s ws0 c k f m.p) (of : Off s ws0 ws m.p) (hx : m.bd = true) (pg : pgAt s ws m.p = super k c) (sl : ∀ i, 0 ≤ i → i ≤ m.i → slAt s ws m.p i = way c) (so : ∀ i, m.i < i → i < slots k → slAt s ws m.p i = opn k) (sz : ∀ i, slots k ≤ i → i < 16 → slAt s ws m.p i = 0)
  | f1 (i : Int) (hd : t.dn = true) (hf : t.fd = true) (i0 : 0 ≤ i) (i1 : i < s.m) (ok : okEn s (mgAt s ws0 c i) = true) (kk : enK s (mgAt s ws0 c i) = k) (hp : t.pg = enP s (mgAt s ws0 c i)) (hs : t.sl = enS s (mgAt s ws0 c i)) (hw : ws = upW ws0 (mag s.p s.c s.m c i) 0)
  | f2 (hd : t.dn = true) (hf : t.fd = true) (p0 : 0 ≤ t.pg) (p1 : t.pg < s.p) (h : Has s ws0 k t.pg t.sl) (hw : ws = upW ws0 (slot s.p s.c s.m t.pg t.sl) (way c))
  | f3 (hd : t.dn = true) (hf : t.fd = true) (p0 : 0 ≤ t.pg) (p1 : t.pg < s.p) (og : Org s ws0 c k f t.pg) (hl : t.sl = 0) (of : Off s ws0 ws t.pg) (pg : pgAt s ws t.pg = super k c) (sl : slAt s ws t.pg 0 = way c) (so : ∀ i, 0 < i → i < slots k → slAt s ws t.pg i = opn k) (sz : ∀ i, slots k ≤ i → i < 16 → slAt s ws t.pg i = 0)
  | n (hd : t.dn = true) (hf : t.fd = false) (hw : ws = ws0) (no : Noe s ws0 c k s.m) (ns : Nos s ws0 k f s.p) (nf : Nof s ws0 f s.p)
structure Al (t : Sk) (w : Wd) : Prop where
  wf : t.wf
  of : w.of s
  ok : may s.p s.c s.m = true
  es : t.s = s
  ec : t.c = c ∧ 0 ≤ c ∧ c < s.c
  kk : t.k = k ∧ 0 ≤ k ∧ k ≤ 3
  ff : t.f = f ∧ 0 ≤ f ∧ f < s.p
  snd : Snd s ws0
  ph : Ph s ws0 c k f t w.ws
end
section
variable {s : Sh} {ws0 ws : Nat → Int} {c k f p : Int} {t : Sk} {w : Wd}
/-- There is a slot for it. -/
def Want (s : Sh) (ws0 : Nat → Int) (c k : Int) : Prop := (∃ i, 0 ≤ i ∧ i < s.m ∧ okEn s (mgAt s ws0 c i) = true ∧ enK s (mgAt s ws0 c i) = k) ∨ (∃ p i, 0 ≤ p ∧ p < s.p ∧ Has s ws0 k p i) ∨ ∃ p, 0 ≤ p ∧ p < s.p ∧ Rw.Free s ws0 p
end
end Sa
end Go.Ma
namespace Go.Ma
open Go.Pl
namespace Sa
section
variable {s : Sh} {ws0 ws : Nat → Int} {c k f p : Int} {t : Sk} {w : Wd}
end
end Sa
end Go.Ma
namespace Go.Ma
open Go.Pl
namespace Rk
/-- The word of a page that is the runner's; 0: it is not. -/
def rOwn (t : Rn) (q : Int) : Int :=
  if t.dn = true then (if t.fd = true ∧ t.hd ≤ q ∧ q < t.hd + t.n then (if q = t.hd then held 0 else putPg 4 t.hd 0) else 0)
  else if t.nx ≤ 2 then (if t.hd ≤ q ∧ q < t.at' then held 0 else 0)
  else if t.nx = 4 then (if t.hd ≤ q ∧ q < t.i then held 0 else 0)
  else (if q = t.hd then held 0 else if t.hd < q ∧ q < t.i then putPg 4 t.hd 0 else if t.i ≤ q ∧ q < t.hd + t.n then held 0 else 0)
section
variable {t : Rn} {q : Int}
end
section
variable (P n K f : Int)
def sh : Sh := ⟨P, 2, 0⟩
/-- The seeker's side. -/
inductive Bp (u : Sk) (ws : Nat → Int) (bp : Int) : Prop
  | sc (m : Sc) (e : u.nw = .sc m) (d : u.dn = false) (b : bp = -1) (x : m.nx = 0) (i : m.i = 0)
  | pc (m : Pc) (e : u.nw = .pc m) (d : u.dn = false) (b : bp = -1) (nz : ∀ j, 0 ≤ j → j < m.many → pgAt (sh P) ws ((f + j) % P) ≠ 0)
  | no (e : u.nw = .no) (d : u.dn = false) (b : bp = -1) (nz : ∀ q, 0 ≤ q → q < P → pgAt (sh P) ws q ≠ 0)
  | b1 (m : Bi) (e : u.nw = .bi m) (d : u.dn = false) (b : bp = m.p) (x : m.bd = false) (pg : pgAt (sh P) ws bp = held 1) (sl : ∀ i, 0 ≤ i → i < m.i → slAt (sh P) ws bp i = if i < slots K then way 1 else 0)
  | b2 (m : Bi) (e : u.nw = .bi m) (d : u.dn = false) (b : bp = m.p) (x : m.bd = true) (pg : pgAt (sh P) ws bp = super K 1) (sl : ∀ i, 0 ≤ i → i ≤ m.i → slAt (sh P) ws bp i = way 1) (so : ∀ i, m.i < i → i < slots K → slAt (sh P) ws bp i = opn K) (sz : ∀ i, slots K ≤ i → i < 16 → slAt (sh P) ws bp i = 0)
  | f (d : u.dn = true) (g : u.fd = true) (b : bp = u.pg) (b0 : 0 ≤ bp) (pg : pgAt (sh P) ws bp = super K 1) (s0 : slAt (sh P) ws bp 0 = way 1) (so : ∀ i, 0 < i → i < slots K → slAt (sh P) ws bp i = opn K) (sz : ∀ i, slots K ≤ i → i < 16 → slAt (sh P) ws bp i = 0)
  | n (d : u.dn = true) (g : u.fd = false) (b : bp = -1) (nz : ∀ q, 0 ≤ q → q < P → pgAt (sh P) ws q ≠ 0)
structure Inv (t : Rn) (u : Sk) (w : Wd) (bp : Int) : Prop where
  ok : 1 ≤ P ∧ P ≤ 9
  of : w.of (sh P)
  ts : t.wf ∧ t.s = sh P ∧ t.c = 0 ∧ t.n = n ∧ 1 ≤ n ∧ n ≤ 8
  us : u.wf ∧ u.s = sh P ∧ u.c = 1 ∧ u.k = K ∧ u.f = f
  kf : 0 ≤ K ∧ K ≤ 3 ∧ 0 ≤ f ∧ f < P
  pg : ∀ q, 0 ≤ q → q < P → q ≠ bp → pgAt (sh P) w.ws q = rOwn t q
  sl : ∀ q, 0 ≤ q → q < P → q ≠ bp → Rw.Zs (sh P) w.ws q
  bo : -1 ≤ bp ∧ (0 ≤ bp → bp < P ∧ rOwn t bp = 0)
  r3 : t.dn = false → t.nx ≠ 3
  r2 : t.dn = false → t.nx = 2 → 0 ≤ bp ∧ bp = t.at' ∧ pgAt (sh P) w.ws bp = super K 1 ∧ ∃ q, t.st = some q ∧ q.i = 0 ∧ q.bk = false ∧ 0 ≤ q.k ∧ q.k ≤ 3
  r1 : bp = -1 → t.hd = 0 ∧ (t.dn = false → t.nx ≠ 4) ∧ (t.dn = true → t.fd = true ∨ P < n)
  r0 : P < n → t.dn = true ∧ t.fd = false
  hb : 0 ≤ t.hd ∧ t.hd ≤ P + 8
  ph : Bp P K f u w.ws bp
end
section
variable {P n K f bp : Int} {t : Rn} {u : Sk} {w : Wd}
end
end Rk
end Go.Ma
