/-
The document's count of a heap's words, plain. Conditions: none.
What is taken out of a sound heap: a block that is given, a row of pages that is claimed. Conditions: none.
Who gives, alone in a sound heap: each step keeps it sound; what is given, and what not. Conditions: none.
One alone in a sound heap, plain: its blocks, one behind the other; a block that is reserved, and its commit. Conditions: none.
One that reserves, alone in a sound heap, plain: all is sound at each step; what it has at the end, what each page is then. Conditions: none.
Another block in place of one, plain: the machine that reserves, gives, and commits or undoes. Conditions: none.
Over any words: what one does that reserves, and undoes, touches no block. Conditions: none.
One that undoes, one that renews, alone in a sound heap, plain: how far it is, what there is at the end. Conditions: none.
Rows of blocks, one behind the other, plain: what is in them says which they are; a renewal's end in a sound heap. Conditions: none.
A block that is reserved in a sound heap, plain: nobody else holds a word of it. Conditions: none.
-/
import Derived.Test.YtlolfghimbcoaaaGreatMaBase
import Derived.Test.YtlolfghimbcoaaaGreatMaSeekMore
import Derived.Test.YtlolfghimbcoaaaGreatMaRun
import Derived.Test.YtlolfghimbcoaaaGreatMaTake
import Derived.Test.YtlolfghimbcoaaaGreatMaGive
set_option linter.unusedVariables false
set_option linter.unusedSectionVars false
set_option linter.unusedSimpArgs false
namespace Go.Ma
open Go.Pl
/-- Words that are free, taken, of one who lives, of none who lives. -/
structure Cn where
  fr : Int
  ta : Int
  li : Int
  lo : Int
namespace Cn
def z : Cn := ⟨0, 0, 0, 0⟩
/-- One slot more. -/
def slot (liv : Int → Bool) (A y : Int) (n : Cn) : Cn :=
  if slK y = 1 then { n with fr := n.fr + size A } else if slK y = 3 then { n with ta := n.ta + size A } else if slK y = 2 ∧ liv (slA y) = true then { n with li := n.li + size A } else { n with lo := n.lo + size A }
def slots (liv : Int → Bool) (s : Sh) (ws : Nat → Int) (q A : Int) (n : Cn) : Nat → Cn
  | 0 => n
  | i + 1 => slot liv A (slAt s ws q i) (slots liv s ws q A n i)
/-- The page that is asked whose it is. -/
def at' (s : Sh) (ws : Nat → Int) (q : Int) : Int := if pgK s q (pgAt s ws q) = 4 then pgA s q (pgAt s ws q) else q
def who (s : Sh) (ws : Nat → Int) (q : Int) : Int := pgA s (at' s ws q) (pgAt s ws (at' s ws q))
def held (s : Sh) (ws : Nat → Int) (q : Int) : Bool := pgK s (at' s ws q) (pgAt s ws (at' s ws q)) == 1
/-- One page more. -/
def page (liv : Int → Bool) (s : Sh) (ws : Nat → Int) (q : Int) (n : Cn) : Cn :=
  if okPg s q (pgAt s ws q) = true ∧ pgK s q (pgAt s ws q) = 0 then { n with fr := n.fr + 64 }
  else if held s ws q = true ∧ liv (who s ws q) = true then { n with li := n.li + 64 }
  else if held s ws q = true ∨ okPg s q (pgAt s ws q) = false then { n with lo := n.lo + 64 }
  else if pgK s q (pgAt s ws q) = 2 then slots liv s ws q (pgA s q (pgAt s ws q)) n (Pl.slots (pgA s q (pgAt s ws q))).toNat
  else { n with ta := n.ta + 64 }
def all (liv : Int → Bool) (s : Sh) (ws : Nat → Int) : Nat → Cn
  | 0 => z
  | q + 1 => page liv s ws q (all liv s ws q)
/-- All numbers are small. -/
def Bd (b : Int) (n : Cn) : Prop := 0 ≤ n.fr ∧ n.fr ≤ b ∧ 0 ≤ n.ta ∧ n.ta ≤ b ∧ 0 ≤ n.li ∧ n.li ≤ b ∧ 0 ≤ n.lo ∧ n.lo ≤ b
end Cn
end Go.Ma
namespace Go.Ma
open Go.Pl
section
variable {s : Sh} {ws0 ws : Nat → Int} {pg A i c sl x : Int}
/-- Pages in a row: the head is held, so many bodies are empty; or all is. -/
structure LX (s : Sh) (ws0 : Nat → Int) (pg A c i : Int) (ws : Nat → Int) : Prop where
  hd : pgAt s ws pg = held c ∨ (pgAt s ws pg = 0 ∧ i = A - 1)
  em : ∀ j, 1 ≤ j → j ≤ i → pgAt s ws (pg + j) = 0
  ot : ∀ q, 0 ≤ q → q < s.p → q ≠ pg → ¬ (pg < q ∧ q ≤ pg + i) → pgAt s ws q = pgAt s ws0 q
  sl : ∀ q j, 0 ≤ q → q < s.p → 0 ≤ j → j < 16 → slAt s ws q j = slAt s ws0 q j
  mg : ∀ c' j, 0 ≤ c' → c' < s.c → 0 ≤ j → j < s.m → mgAt s ws c' j = mgAt s ws0 c' j
section
variable (hm : may s.p s.c s.m = true) (hsn : Snd s ws0) (p0 : 0 ≤ pg) (p1 : pg < s.p) (hk : pgK s pg (pgAt s ws0 pg) = 3) (hA : pgA s pg (pgAt s ws0 pg) = A) (c0 : 0 ≤ c) (c1 : c < s.c) (i0 : 0 ≤ i) (i1 : i < A)
include hm hsn p0 p1 hk hA
theorem row_body {j : Int} (j0 : 1 ≤ j) (j1 : j < A) : pgK s (pg + j) (pgAt s ws0 (pg + j)) = 4 ∧ pgA s (pg + j) (pgAt s ws0 (pg + j)) = pg := by
  obtain ⟨e1, e2⟩ := hsn.pg pg.toNat (by omega)
  rw [show ((pg.toNat : Nat) : Int) = pg by omega] at e1 e2
  exact e2.lar (by rw [hk]; rfl) (by rw [hk]; rfl) (by rw [hk]; rfl) (by rw [hk]; rfl) j j0 (by rw [hA]; exact j1)
theorem row_bd : 1 ≤ A ∧ A ≤ 8 ∧ pg + A ≤ s.p := by
  rw [← hA]; exact large_bd (pgK_ne (by rw [hk]; decide)) hk
include c0 c1 i0 i1
end
/-- A slot that was taken is another one's way, or open; in the first case an entry may say so. -/
structure SX (s : Sh) (ws0 : Nat → Int) (pg sl A c x : Int) (e : Option Int) (ws : Nat → Int) : Prop where
  xx : x = way c ∨ (x = opn A ∧ e = none)
  at' : slAt s ws pg sl = x
  pg' : ∀ q, 0 ≤ q → q < s.p → pgAt s ws q = pgAt s ws0 q
  sl' : ∀ q j, 0 ≤ q → q < s.p → 0 ≤ j → j < 16 → ¬ (q = pg ∧ j = sl) → slAt s ws q j = slAt s ws0 q j
  mg : ∀ c' j, 0 ≤ c' → c' < s.c → 0 ≤ j → j < s.m → mgAt s ws c' j = mgAt s ws0 c' j ∨ (c' = c ∧ e = some j ∧ mgAt s ws c' j = putEn pg sl A ∧ mgAt s ws0 c' j = 0)
end
end Go.Ma
namespace Go.Ma
open Go.Pl
section
variable {s : Sh} {ws ws' : Nat → Int}
theorem blkPg_mem {p : Nat} {y : Int × Int} (h : y ∈ blkPg s ws p) : (pgK s p (pgAt s ws p) = 3 ∧ y = ((p : Int) * 64, pgA s p (pgAt s ws p) * 64)) ∨ (pgK s p (pgAt s ws p) = 2 ∧ ∃ i : Nat, (i : Int) < slots (pgA s p (pgAt s ws p)) ∧ slK (slAt s ws p i) = 3 ∧ y = ((p : Int) * 64 + i * size (pgA s p (pgAt s ws p)), size (pgA s p (pgAt s ws p)))) := by
  unfold blkPg at h
  split at h
  · rename_i h3; exact .inl ⟨h3, by simpa using h⟩
  · split at h
    · rename_i h2
      obtain ⟨i, h4, h5, h6⟩ := blkSl_mem.1 h
      exact .inr ⟨h2, i, by omega, h5, h6⟩
    · cases h
theorem blkPg_in {p : Nat} {y : Int × Int} (h : y ∈ blkPg s ws p) : (p : Int) * 64 ≤ y.1 ∧ y.1 < (p : Int) * 64 + 64 := by
  rcases blkPg_mem h with ⟨-, rfl⟩ | ⟨h2, i, h3, -, rfl⟩
  · show (p : Int) * 64 ≤ (p : Int) * 64 ∧ (p : Int) * 64 < (p : Int) * 64 + 64; omega
  · have hA := Gv.ok_super (pgK_ne (s := s) (q := p) (x := pgAt s ws p) (by rw [h2]; decide)) h2
    have hs := slots_four hA.1 hA.2.1
    show (p : Int) * 64 ≤ (p : Int) * 64 + i * size _ ∧ (p : Int) * 64 + i * size _ < (p : Int) * 64 + 64
    have h4 := Int.mul_le_mul_of_nonneg_right (by omega : (i : Int) + 1 ≤ slots (pgA s p (pgAt s ws p))) (by omega : 0 ≤ size (pgA s p (pgAt s ws p)))
    rw [Int.add_mul] at h4
    have h5 := Int.mul_nonneg (by omega : 0 ≤ (i : Int)) (by omega : 0 ≤ size (pgA s p (pgAt s ws p)))
    omega
theorem blks_mem {y : Int × Int} : ∀ {n : Nat}, y ∈ blks s ws n ↔ ∃ p : Nat, p < n ∧ y ∈ blkPg s ws p
  | 0 => by simp [blks]
  | n + 1 => by
    unfold blks
    rw [List.mem_append, blks_mem (n := n)]
    constructor
    · rintro (⟨p, h1, h2⟩ | h)
      · exact ⟨p, by omega, h2⟩
      · exact ⟨n, by omega, h⟩
    · rintro ⟨p, h1, h2⟩
      by_cases e : p = n
      · subst e; exact .inr h2
      · exact .inl ⟨p, by omega, h2⟩
/-- The row of blocks is what is ahead of a page, of the page, behind it. -/
theorem blks_split (p : Nat) : ∀ n, p < n → ∃ R : List (Int × Int), (∀ y ∈ R, ∃ q : Nat, p < q ∧ y ∈ blkPg s ws q) ∧ blks s ws n = blks s ws p ++ blkPg s ws p ++ R ∧ ∀ ws', (∀ q : Nat, q < n → q ≠ p → blkPg s ws' q = blkPg s ws q) → blks s ws' n = blks s ws p ++ blkPg s ws' p ++ R
  | 0, h => by omega
  | n + 1, h => by
    by_cases e : p = n
    · subst e
      refine ⟨[], by simp, by simp [blks], fun ws' hw => ?_⟩
      have : blks s ws' p = blks s ws p := blks_congr fun q hq => hw q (by omega) (by omega)
      simp [blks, this]
    · obtain ⟨R, h1, h2, h3⟩ := blks_split p n (by omega)
      refine ⟨R ++ blkPg s ws n, fun y hy => ?_, ?_, fun ws' hw => ?_⟩
      · rcases List.mem_append.1 hy with hy | hy
        · exact h1 y hy
        · exact ⟨n, by omega, hy⟩
      · show blks s ws n ++ blkPg s ws n = _
        rw [h2]; simp
      · show blks s ws' n ++ blkPg s ws' n = _
        rw [h3 ws' fun q hq hne => hw q (by omega) hne, hw n (by omega) (by omega)]; simp
theorem blkSl_split {p A : Int} (i : Nat) : ∀ n, i < n → ∃ R : List (Int × Int), (∀ y ∈ R, ∃ j : Nat, i < j ∧ j < n ∧ y = (p * 64 + j * size A, size A)) ∧ blkSl s ws p A n = blkSl s ws p A i ++ (if slK (slAt s ws p i) = 3 then [(p * 64 + i * size A, size A)] else []) ++ R ∧
    ∀ ws', (∀ j : Nat, j < n → j ≠ i → (slK (slAt s ws' p j) = 3 ↔ slK (slAt s ws p j) = 3)) → slK (slAt s ws' p i) ≠ 3 → blkSl s ws' p A n = blkSl s ws p A i ++ R
  | 0, h => by omega
  | n + 1, h => by
    by_cases e : i = n
    · subst e
      refine ⟨[], by simp, by simp [blkSl], fun ws' hw hn => ?_⟩
      have : blkSl s ws' p A i = blkSl s ws p A i := blkSl_congr fun j hj => hw j (by omega) (by omega)
      simp [blkSl, this, hn]
    · obtain ⟨R, h1, h2, h3⟩ := blkSl_split (p := p) (A := A) i n (by omega)
      refine ⟨R ++ (if slK (slAt s ws p n) = 3 then [(p * 64 + n * size A, size A)] else []), fun y hy => ?_, ?_, fun ws' hw hn => ?_⟩
      · rcases List.mem_append.1 hy with hy | hy
        · obtain ⟨j, j1, j2, j3⟩ := h1 y hy; exact ⟨j, j1, by omega, j3⟩
        · split at hy
          · exact ⟨n, by omega, by omega, by simpa using hy⟩
          · cases hy
      · show blkSl s ws p A n ++ _ = _
        rw [h2]; simp only [List.append_assoc]
      · show blkSl s ws' p A n ++ _ = _
        rw [h3 ws' (fun j hj hne => hw j (by omega) hne) hn]
        have := hw n (by omega) (by omega)
        by_cases e3 : slK (slAt s ws p n) = 3
        · rw [if_pos e3, if_pos (this.2 e3)]; simp
        · rw [if_neg e3, if_neg fun x => e3 (this.1 x)]; simp
/-- One block alone is gone. -/
def Out (l l' : List (Int × Int)) (a : Int) : Prop := ∃ pre post y, l = pre ++ [y] ++ post ∧ l' = pre ++ post ∧ y.1 = a ∧ (∀ z ∈ pre, z.1 ≠ a) ∧ ∀ z ∈ post, z.1 ≠ a
theorem page_out {p n : Nat} (hp : p < n) (hw : ∀ q : Nat, q < n → q ≠ p → blkPg s ws' q = blkPg s ws q) {a : Int} (ho : Out (blkPg s ws p) (blkPg s ws' p) a) : Out (blks s ws n) (blks s ws' n) a := by
  obtain ⟨R, h1, h2, h3⟩ := blks_split (s := s) (ws := ws) p n hp
  obtain ⟨pre, post, y, e1, e2, e3, e4, e5⟩ := ho
  have hy : y ∈ blkPg s ws p := by rw [e1]; simp
  have hya := blkPg_in hy
  rw [e3] at hya
  refine ⟨blks s ws p ++ pre, post ++ R, y, ?_, ?_, e3, fun z hz => ?_, fun z hz => ?_⟩
  · rw [h2, e1]; simp
  · rw [h3 ws' hw, e2]; simp
  · rcases List.mem_append.1 hz with hz | hz
    · obtain ⟨q, q1, q2⟩ := blks_mem.1 hz
      have := blkPg_in q2; omega
    · exact e4 z hz
  · rcases List.mem_append.1 hz with hz | hz
    · exact e5 z hz
    · obtain ⟨q, q1, q2⟩ := h1 z hz
      have := blkPg_in q2; omega
end
section
variable {s : Sh} {ws0 ws : Nat → Int} {pg A i c sl x : Int}
end
end Go.Ma
namespace Go.Ma
open Go.Pl
namespace Rw
section
variable (s : Sh) (ws0 : Nat → Int) (c n : Int) (ws : Nat → Int)
def Lo (hd : Int) : Prop := ∀ q, 0 ≤ q → q < hd → Un s ws0 ws q ∨ Em s ws0 ws q
def Hi (a : Int) : Prop := ∀ q, a ≤ q → q < s.p → Un s ws0 ws q
def No (hd : Int) : Prop := ∀ h, 0 ≤ h → h < hd → ∃ q, h ≤ q ∧ q < h + n ∧ ¬ Free s ws0 q
def Hs (a b : Int) : Prop := ∀ q, a ≤ q → q < b → Hl s ws0 c ws q
inductive Ph (hd at' i nx : Int) (st : Option St) (fd dn : Bool) : Prop
  | look (d : dn = false) (x : nx = 0) (h : Hs s ws0 c ws hd at') (u : Hi s ws0 ws at')
  | claim (d : dn = false) (x : nx = 1) (h : Hs s ws0 c ws hd at') (u : Hi s ws0 ws at') (z : pgAt s ws0 at' = 0)
  | strip (q : St) (d : dn = false) (x : nx = 2) (h : Hs s ws0 c ws hd at') (u : Hi s ws0 ws (at' + 1)) (e : st = some q) (k : q.k = pgA s at' (pgAt s ws0 at')) (t : Tr s ws0 c ws at' q.i) (b : q.bk = true → ¬ Free s ws0 at')
  | clear (d : dn = false) (x : nx = 3) (h : Hs s ws0 c ws hd at') (u : Hi s ws0 ws (at' + 1)) (l : Cl s ws0 c ws at' i)
  | back (d : dn = false) (x : nx = 4) (h : Hs s ws0 c ws hd i) (e : ∀ q, i ≤ q → q < at' → Em s ws0 ws q) (u : Hi s ws0 ws at') (f : ¬ Free s ws0 at')
  | body (d : dn = false) (x : nx = 5) (a : at' = hd + n) (l : hd < i) (hh : Hl s ws0 c ws hd) (e : ∀ q, hd < q → q < i → Bo s ws0 ws q hd) (h : Hs s ws0 c ws i at') (u : Hi s ws0 ws at')
  | won (d : dn = true) (f : fd = true) (nn : 1 ≤ n ∧ n ≤ 8 ∧ 0 ≤ hd ∧ hd + n ≤ s.p) (hh : Hl s ws0 c ws hd) (e : ∀ q, hd < q → q < hd + n → Bo s ws0 ws q hd) (u : Hi s ws0 ws (hd + n))
  | lost (d : dn = true) (f : fd = false) (a : Lo s ws0 ws s.p) (o : ∀ h, 0 ≤ h → h + n ≤ s.p → ∃ q, h ≤ q ∧ q < h + n ∧ ¬ Free s ws0 q)
/-- How far it is, and what is behind it. -/
def Go' (t : Rn) : Prop := (t.fd = true ∨ t.dn = false → Lo s ws0 ws t.hd ∧ No s ws0 n t.hd) ∧ Ph s ws0 c n ws t.hd t.at' t.i t.nx t.st t.fd t.dn
end
section
variable {s : Sh} {ws0 ws ws' : Nat → Int} {c n : Int} {t : Rn}
theorem written_ok (hd : t.dn = false) (hx : t.nx = 5) (hn : 1 ≤ n ∧ n ≤ 8 ∧ 0 ≤ t.hd ∧ t.hd + n ≤ s.p) (htn : t.n = n) (a : t.at' = t.hd + n) (l : t.hd ≤ t.i) (l2 : t.i < t.hd + n) (lo : Lo s ws0 ws t.hd) (no : No s ws0 n t.hd)
    (hh : Hl s ws0 c ws t.hd) (e : ∀ q, t.hd < q → q < t.i + 1 → Bo s ws0 ws q t.hd) (h : Hs s ws0 c ws (t.i + 1) t.at') (u : Hi s ws0 ws t.at') : Go' s ws0 c n ws t.written := by
  unfold Rn.written
  split
  · rename_i h1
    rw [htn] at h1
    exact ⟨fun _ => ⟨lo, no⟩, .won rfl rfl hn hh (fun q q0 q1 => e q q0 (by have q1 : q < t.hd + n := q1; omega)) (by rw [a] at u; exact u)⟩
  · exact ⟨fun _ => ⟨lo, no⟩, .body hd hx a (by show t.hd < t.i + 1; omega) hh e h u⟩
theorem own_ok (hd : t.dn = false) (hn : 1 ≤ n ∧ n ≤ 8 ∧ 0 ≤ t.hd ∧ t.hd + n ≤ s.p) (htn : t.n = n) (a0 : t.hd ≤ t.at') (a1 : t.at' < t.hd + n) (lo : Lo s ws0 ws t.hd) (no : No s ws0 n t.hd)
    (h : Hs s ws0 c ws t.hd (t.at' + 1)) (u : Hi s ws0 ws (t.at' + 1)) : Go' s ws0 c n ws t.own := by
  unfold Rn.own
  split
  · rename_i h1
    rw [htn] at h1
    exact written_ok (t := { t with at' := t.at' + 1, nx := 5, i := t.hd }) hd rfl hn htn h1 (Int.le_refl _) (by show t.hd < t.hd + n; omega) lo no (h t.hd (Int.le_refl _) (by omega)) (fun q q0 q1 => by have q0 : t.hd < q := q0; have q1 : q < t.hd + 1 := q1; omega)
      (fun q q0 q1 => h q (by have q0 : t.hd + 1 ≤ q := q0; omega) q1) u
  · exact ⟨fun _ => ⟨lo, no⟩, .look hd rfl h u⟩
theorem gone_ok (hd : t.dn = false) (hf : t.fd = false) (hx : t.nx = 4) (hs : t.s = s) (hn : 1 ≤ n ∧ n ≤ 8 ∧ 0 ≤ t.hd ∧ t.hd + n ≤ s.p) (htn : t.n = n) (a0 : t.hd ≤ t.at') (a1 : t.at' < t.hd + n) (lo : Lo s ws0 ws t.hd) (no : No s ws0 n t.hd)
    (h : Hs s ws0 c ws t.hd t.i) (e : ∀ q, t.i ≤ q → q < t.at' → Em s ws0 ws q) (u : Hi s ws0 ws t.at') (f : ¬ Free s ws0 t.at') : Go' s ws0 c n ws t.gone := by
  unfold Rn.gone
  split
  · exact ⟨fun _ => ⟨lo, no⟩, .back hd hx h e u f⟩
  · rename_i h1
    have lo' : Lo s ws0 ws (t.at' + 1) := fun q q0 q1 => by
      by_cases g : q < t.hd
      · exact lo q q0 g
      · by_cases g2 : q = t.at'
        · exact .inl (u q (by omega) (by omega))
        · exact .inr (e q (by omega) (by omega))
    have no' : No s ws0 n (t.at' + 1) := fun h h0 h1 => by
      by_cases g : h < t.hd
      · exact no h h0 g
      · exact ⟨t.at', by omega, by omega, f⟩
    rw [hs, htn]
    cases hz : decide (s.p - n < t.at' + 1)
    · exact ⟨fun _ => ⟨lo', no'⟩, .look rfl rfl (fun q q0 q1 => by have q0 : t.at' + 1 ≤ q := q0; have q1 : q < t.at' + 1 := q1; omega) fun q q0 q1 => u q (by have q0 : t.at' + 1 ≤ q := q0; omega) q1⟩
    · have hz := of_decide_eq_true hz
      refine ⟨fun g => ?_, .lost rfl hf (fun q q0 q1 => ?_) fun h h0 h1 => no' h h0 (by omega)⟩
      · rcases g with g | g
        · have g : t.fd = true := g
          rw [hf] at g; cases g
        · cases g
      · by_cases g : q < t.at' + 1
        · exact lo' q q0 g
        · exact .inl (u q (by omega) q1)
theorem miss_ok (hd : t.dn = false) (hf : t.fd = false) (hs : t.s = s) (hn : 1 ≤ n ∧ n ≤ 8 ∧ 0 ≤ t.hd ∧ t.hd + n ≤ s.p) (htn : t.n = n) (a0 : t.hd ≤ t.at') (a1 : t.at' < t.hd + n) (lo : Lo s ws0 ws t.hd) (no : No s ws0 n t.hd)
    (h : Hs s ws0 c ws t.hd t.at') (u : Hi s ws0 ws t.at') (f : ¬ Free s ws0 t.at') : Go' s ws0 c n ws t.miss :=
  gone_ok (t := { t with nx := 4, i := t.at', gx := t.at' + 1 }) hd hf rfl hs hn htn a0 a1 lo no h (fun q q0 q1 => by have q0 : t.at' ≤ q := q0; have q1 : q < t.at' := q1; omega) u f
structure Al (s : Sh) (ws0 : Nat → Int) (c n : Int) (t : Rn) (w : Wd) : Prop where
  of : w.of s
  ok : may s.p s.c s.m = true
  wf : t.wf ∧ t.s = s ∧ t.c = c ∧ t.n = n
  cb : 0 ≤ c ∧ c < s.c
  snd : Snd s ws0
  mg : ∀ c' j, 0 ≤ c' → c' < s.c → 0 ≤ j → j < s.m → mgAt s w.ws c' j = mgAt s ws0 c' j
  go : Go' s ws0 c n w.ws t
variable {w : Wd}
theorem Al.all (h : Al s ws0 c n t w) : ∀ q, 0 ≤ q → q < s.p → Pq s ws0 c w.ws q t.hd := fun q q0 q1 => by
  have hst := h.go.1
  have hlo : t.fd = true ∨ t.dn = false → q < t.hd → Pq s ws0 c w.ws q t.hd := fun g hq => by
    rcases (hst g).1 q q0 hq with e | e
    · exact .u e
    · exact .e e
  have har := fun hd => (h.wf.1.of hd).2.2
  unfold Rn.Ar at har
  rw [h.wf.2.1, h.wf.2.2.2] at har
  cases h.go.2 with
  | look d x hh u =>
    have := har d
    by_cases g : q < t.hd
    · exact hlo (.inr d) g
    · by_cases g2 : q < t.at'
      · exact .h (hh q (by omega) g2).1 (hh q (by omega) g2).2.1
      · exact .u (u q (by omega) q1)
  | claim d x hh u z =>
    have := har d
    by_cases g : q < t.hd
    · exact hlo (.inr d) g
    · by_cases g2 : q < t.at'
      · exact .h (hh q (by omega) g2).1 (hh q (by omega) g2).2.1
      · exact .u (u q (by omega) q1)
  | strip q' d x hh u e k tr b =>
    have := har d
    by_cases g : q < t.hd
    · exact hlo (.inr d) g
    · by_cases g2 : q < t.at'
      · exact .h (hh q (by omega) g2).1 (hh q (by omega) g2).2.1
      · by_cases g3 : q = t.at'
        · subst g3; exact .t _ tr
        · exact .u (u q (by omega) q1)
  | clear d x hh u l =>
    have := har d
    by_cases g : q < t.hd
    · exact hlo (.inr d) g
    · by_cases g2 : q < t.at'
      · exact .h (hh q (by omega) g2).1 (hh q (by omega) g2).2.1
      · by_cases g3 : q = t.at'
        · subst g3; exact .h l.1 l.2.1
        · exact .u (u q (by omega) q1)
  | back d x hh e u f =>
    have := har d
    by_cases g : q < t.hd
    · exact hlo (.inr d) g
    · by_cases g2 : q < t.i
      · exact .h (hh q (by omega) g2).1 (hh q (by omega) g2).2.1
      · by_cases g3 : q < t.at'
        · exact .e (e q (by omega) g3)
        · exact .u (u q (by omega) q1)
  | body d x a l hh e h' u =>
    have := har d
    by_cases g : q < t.hd
    · exact hlo (.inr d) g
    · by_cases g0 : q = t.hd
      · rw [g0]; exact .h hh.1 hh.2.1
      · by_cases g2 : q < t.i
        · exact .b (e q (by omega) g2) (by omega) (by omega) (by omega) hh.2.1
        · by_cases g3 : q < t.at'
          · exact .h (h' q (by omega) g3).1 (h' q (by omega) g3).2.1
          · exact .u (u q (by omega) q1)
  | won d f nn hh e u =>
    by_cases g : q < t.hd
    · exact hlo (.inl f) g
    · by_cases g0 : q = t.hd
      · rw [g0]; exact .h hh.1 hh.2.1
      · by_cases g2 : q < t.hd + n
        · exact .b (e q (by omega) g2) (by omega) (by omega) (by omega) hh.2.1
        · exact .u (u q (by omega) q1)
  | lost d f a o =>
    rcases a q q0 q1 with e | e
    · exact .u e
    · exact .e e
theorem Al.sound (h : Al s ws0 c n t w) : Snd s w.ws := Pq.snd h.ok h.snd h.cb.1 h.cb.2 h.all h.mg
theorem Lo.tr {hd q0 : Int} (hq : hd ≤ q0) (hp : hd ≤ s.p) (h : Lo s ws0 ws hd) (fr : ∀ q, 0 ≤ q → q < s.p → q ≠ q0 → Sm s ws q ws') : Lo s ws0 ws' hd := fun q a0 a1 =>
  (h q a0 a1).imp (fun e => e.tr (fr q a0 (by omega) (by omega))) fun e => e.tr (fr q a0 (by omega) (by omega))
theorem Hi.tr {a q0 : Int} (hq : q0 < a) (ha : 0 ≤ a) (h : Hi s ws0 ws a) (fr : ∀ q, 0 ≤ q → q < s.p → q ≠ q0 → Sm s ws q ws') : Hi s ws0 ws' a := fun q a0 a1 => (h q a0 a1).tr (fr q (by omega) a1 (by omega))
theorem Hs.tr {a b q0 : Int} (hq : q0 < a ∨ b ≤ q0) (ha : 0 ≤ a) (hb : b ≤ s.p) (h : Hs s ws0 c ws a b) (fr : ∀ q, 0 ≤ q → q < s.p → q ≠ q0 → Sm s ws q ws') : Hs s ws0 c ws' a b := fun q a0 a1 => (h q a0 a1).tr (fr q (by omega) (by omega) (by omega))
theorem Al.step (h : Al s ws0 c n t w) : Al s ws0 c n (t.step w).1 (t.step w).2 := by
  obtain ⟨w1, w2, w3, w4⟩ := h.wf
  have hm := h.ok
  have hc := h.cb
  have hb := (may_iff _ _ _).1 hm
  have hk := Rn.step_k w1 w
  suffices hh : (∀ c' j, 0 ≤ c' → c' < s.c → 0 ≤ j → j < s.m → mgAt s (t.step w).2.ws c' j = mgAt s ws0 c' j) ∧ Go' s ws0 c n (t.step w).2.ws (t.step w).1 from
    ⟨Rn.step_of w1 h.of, hm, ⟨Rn.step_wf w1 w, hk.1.trans w2, hk.2.1.trans w3, hk.2.2.trans w4⟩, hc, h.snd, hh.1, hh.2⟩
  rcases Rn.step_cases w1 w with ⟨-, e⟩ | ⟨hd, hcs⟩
  · rw [e]; exact ⟨h.mg, h.go⟩
  obtain ⟨-, hf, har⟩ := w1.of hd
  have hqq := w1.q hd
  obtain ⟨lo, no⟩ := h.go.1 (.inr hd)
  unfold Rn.Ar at har
  rw [w2, w3, w4] at har
  have hnn : 1 ≤ n ∧ n ≤ 8 ∧ 0 ≤ t.hd ∧ t.hd + n ≤ s.p := by omega
  have hpat : t.pat = page s.p s.c s.m t.at' := by unfold Rn.pat; rw [w2]
  have hgp : w.get t.pat = pgAt s w.ws t.at' := by rw [hpat]; rfl
  have hok : ∀ q, 0 ≤ q → q < s.p → okPg s q (pgAt s ws0 q) = true := fun q q0 q1 => by
    have := (h.snd.pg q.toNat (by omega)).1
    rw [show ((q.toNat : Nat) : Int) = q by omega] at this; exact this
  have hsp : ∀ q, 0 ≤ q → q < s.p → SpB s ws0 q (pgK s q (pgAt s ws0 q)) (pgA s q (pgAt s ws0 q)) := fun q q0 q1 => by
    have := (h.snd.pg q.toNat (by omega)).2
    rw [show ((q.toNat : Nat) : Int) = q by omega] at this; exact this
  rcases hcs with ⟨hx, e⟩ | ⟨hx, e⟩ | ⟨hx, q, hq, hqw, hqd, hqs, hqc, hqp, e⟩ | ⟨hx, e⟩ | ⟨hx, e⟩ | ⟨hx, e⟩
  · -- looks
    clear hqq
    rw [e]
    refine ⟨h.mg, ?_⟩
    show Go' s ws0 c n w.ws (t.look (w.get t.pat))
    cases h.go.2 with
    | look _ _ hh u =>
      have hun := u t.at' (Int.le_refl _) (by omega)
      rw [hgp, hun.1]
      have ho := hok t.at' (by omega) (by omega)
      unfold Rn.look
      split
      · rename_i g
        unfold Rn.isE at g
        rw [w2] at g
        simp only [Bool.and_eq_true, decide_eq_true_eq] at g
        exact ⟨fun _ => ⟨lo, no⟩, .claim hd rfl hh u (is_empty g.1 g.2)⟩
      · rename_i g
        split
        · rename_i g2
          unfold Rn.isS at g2
          rw [w2] at g2
          simp only [Bool.and_eq_true, decide_eq_true_eq] at g2
          have hA := Gv.ok_super g2.1 g2.2
          have hs4 := slots_four hA.1 hA.2.1
          refine ⟨fun _ => ⟨lo, no⟩, .strip _ hd rfl hh (fun q q0 q1 => u q (by have q0 : t.at' + 1 ≤ q := q0; omega) q1) rfl (by show pgA t.s t.at' _ = _; rw [w2]) ⟨hun.1, g2.2, Int.le_refl _, by show 0 ≤ slots (pgA s t.at' (pgAt s ws0 t.at')); omega, fun i i0 i1 => by have i1 : i < 0 := i1; omega, fun i i0 i1 => hun.2 i i0 i1⟩ (fun g => by cases g)⟩
        · rename_i g2
          refine miss_ok hd hf w2 hnn w4 (by omega) (by omega) lo no hh u fun hfr => ?_
          rcases hfr with g3 | ⟨g3, -⟩
          · exact g (by unfold Rn.isE; rw [w2, ho, decide_eq_true g3]; rfl)
          · exact g2 (by unfold Rn.isS; rw [w2, ho, decide_eq_true g3]; rfl)
    | claim _ x => omega
    | strip _ _ x => omega
    | clear _ x => omega
    | back _ x => omega
    | body _ x => omega
    | won d => rw [hd] at d; cases d
    | lost d => rw [hd] at d; cases d
  · -- claims
    clear hqq
    rw [e]
    cases h.go.2 with
    | claim _ _ hh u z =>
      have hun := u t.at' (Int.le_refl _) (by omega)
      have hg0 : w.get t.pat = 0 := by rw [hgp, hun.1, z]
      have hws : (w.swap t.c t.pat 0 (held t.c)).ws = upW w.ws (page s.p s.c s.m t.at') (held c) := by rw [swap_yes hg0, hpat, w3]
      have fr : ∀ q, 0 ≤ q → q < s.p → q ≠ t.at' → Sm s w.ws q (upW w.ws (page s.p s.c s.m t.at') (held c)) := fun q q0 q1 hne => Sm.pg hm (by omega) (by omega) q0 q1 hne
      refine ⟨fun c' j c0 c1 j0 j1 => ?_, ?_⟩
      · show mgAt s (w.swap t.c t.pat 0 (held t.c)).ws c' j = _
        rw [hws, mg_pg hm (by omega) (by omega) c0 j0]; exact h.mg c' j c0 c1 j0 j1
      · show Go' s ws0 c n (w.swap t.c t.pat 0 (held t.c)).ws (t.claim (w.get t.pat))
        unfold Rn.claim
        rw [if_pos hg0, hws]
        refine own_ok hd hnn w4 (by omega) (by omega) (lo.tr (by omega) (by omega) fr) no (fun q q0 q1 => ?_) (fun q q0 q1 => (u q (by omega) q1).tr (fr q (by omega) q1 (by omega)))
        by_cases g : q = t.at'
        · subst g
          refine ⟨.inl (by rw [z, pgK_zero]), by rw [pg_pg hm (by omega) (by omega) (by omega) (by omega), if_pos rfl], fun i i0 i1 => ?_⟩
          rw [sl_pg hm (by omega) (by omega) (by omega) i0, hun.2 i i0 i1]
          have := (hsp t.at' (by omega) (by omega)).emp (by rw [z, pgK_zero]; rfl) (by rw [z, pgK_zero]; rfl) i.toNat (by omega)
          rw [show ((i.toNat : Nat) : Int) = i by omega] at this; exact this
        · exact (hh q q0 (by omega)).tr (fr q (by omega) (by omega) g)
    | look _ x => omega
    | strip _ _ x => omega
    | clear _ x => omega
    | back _ x => omega
    | body _ x => omega
    | won d => rw [hd] at d; cases d
    | lost d => rw [hd] at d; cases d
  · -- strips
    rw [e]
    cases h.go.2 with
    | strip q' _ _ hh u eq k tr b =>
      have hqe : q' = q := by rw [hq] at eq; exact (Option.some.inj eq).symm
      subst hqe
      rw [w2] at hqs
      rw [w3] at hqc
      have hqh : q'.hd = false := by
        obtain ⟨q2, g1, -, -, -, -, -, g2⟩ := hqq hx
        rw [hq] at g1; rw [Option.some.inj g1]; exact g2
      clear hqq
      obtain ⟨t1, t2, t3, t4, t5, t6⟩ := tr
      have hA := Gv.ok_super (pgK_ne (s := s) (x := pgAt s ws0 t.at') (by rw [t2]; decide)) t2
      have hs4 := slots_four hA.1 hA.2.1
      have hsup := (hsp t.at' (by omega) (by omega)).sup (by rw [t2]; rfl)
      obtain ⟨A, hAe⟩ : ∃ A, pgA s t.at' (pgAt s ws0 t.at') = A := ⟨_, rfl⟩
      rw [hAe] at k t4 t5 hA hs4 hsup
      have hat : ∀ j, q'.at' j = slot s.p s.c s.m t.at' j := fun j => by unfold St.at'; rw [hqs, hqp]
      have hqpat : q'.pat = page s.p s.c s.m t.at' := by unfold St.pat; rw [hqs, hqp]
      have frS : ∀ j y, 0 ≤ j → j < 16 → ∀ q, 0 ≤ q → q < s.p → q ≠ t.at' → Sm s w.ws q (upW w.ws (slot s.p s.c s.m t.at' j) y) := fun j y j0 j1 q q0 q1 hne => Sm.sl hm (by omega) (by omega) j0 j1 q0 q1 hne
      have frP : ∀ y, ∀ q, 0 ≤ q → q < s.p → q ≠ t.at' → Sm s w.ws q (upW w.ws (page s.p s.c s.m t.at') y) := fun y q q0 q1 hne => Sm.pg hm (by omega) (by omega) q0 q1 hne
      have mgS : ∀ j y, 0 ≤ j → j < 16 → ∀ c' i, 0 ≤ c' → c' < s.c → 0 ≤ i → i < s.m → mgAt s (upW w.ws (slot s.p s.c s.m t.at' j) y) c' i = mgAt s ws0 c' i := fun j y j0 j1 c' i c0 c1 i0 i1 => (mg_sl hm (by omega) (by omega) j0 j1 c0 i0).trans (h.mg c' i c0 c1 i0 i1)
      rcases St.step_cases q' w with ⟨e1, -⟩ | ⟨-, ⟨hb1, e2⟩ | ⟨hb1, hi, e2⟩ | ⟨hb1, hi, hg, e2⟩ | ⟨hb1, hi, hg, e2⟩⟩
      · rw [hqd] at e1; cases e1
      · -- goes back
        obtain ⟨-, -, -, -, -, -, a7, a8, a9⟩ := hqw.of hqd
        have a9 := a9 hb1
        have hws : (w.store q'.c (q'.at' (q'.i - 1)) (opn q'.k)).ws = upW w.ws (slot s.p s.c s.m t.at' (q'.i - 1)) (opn A) := by rw [store_ws, hat, k]
        rw [e2]
        refine ⟨fun c' j c0 c1 j0 j1 => ?_, ?_⟩
        · show mgAt s (w.store q'.c (q'.at' (q'.i - 1)) (opn q'.k)).ws c' j = _
          rw [hws]; exact mgS _ _ (by omega) (by omega) c' j c0 c1 j0 j1
        show Go' s ws0 c n (w.store q'.c (q'.at' (q'.i - 1)) (opn q'.k)).ws (t.outs { q' with i := q'.i - 1, dn := decide (q'.i - 1 = 0) })
        rw [hws]
        have fr := frS (q'.i - 1) (opn A) (by omega) (by omega)
        have lo2 := lo.tr (q0 := t.at') (by omega) (by omega) fr
        have hh2 := hh.tr (q0 := t.at') (.inr (Int.le_refl _)) (by omega) (by omega) fr
        have u2 := u.tr (q0 := t.at') (by omega) (by omega) fr
        have tr2 : Tr s ws0 c (upW w.ws (slot s.p s.c s.m t.at' (q'.i - 1)) (opn A)) t.at' (q'.i - 1) := by
          refine ⟨(pg_sl hm (by omega) (by omega) (by omega) (by omega) (by omega) (by omega)).trans t1, t2, by omega, by rw [hAe]; omega, fun i i0 i1 => ?_, fun i i0 i1 => ?_⟩
          · rw [sl_sl hm (by omega) (by omega) (by omega) (by omega) (by omega) i0 (by omega), if_neg (by omega), hAe]; exact t5 i i0 (by omega)
          · rw [sl_sl hm (by omega) (by omega) (by omega) (by omega) (by omega) (by omega) i1]
            split
            · rename_i g; rw [g.2]; exact (t5 (q'.i - 1) (by omega) (by omega)).2.symm
            · exact t6 i (by omega) i1
        unfold Rn.outs
        rw [if_neg (by show ¬ q'.hd = true; have := hqh; rw [this]; decide)]
        split
        · rename_i g
          have g : q'.i - 1 = 0 := of_decide_eq_true g
          rw [g] at tr2
          refine miss_ok (t := { t with st := some _ }) hd hf w2 hnn w4 (by show t.hd ≤ t.at'; omega) (by show t.at' < t.hd + n; omega) lo2 no hh2 (fun q q0 q1 => ?_) (b hb1)
          by_cases g2 : q = t.at'
          · subst g2; rw [g]; exact ⟨tr2.1, tr2.2.2.2.2.2⟩
          · exact u2 q (by have q0 : t.at' ≤ q := q0; omega) q1
        · exact ⟨fun _ => ⟨lo2, no⟩, .strip _ hd hx hh2 u2 rfl (by rw [hAe]; exact k) tr2 b⟩
      · -- has it
        have hws : (w.store q'.c q'.pat (held q'.c)).ws = upW w.ws (page s.p s.c s.m t.at') (held c) := by rw [store_ws, hqpat, hqc]
        rw [e2]
        refine ⟨fun c' j c0 c1 j0 j1 => ?_, ?_⟩
        · show mgAt s (w.store q'.c q'.pat (held q'.c)).ws c' j = _
          rw [hws, mg_pg hm (by omega) (by omega) c0 j0]; exact h.mg c' j c0 c1 j0 j1
        show Go' s ws0 c n (w.store q'.c q'.pat (held q'.c)).ws (t.outs { q' with hd := true, dn := true })
        rw [hws]
        have fr := frP (held c)
        have lo2 := lo.tr (q0 := t.at') (by omega) (by omega) fr
        have hh2 := hh.tr (q0 := t.at') (.inr (Int.le_refl _)) (by omega) (by omega) fr
        have u2 := u.tr (q0 := t.at') (by omega) (by omega) fr
        have l4 : Cl s ws0 c (upW w.ws (page s.p s.c s.m t.at') (held c)) t.at' 0 := by
          refine ⟨.inr ⟨t2, fun i i0 i1 => ?_⟩, ?_, fun j j0 j1 => by omega⟩
          · rw [hAe] at i1
            rw [(t5 i i0 (by rw [hi, k]; exact i1)).2]; exact (opn_ne A hA.1 (by omega)).2.1
          · rw [pg_pg hm (by omega) (by omega) (by omega) (by omega), if_pos rfl]
        unfold Rn.outs
        rw [if_pos (by rfl)]
        exact ⟨fun _ => ⟨lo2, no⟩, .clear hd rfl hh2 u2 l4⟩
      · -- one more
        rw [k] at hi
        have a7 : 0 ≤ q'.i := t3
        have hgs : slAt s w.ws t.at' q'.i = opn A := by
          rw [hat, k, slot_at hm (by omega) (by omega) (by omega) (by omega)] at hg; exact hg
        have hws : (w.swap q'.c (q'.at' q'.i) (opn q'.k) (way q'.c)).ws = upW w.ws (slot s.p s.c s.m t.at' q'.i) (way c) := by rw [swap_yes hg, hat, hqc]
        rw [e2]
        refine ⟨fun c' j c0 c1 j0 j1 => ?_, ?_⟩
        · show mgAt s (w.swap q'.c (q'.at' q'.i) (opn q'.k) (way q'.c)).ws c' j = _
          rw [hws]; exact mgS _ _ (by omega) (by omega) c' j c0 c1 j0 j1
        show Go' s ws0 c n (w.swap q'.c (q'.at' q'.i) (opn q'.k) (way q'.c)).ws (t.outs { q' with i := q'.i + 1 })
        rw [hws]
        have fr := frS q'.i (way c) (by omega) (by omega)
        have lo2 := lo.tr (q0 := t.at') (by omega) (by omega) fr
        have hh2 := hh.tr (q0 := t.at') (.inr (Int.le_refl _)) (by omega) (by omega) fr
        have u2 := u.tr (q0 := t.at') (by omega) (by omega) fr
        have tr2 : Tr s ws0 c (upW w.ws (slot s.p s.c s.m t.at' q'.i) (way c)) t.at' (q'.i + 1) := by
          refine ⟨(pg_sl hm (by omega) (by omega) (by omega) (by omega) (by omega) (by omega)).trans t1, t2, by omega, by rw [hAe]; omega, fun i i0 i1 => ?_, fun i i0 i1 => ?_⟩
          · rw [hAe, sl_sl hm (by omega) (by omega) (by omega) (by omega) (by omega) i0 (by omega)]
            by_cases g : i = q'.i
            · subst g
              rw [if_pos ⟨rfl, rfl⟩]
              exact ⟨rfl, (t6 _ (Int.le_refl _) (by omega)).symm.trans hgs⟩
            · rw [if_neg (by omega)]; exact t5 i i0 (by omega)
          · rw [sl_sl hm (by omega) (by omega) (by omega) (by omega) (by omega) (by omega) i1, if_neg (by omega)]; exact t6 i (by omega) i1
        unfold Rn.outs
        rw [if_neg (by show ¬ q'.hd = true; rw [hqh]; decide), if_neg (by show ¬ q'.dn = true; rw [hqd]; decide)]
        exact ⟨fun _ => ⟨lo2, no⟩, .strip _ hd hx hh2 u2 rfl (by rw [hAe]; exact k) tr2 b⟩
      · -- cannot have it
        rw [k] at hi
        have a7 : 0 ≤ q'.i := t3
        have hgs : slAt s w.ws t.at' q'.i ≠ opn A := by
          rw [hat, k, slot_at hm (by omega) (by omega) (by omega) (by omega)] at hg; exact hg
        have hws : (w.swap q'.c (q'.at' q'.i) (opn q'.k) (way q'.c)).ws = w.ws := swap_no hg
        have hnf : ¬ Free s ws0 t.at' := fun hfr => by
          rcases hfr with g | ⟨-, g⟩
          · rw [t2] at g; cases g
          · rw [hAe] at g
            have g1 := g q'.i a7 (by omega)
            have g2 := hsup q'.i.toNat (by omega)
            rw [show ((q'.i.toNat : Nat) : Int) = q'.i by omega] at g2
            unfold slB at g2
            rw [decide_eq_true (by omega : q'.i < slots A), g1] at g2
            have g3 : slA (slAt s ws0 t.at' q'.i) = A := by simpa using g2
            have g4 := is_opn g1
            rw [g3] at g4
            exact hgs ((t6 _ (Int.le_refl _) (by omega)).trans g4)
        rw [e2]
        refine ⟨fun c' j c0 c1 j0 j1 => ?_, ?_⟩
        · show mgAt s (w.swap q'.c (q'.at' q'.i) (opn q'.k) (way q'.c)).ws c' j = _
          rw [hws]; exact h.mg c' j c0 c1 j0 j1
        show Go' s ws0 c n (w.swap q'.c (q'.at' q'.i) (opn q'.k) (way q'.c)).ws (t.outs { q' with bk := true, dn := decide (q'.i = 0) })
        rw [hws]
        have tr2 : Tr s ws0 c w.ws t.at' q'.i := ⟨t1, t2, t3, by rw [hAe]; exact t4, by rw [hAe]; exact t5, t6⟩
        unfold Rn.outs
        rw [if_neg (by show ¬ q'.hd = true; rw [hqh]; decide)]
        split
        · rename_i g
          have g : q'.i = 0 := of_decide_eq_true g
          refine miss_ok (t := { t with st := some _ }) hd hf w2 hnn w4 (by show t.hd ≤ t.at'; omega) (by show t.at' < t.hd + n; omega) lo no hh (fun q q0 q1 => ?_) hnf
          by_cases g2 : q = t.at'
          · subst g2; exact ⟨t1, fun i i0 i1 => t6 i (by omega) i1⟩
          · exact u q (by have q0 : t.at' ≤ q := q0; omega) q1
        · exact ⟨fun _ => ⟨lo, no⟩, .strip _ hd hx hh u rfl (by rw [hAe]; exact k) tr2 fun _ => hnf⟩
    | look _ x => omega
    | claim _ x => omega
    | clear _ x => omega
    | back _ x => omega
    | body _ x => omega
    | won d => rw [hd] at d; cases d
    | lost d => rw [hd] at d; cases d
  · -- clears
    clear hqq
    rw [e]
    cases h.go.2 with
    | clear _ _ hh u l =>
      obtain ⟨l1, l2, l3⟩ := l
      have hi : 0 ≤ t.i ∧ t.i < 16 := by omega
      have hws : (w.store t.c t.sat 0).ws = upW w.ws (slot s.p s.c s.m t.at' t.i) 0 := by rw [store_ws]; unfold Rn.sat; rw [w2]
      have fr : ∀ q, 0 ≤ q → q < s.p → q ≠ t.at' → Sm s w.ws q (upW w.ws (slot s.p s.c s.m t.at' t.i) 0) := fun q q0 q1 hne => Sm.sl hm (by omega) (by omega) hi.1 hi.2 q0 q1 hne
      have lo2 := lo.tr (q0 := t.at') (by omega) (by omega) fr
      have hh2 := hh.tr (q0 := t.at') (.inr (Int.le_refl _)) (by omega) (by omega) fr
      have u2 := u.tr (q0 := t.at') (by omega) (by omega) fr
      have l4 : Cl s ws0 c (upW w.ws (slot s.p s.c s.m t.at' t.i) 0) t.at' (t.i + 1) := by
        refine ⟨l1, (pg_sl hm (by omega) (by omega) hi.1 hi.2 (by omega) (by omega)).trans l2, fun j j0 j1 => ?_⟩
        rw [sl_sl hm (by omega) (by omega) hi.1 hi.2 (by omega) j0 (by omega)]
        split
        · rfl
        · exact l3 j j0 (by omega)
      refine ⟨fun c' j c0 c1 j0 j1 => ?_, ?_⟩
      · show mgAt s (w.store t.c t.sat 0).ws c' j = _
        rw [hws, mg_sl hm (by omega) (by omega) hi.1 hi.2 c0 j0]; exact h.mg c' j c0 c1 j0 j1
      show Go' s ws0 c n (w.store t.c t.sat 0).ws t.clear
      rw [hws]
      unfold Rn.clear
      split
      · rename_i g
        rw [g] at l4
        refine own_ok (t := { t with i := t.i + 1 }) hd hnn w4 (by show t.hd ≤ t.at'; omega) (by show t.at' < t.hd + n; omega) lo2 no (fun q q0 q1 => ?_) u2
        have q1 : q < t.at' + 1 := q1
        by_cases g2 : q = t.at'
        · rw [g2]; exact l4
        · exact hh2 q q0 (by omega)
      · exact ⟨fun _ => ⟨lo2, no⟩, .clear hd hx hh2 u2 l4⟩
    | look _ x => omega
    | claim _ x => omega
    | strip _ _ x => omega
    | back _ x => omega
    | body _ x => omega
    | won d => rw [hd] at d; cases d
    | lost d => rw [hd] at d; cases d
  · -- gives back
    clear hqq
    rw [e]
    cases h.go.2 with
    | back _ _ hh em u f =>
      have hi : t.hd < t.i ∧ t.i ≤ t.at' := by omega
      have hws : (w.store t.c t.bat 0).ws = upW w.ws (page s.p s.c s.m (t.i - 1)) 0 := by rw [store_ws]; unfold Rn.bat; rw [w2]
      have fr : ∀ q, 0 ≤ q → q < s.p → q ≠ t.i - 1 → Sm s w.ws q (upW w.ws (page s.p s.c s.m (t.i - 1)) 0) := fun q q0 q1 hne => Sm.pg hm (by omega) (by omega) q0 q1 hne
      have lo2 := lo.tr (q0 := t.i - 1) (by omega) (by omega) fr
      have u2 := u.tr (q0 := t.i - 1) (by omega) (by omega) fr
      have hone := hh (t.i - 1) (by omega) (by omega)
      refine ⟨fun c' j c0 c1 j0 j1 => ?_, ?_⟩
      · show mgAt s (w.store t.c t.bat 0).ws c' j = _
        rw [hws, mg_pg hm (by omega) (by omega) c0 j0]; exact h.mg c' j c0 c1 j0 j1
      show Go' s ws0 c n (w.store t.c t.bat 0).ws { t with i := t.i - 1 }.gone
      rw [hws]
      refine gone_ok (t := { t with i := t.i - 1 }) hd hf hx w2 hnn w4 (by show t.hd ≤ t.at'; omega) (by show t.at' < t.hd + n; omega) lo2 no (fun q q0 q1 => ?_) (fun q q0 q1 => ?_) u2 f
      · have q1 : q < t.i - 1 := q1
        have q0 : t.hd ≤ q := q0
        exact (hh q q0 (by omega)).tr (fr q (by omega) (by omega) (by omega))
      · have q0 : t.i - 1 ≤ q := q0
        have q1 : q < t.at' := q1
        by_cases g : q = t.i - 1
        · rw [g]
          refine ⟨hone.1, by rw [pg_pg hm (by omega) (by omega) (by omega) (by omega), if_pos rfl], fun i i0 i1 => ?_⟩
          rw [sl_pg hm (by omega) (by omega) (by omega) i0]; exact hone.2.2 i i0 i1
        · exact (em q (by omega) q1).tr (fr q (by omega) (by omega) g)
    | look _ x => omega
    | claim _ x => omega
    | strip _ _ x => omega
    | clear _ x => omega
    | body _ x => omega
    | won d => rw [hd] at d; cases d
    | lost d => rw [hd] at d; cases d
  · -- writes bodies
    clear hqq
    rw [e]
    cases h.go.2 with
    | body _ _ a l hh b hr u =>
      have hi : t.hd < t.i ∧ t.i < t.hd + n := by omega
      have hws : (w.store t.c t.iat (putPg 4 t.hd 0)).ws = upW w.ws (page s.p s.c s.m t.i) (putPg 4 t.hd 0) := by rw [store_ws]; unfold Rn.iat; rw [w2]
      have fr : ∀ q, 0 ≤ q → q < s.p → q ≠ t.i → Sm s w.ws q (upW w.ws (page s.p s.c s.m t.i) (putPg 4 t.hd 0)) := fun q q0 q1 hne => Sm.pg hm (by omega) (by omega) q0 q1 hne
      have lo2 := lo.tr (q0 := t.i) (by omega) (by omega) fr
      have u2 := u.tr (q0 := t.i) (by omega) (by omega) fr
      have hone := hr t.i (Int.le_refl _) (by omega)
      refine ⟨fun c' j c0 c1 j0 j1 => ?_, ?_⟩
      · show mgAt s (w.store t.c t.iat (putPg 4 t.hd 0)).ws c' j = _
        rw [hws, mg_pg hm (by omega) (by omega) c0 j0]; exact h.mg c' j c0 c1 j0 j1
      show Go' s ws0 c n (w.store t.c t.iat (putPg 4 t.hd 0)).ws t.written
      rw [hws]
      refine written_ok hd hx hnn w4 a (by omega) (by omega) lo2 no (hh.tr (fr t.hd (by omega) (by omega) (by omega))) (fun q q0 q1 => ?_) (fun q q0 q1 => (hr q (by omega) q1).tr (fr q (by omega) (by omega) (by omega))) u2
      by_cases g : q = t.i
      · rw [g]
        refine ⟨hone.1, by rw [pg_pg hm (by omega) (by omega) (by omega) (by omega), if_pos rfl], fun i i0 i1 => ?_⟩
        rw [sl_pg hm (by omega) (by omega) (by omega) i0]; exact hone.2.2 i i0 i1
      · exact (b q q0 (by omega)).tr (fr q (by omega) (by omega) g)
    | look _ x => omega
    | claim _ x => omega
    | strip _ _ x => omega
    | clear _ x => omega
    | back _ x => omega
    | won d => rw [hd] at d; cases d
    | lost d => rw [hd] at d; cases d
theorem Al.init (hm : may s.p s.c s.m = true) (ho : w.of s) (c0 : 0 ≤ c) (c1 : c < s.c) (n0 : 1 ≤ n) (n1 : n ≤ 8) (hs : Snd s w.ws) : Al s w.ws c n (Rn.new s c n) w := by
  have hu : ∀ q, Un s w.ws w.ws q := fun q => ⟨rfl, fun i i0 i1 => rfl⟩
  refine ⟨ho, hm, ⟨Rn.new_wf .., rfl, rfl, rfl⟩, ⟨c0, c1⟩, hs, fun _ _ _ _ _ _ => rfl, fun _ => ⟨fun q q0 q1 => .inl (hu q), fun h h0 h1 => ?_⟩, ?_⟩
  · have h1 : h < 0 := h1; omega
  · cases hd : (Rn.new s c n).dn
    · exact .look rfl rfl (fun q q0 q1 => by have q0 : (0 : Int) ≤ q := q0; have q1 : q < 0 := q1; omega) fun q q0 q1 => hu q
    · refine .lost rfl rfl (fun q q0 q1 => .inl (hu q)) fun h h0 h1 => ?_
      have hd' : (!Rn.ok s c n) = true := hd
      unfold Rn.ok at hd'
      rw [status_yes hm c0 c1, decide_eq_true c0, decide_eq_true n0, decide_eq_true n1, decide_eq_true (by omega : n ≤ s.p)] at hd'
      cases hd'
end
end Rw
end Go.Ma
namespace Go.Ma
open Go.Pl
/-- Behind who gave: what was no block's is as it was; new entries name what was. -/
structure Fd (s : Sh) (ws0 ws : Nat → Int) : Prop where
  pg : ∀ q, 0 ≤ q → q < s.p → pgAt s ws q = pgAt s ws0 q ∨ (pgAt s ws q = 0 ∧ (pgK s q (pgAt s ws0 q) = 3 ∨ (pgK s q (pgAt s ws0 q) = 4 ∧ 0 ≤ pgA s q (pgAt s ws0 q) ∧ pgA s q (pgAt s ws0 q) < s.p ∧ pgK s (pgA s q (pgAt s ws0 q)) (pgAt s ws0 (pgA s q (pgAt s ws0 q))) = 3)))
  sl : ∀ q j, 0 ≤ q → q < s.p → 0 ≤ j → j < 16 → slAt s ws q j = slAt s ws0 q j ∨ (slK (slAt s ws0 q j) = 3 ∧ (slK (slAt s ws q j) = 1 ∨ 0 < s.m))
  mg : ∀ c' j, 0 ≤ c' → c' < s.c → 0 ≤ j → j < s.m → mgAt s ws c' j = mgAt s ws0 c' j ∨ ∃ p i, 0 ≤ p ∧ p < s.p ∧ 0 ≤ i ∧ i < 16 ∧ enP s (mgAt s ws c' j) = p ∧ enS s (mgAt s ws c' j) = i ∧ slK (slAt s ws0 p i) = 3
namespace Gv
/-- How far it is. -/
inductive Ga (s : Sh) (ws0 : Nat → Int) (c a : Int) (t : Gv) (w : Wd) : Prop
  | a (hd : t.dn = false) (hn : t.nx = 0) (hw : w.ws = ws0)
  | n (hd : t.dn = true) (hg : t.gv = false) (hw : w.ws = ws0) (hno : ∀ n : Nat, (n : Int) ≤ s.p → ∀ z ∈ blks s ws0 n, z.1 ≠ a)
  | l1 (hd : t.dn = false) (hn : t.nx = 1) (hw : w.ws = ws0) (kK : t.pK = 3) (hk : pgK s t.pg (pgAt s ws0 t.pg) = 3) (hA : pgA s t.pg (pgAt s ws0 t.pg) = t.pA) (hwd : t.wd = pgAt s ws0 t.pg) (ha : t.pg * 64 = a)
  | l2 (hd : t.dn = false) (hn : t.nx = 4) (hg : t.gv = true) (hk : pgK s t.pg (pgAt s ws0 t.pg) = 3) (hA : pgA s t.pg (pgAt s ws0 t.pg) = t.pA) (ha : t.pg * 64 = a) (hx : LX s ws0 t.pg t.pA c t.i w.ws)
  | s1 (hd : t.dn = false) (hn : t.nx = 1) (hw : w.ws = ws0) (kK : t.pK = 2) (hk : pgK s t.pg (pgAt s ws0 t.pg) = 2) (hA : pgA s t.pg (pgAt s ws0 t.pg) = t.pA) (s0 : 0 ≤ t.sl) (s1 : t.sl < slots t.pA) (ha : t.pg * 64 + t.sl * size t.pA = a)
  | s2 (p : Pu) (hd : t.dn = false) (hn : t.nx = 2) (hp : t.put = some p) (hg : t.gv = true) (hk : pgK s t.pg (pgAt s ws0 t.pg) = 2) (hA : pgA s t.pg (pgAt s ws0 t.pg) = t.pA) (s0 : 0 ≤ t.sl) (s1 : t.sl < slots t.pA) (ha : t.pg * 64 + t.sl * size t.pA = a) (ht : slAt s ws0 t.pg t.sl = taken t.pA)
      (hpe : p.ep = t.pg ∧ p.es = t.sl ∧ p.ek = t.pA) (hz : p.hit = true → mgAt s w.ws c p.i = 0) (hx : SX s ws0 t.pg t.sl t.pA c (way c) none w.ws)
  | s3 (hd : t.dn = false) (hn : t.nx = 3) (hg : t.gv = true) (hk : pgK s t.pg (pgAt s ws0 t.pg) = 2) (hA : pgA s t.pg (pgAt s ws0 t.pg) = t.pA) (s0 : 0 ≤ t.sl) (s1 : t.sl < slots t.pA) (ha : t.pg * 64 + t.sl * size t.pA = a) (ht : slAt s ws0 t.pg t.sl = taken t.pA) (hx : SX s ws0 t.pg t.sl t.pA c (way c) none w.ws)
  | e (hd : t.dn = true) (hg : t.gv = true) (hp : t.pg < s.p) (hs : Snd s w.ws) (ho : ∀ n : Nat, t.pg < n → (n : Int) ≤ s.p → Out (blks s ws0 n) (blks s w.ws n) a) (hf : Fd s ws0 w.ws)
structure Al (s : Sh) (ws0 : Nat → Int) (c a : Int) (t : Gv) (w : Wd) : Prop where
  of : w.of s
  ok : may s.p s.c s.m = true
  wf : t.wf ∧ t.s = s ∧ t.c = c ∧ t.a = a
  cb : 0 ≤ c ∧ c < s.c
  pb : t.dn = false → 0 ≤ t.pg ∧ t.pg < s.p
  snd : Snd s ws0
  ph : Ga s ws0 c a t w
variable {s : Sh} {ws0 : Nat → Int} {c a : Int} {t : Gv} {w : Wd}
end Gv
end Go.Ma
namespace Go.Ma
open Go.Pl
/-- One behind the other. -/
def Srt (l : List (Int × Int)) : Prop := l.Pairwise (fun a b => a.1 + a.2 ≤ b.1)
section
variable {s : Sh} {ws ws0 : Nat → Int}
theorem blkSl_srt (p A : Int) (hA : 0 ≤ size A) : ∀ n, Srt (blkSl s ws p A n)
  | 0 => List.Pairwise.nil
  | n + 1 => by
    unfold blkSl Srt
    refine List.pairwise_append.2 ⟨blkSl_srt p A hA n, by split <;> simp, fun a ha b hb => ?_⟩
    split at hb
    · simp only [List.mem_singleton] at hb
      subst hb
      obtain ⟨i, hi, -, rfl⟩ := blkSl_mem.1 ha
      show p * 64 + i * size A + size A ≤ p * 64 + n * size A
      have := Int.mul_le_mul_of_nonneg_right (by omega : (i : Int) + 1 ≤ n) hA
      rw [Int.add_mul] at this; omega
    · cases hb
theorem blkPg_pos {p : Nat} {z : Int × Int} (hm : may s.p s.c s.m = true) (hs : Snd s ws) (p1 : (p : Int) < s.p) (h : z ∈ blkPg s ws p) : 1 ≤ z.2 ∧ z.1 + z.2 ≤ s.p * 64 ∧ (z.1 + z.2 ≤ p * 64 + 64 ∨ ∃ A, z = ((p : Int) * 64, A * 64) ∧ pgK s p (pgAt s ws p) = 3 ∧ pgA s p (pgAt s ws p) = A) := by
  rcases blkPg_mem h with ⟨h3, rfl⟩ | ⟨h2, i, hi, -, rfl⟩
  · have hr := row_bd hm hs (by omega) p1 h3 rfl
    exact ⟨by show 1 ≤ _ * (64 : Int); omega, by show (p : Int) * 64 + _ * 64 ≤ _; omega, .inr ⟨_, rfl, h3, rfl⟩⟩
  · have hAs := Gv.ok_super (pgK_ne (s := s) (q := p) (x := pgAt s ws p) (by rw [h2]; decide)) h2
    have hs4 := slots_four hAs.1 hAs.2.1
    have h5 := Int.mul_le_mul_of_nonneg_right (by omega : (i : Int) + 1 ≤ slots (pgA s p (pgAt s ws p))) (by omega : 0 ≤ size (pgA s p (pgAt s ws p)))
    rw [Int.add_mul] at h5
    exact ⟨by show 1 ≤ size _; omega, by show (p : Int) * 64 + i * size _ + size _ ≤ _; omega, .inl (by show (p : Int) * 64 + i * size _ + size _ ≤ _; omega)⟩
theorem blkPg_srt (p : Int) : Srt (blkPg s ws p) := by
  unfold blkPg
  split
  · exact List.pairwise_singleton _ _
  · split
    · refine blkSl_srt _ _ ?_ _
      unfold size
      repeat' split
      all_goals decide
    · exact List.Pairwise.nil
theorem Snd.srt (hm : may s.p s.c s.m = true) (hs : Snd s ws) : ∀ n : Nat, (n : Int) ≤ s.p → Srt (blks s ws n)
  | 0, _ => List.Pairwise.nil
  | n + 1, hn => by
    unfold blks
    refine List.pairwise_append.2 ⟨Snd.srt hm hs n (by omega), blkPg_srt _, fun a ha b hb => ?_⟩
    obtain ⟨p, hp, hz⟩ := blks_mem.1 ha
    have h1 := blkPg_in hb
    rcases (blkPg_pos hm hs (by omega) hz).2.2 with h | ⟨A, rfl, h3, hA⟩
    · omega
    · show (p : Int) * 64 + A * 64 ≤ b.1
      by_cases e : (p : Int) + A ≤ n
      · omega
      · exfalso
        have hb4 := row_body hm hs (by omega) (by omega) h3 hA (j := (n : Int) - p) (by omega) (by omega)
        rw [show (p : Int) + ((n : Int) - p) = n by omega] at hb4
        rw [blkPg_none (by rw [hb4.1]; decide) (by rw [hb4.1]; decide)] at hb
        cases hb
end
/-- One block alone is gone. -/
def Out2 (l l' : List (Int × Int)) (y : Int × Int) : Prop := ∃ pre post, l = pre ++ [y] ++ post ∧ l' = pre ++ post ∧ (∀ z ∈ pre, z.1 ≠ y.1) ∧ ∀ z ∈ post, z.1 ≠ y.1
theorem Out.two {l l' : List (Int × Int)} {a : Int} {z : Int × Int} (h : Out l l' a) (hz : z ∈ l) (ha : z.1 = a) : Out2 l l' z := by
  obtain ⟨pre, post, y, rfl, rfl, hy, h1, h2⟩ := h
  have e : z = y := by
    simp only [List.mem_append, List.mem_singleton] at hz
    rcases hz with (hz | hz) | hz
    · exact absurd ha (h1 z hz)
    · exact hz
    · exact absurd ha (h2 z hz)
  subst e
  exact ⟨pre, post, rfl, rfl, fun x hx => by rw [ha]; exact h1 x hx, fun x hx => by rw [ha]; exact h2 x hx⟩
section
variable {s : Sh} {ws ws0 : Nat → Int} {c : Int} {b : Bk}
theorem large_ok {q n : Int} (hm : may s.p s.c s.m = true) (q0 : 0 ≤ q) (n1 : 1 ≤ n) (n8 : n ≤ 8) (nq : q + n ≤ s.p) : okPg s q (putPg 3 n 0) = true ∧ pgK s q (putPg 3 n 0) = 3 ∧ pgA s q (putPg 3 n 0) = n := by
  have hb := (may_iff _ _ _).1 hm
  have hv : putPg 3 n 0 = 3 + 16 * n := by unfold putPg; rw [if_pos (by omega)]; omega
  have e1 : (3 + 16 * n) % 16 = 3 := by omega
  have e2 : pt (3 + 16 * n) 16 = n := by unfold pt; omega
  have e3 : pt (3 + 16 * n) 4096 = 0 := by unfold pt; omega
  have hp : 0 ≤ page s.p s.c s.m q := by rw [page_yes hm (by omega) (by omega)]; omega
  have ok : okPg s q (putPg 3 n 0) = true := by
    rw [hv]
    unfold okPg
    rw [e1, e2, e3]
    have g1 : decide (putPg 3 n 0 = 3 + 16 * n) = true := decide_eq_true hv
    have g3 : fits s q 3 n 0 = true := by unfold fits; simp; omega
    rw [g1, g3, decide_eq_true hp]; rfl
  refine ⟨ok, ?_, ?_⟩
  · unfold pgK; rw [if_pos ok, hv, e1]
  · unfold pgA; rw [if_pos ok, hv, e2]
/-- A block that is reserved: it is nobody else's. -/
structure Res (s : Sh) (ws : Nat → Int) (c : Int) (b : Bk) : Prop where
  f : b.Fit s c
  l : b.lg = true → pgAt s ws b.p = held c ∧ Rw.Zs s ws b.p ∧ (∀ q, b.p < q → q < b.p + b.n → pgAt s ws q = putPg 4 b.p 0) ∧ ∀ q, 0 ≤ q → q < s.p → pgK s q (pgAt s ws q) = 4 → pgA s q (pgAt s ws q) = b.p → q < b.p + b.n
  s : b.lg = false → 0 ≤ b.k ∧ b.k ≤ 3 ∧ pgK s b.p (pgAt s ws b.p) = 2 ∧ pgA s b.p (pgAt s ws b.p) = b.k ∧ slAt s ws b.p b.i = way c ∧ ∀ c' j, 0 ≤ c' → c' < s.c → 0 ≤ j → j < s.m → mgAt s ws c' j ≠ 0 → ¬ (enP s (mgAt s ws c' j) = b.p ∧ enS s (mgAt s ws c' j) = b.i)
/-- The words behind its commit. -/
def cmW (s : Sh) (ws : Nat → Int) (b : Bk) : Nat → Int := if b.lg then upW ws (page s.p s.c s.m b.p) (putPg 3 b.n 0) else upW ws (slot s.p s.c s.m b.p b.i) (putSl 3 b.k)
theorem Res.cm_snd (hm : may s.p s.c s.m = true) (hs : Snd s ws) (h : Res s ws c b) : Snd s (cmW s ws b) := by
  have hb := (may_iff _ _ _).1 hm
  have F := h.f
  have p0 := F.p0
  have p1 := F.p1
  unfold cmW
  cases e : b.lg
  · simp only [Bool.false_eq_true, if_false]
    obtain ⟨k0, k1, h1, h2, h3, h4⟩ := h.s e
    have hsl := F.s e
    have hs4 := slots_four k0 k1
    have tn := taken_ne b.k k0 (by omega)
    have i1 : b.i < 16 := by omega
    refine ⟨fun q q1 => ?_, fun c' j h1' h2' hx => ?_, fun c' j c'' j' g1 g2 g3 ha hx hy => ?_⟩
    · obtain ⟨e1, e2⟩ := hs.pg q q1
      rw [pg_sl hm p0 p1 hsl.1 i1 (by omega) q1]
      refine ⟨e1, ⟨fun k j hj => ?_, fun k k' j hj => ?_, fun k k' k4 => ?_, fun k k' k4 k3 j j1 j2 => ?_⟩⟩
      · rw [sl_sl hm p0 p1 hsl.1 i1 (by omega) (by omega) (by omega)]
        by_cases hq : (q : Int) = b.p ∧ (j : Int) = b.i
        · rw [if_pos hq, hq.1, hq.2, h2]
          unfold slB
          rw [decide_eq_true hsl.2]
          show ((((slK (taken b.k) == 1) || (slK (taken b.k) == 3)) && (slA (taken b.k) == b.k)) || ((slK (taken b.k) == 2) && decide (slA (taken b.k) < s.c))) = true
          rw [tn.2.1, tn.2.2]; simp
        · rw [if_neg hq]; exact e2.sup k j hj
      · rw [sl_sl hm p0 p1 hsl.1 i1 (by omega) (by omega) (by omega), if_neg fun hq => by rw [hq.1, h1] at k; cases k]; exact e2.emp k k' j hj
      · have hbo := Ad.ok_body e1 (beq_iff_eq.1 k4)
        rw [pg_sl hm p0 p1 hsl.1 i1 hbo.1 (by omega)]; exact e2.bod k k' k4
      · have hl := large_bd e1 (beq_iff_eq.1 k3)
        rw [pg_sl hm p0 p1 hsl.1 i1 (by omega) (by omega)]; exact e2.lar k k' k4 k3 j j1 j2
    · rw [mg_sl hm p0 p1 hsl.1 i1 (by omega) (by omega)] at hx ⊢
      obtain ⟨e1, e2, e3, e4⟩ := hs.en c' j h1' h2' hx
      have hE := en_bd e1
      refine ⟨e1, by rw [pg_sl hm p0 p1 hsl.1 i1 hE.1 hE.2.1]; exact e2, by rw [pg_sl hm p0 p1 hsl.1 i1 hE.1 hE.2.1]; exact e3, ?_⟩
      rw [sl_sl hm p0 p1 hsl.1 i1 hE.1 hE.2.2.1 hE.2.2.2, if_neg (h4 c' j (by omega) h1' (by omega) h2' hx)]; exact e4
    · have hc' : (c'' : Int) < s.c := by unfold ahead at ha; omega
      rw [mg_sl hm p0 p1 hsl.1 i1 (by omega) (by omega)] at hx hy ⊢
      rw [mg_sl hm p0 p1 hsl.1 i1 (by omega) (by omega)]
      exact hs.dj c' j c'' j' g1 g2 g3 ha hx hy
  · simp only [if_true]
    obtain ⟨h1, h2, h3, h4⟩ := h.l e
    have hl := F.l e
    have ho := held_ok hm p0 p1 F.c0 F.c1
    have lo := large_ok (s := s) (q := b.p) (n := b.n) hm p0 hl.1 hl.2.1 hl.2.2
    have hbo := fun q (q0 : b.p < q) (q1 : q < b.p + b.n) => body_ok (s := s) (q := q) hm p0 q0 (by omega) (by omega)
    refine ⟨fun q q1 => ?_, fun c' j h1' h2' hx => ?_, fun c' j c'' j' g1 g2 g3 ha hx hy => ?_⟩
    · obtain ⟨e1, e2⟩ := hs.pg q q1
      rw [pg_pg hm p0 p1 (by omega) q1]
      by_cases hq : (q : Int) = b.p
      · rw [if_pos hq, hq]
        refine ⟨lo.1, SpB.large (by rw [lo.2.1]; rfl) (fun i hi => ?_) (by rw [lo.2.1]; rfl) fun i i1 i2 => ?_⟩
        · rw [sl_pg hm p0 p1 p0 (by omega)]; exact h2 i (by omega) (by omega)
        · rw [lo.2.2] at i2
          rw [pg_pg hm p0 p1 (by omega) (by omega), if_neg (by omega), h3 (b.p + i) (by omega) (by omega)]
          have := hbo (b.p + i) (by omega) (by omega)
          exact ⟨this.2.1, this.2.2⟩
      · rw [if_neg hq]
        refine ⟨e1, ⟨fun k j hj => ?_, fun k k' j hj => ?_, fun k k' k4 => ?_, fun k k' k4 k3 j j1 j2 => ?_⟩⟩
        · rw [sl_pg hm p0 p1 (by omega) (by omega)]; exact e2.sup k j hj
        · rw [sl_pg hm p0 p1 (by omega) (by omega)]; exact e2.emp k k' j hj
        · have hb' := Ad.ok_body e1 (beq_iff_eq.1 k4)
          rw [pg_pg hm p0 p1 hb'.1 (by omega)]
          by_cases hA : pgA s q (pgAt s ws q) = b.p
          · rw [if_pos hA, hA, lo.2.1, lo.2.2]
            have := h4 q (by omega) q1 (beq_iff_eq.1 k4) hA
            simp; omega
          · rw [if_neg hA]; exact e2.bod k k' k4
        · have hl' := large_bd e1 (beq_iff_eq.1 k3)
          have hr := e2.lar k k' k4 k3 j j1 j2
          rw [pg_pg hm p0 p1 (by omega) (by omega), if_neg fun g => by rw [g, h1, ho.2.1] at hr; exact absurd hr.1 (by decide)]
          exact hr
    · rw [mg_pg hm p0 p1 (by omega) (by omega)] at hx ⊢
      obtain ⟨e1, e2, e3, e4⟩ := hs.en c' j h1' h2' hx
      have hE := en_bd e1
      have hne : enP s (mgAt s ws c' j) ≠ b.p := fun g => by rw [g, h1, ho.2.1] at e2; cases e2
      exact ⟨e1, by rw [pg_pg hm p0 p1 hE.1 hE.2.1, if_neg hne]; exact e2, by rw [pg_pg hm p0 p1 hE.1 hE.2.1, if_neg hne]; exact e3, by rw [sl_pg hm p0 p1 hE.1 hE.2.2.1]; exact e4⟩
    · have hc' : (c'' : Int) < s.c := by unfold ahead at ha; omega
      rw [mg_pg hm p0 p1 (by omega) (by omega)] at hx hy ⊢
      rw [mg_pg hm p0 p1 (by omega) (by omega)]
      exact hs.dj c' j c'' j' g1 g2 g3 ha hx hy
theorem Res.cm_out (hm : may s.p s.c s.m = true) (hs : Snd s ws) (h : Res s ws c b) {n : Nat} (hn : b.p < n) (hn2 : (n : Int) ≤ s.p) : Out2 (blks s (cmW s ws b) n) (blks s ws n) (b.ad, b.len) := by
  have hb := (may_iff _ _ _).1 hm
  have F := h.f
  have p0 := F.p0
  have p1 := F.p1
  obtain ⟨P, hP⟩ : ∃ P : Nat, (P : Int) = b.p := ⟨b.p.toNat, by omega⟩
  unfold cmW Bk.ad Bk.len
  cases e : b.lg
  · simp only [Bool.false_eq_true, if_false]
    obtain ⟨k0, k1, h1, h2, h3, h4⟩ := h.s e
    have hsl := F.s e
    have hs4 := slots_four k0 k1
    have tn := taken_ne b.k k0 (by omega)
    have wn := way_ne c F.c0 (by have := F.c1; omega)
    have i1 : b.i < 16 := by omega
    obtain ⟨j, hj⟩ : ∃ j : Nat, (j : Int) = b.i := ⟨b.i.toNat, by omega⟩
    obtain ⟨W, hW⟩ : ∃ W, upW ws (slot s.p s.c s.m b.p b.i) (putSl 3 b.k) = W := ⟨_, rfl⟩
    have hpg : ∀ q, 0 ≤ q → q < s.p → pgAt s W q = pgAt s ws q := fun q q0 q1 => by rw [← hW]; exact pg_sl hm p0 p1 hsl.1 i1 q0 q1
    have hslo : ∀ q i, 0 ≤ q → q < s.p → 0 ≤ i → i < 16 → ¬ (q = b.p ∧ i = b.i) → slAt s W q i = slAt s ws q i := fun q i q0 q1 i0 i1' hne => by rw [← hW, sl_sl hm p0 p1 hsl.1 i1 q0 i0 i1', if_neg hne]
    have hsat : slAt s W b.p b.i = putSl 3 b.k := by rw [← hW, sl_sl hm p0 p1 hsl.1 i1 p0 hsl.1 i1, if_pos ⟨rfl, rfl⟩]
    rw [hW]
    have ho : Out (blks s W n) (blks s ws n) (b.p * 64 + b.i * size b.k) := by
      refine page_out (p := P) (by omega) (fun q hq hne => (blkPg_congr (by rw [hpg q (by omega) (by omega)]) (fun _ => by rw [hpg q (by omega) (by omega)]) fun _ i hi => by rw [hslo q i (by omega) (by omega) (by omega) (by omega) (by omega)]).symm) ?_
      obtain ⟨R, r1, r2, r3⟩ := blkSl_split (s := s) (ws := W) (p := P) (A := b.k) j (slots b.k).toNat (by omega)
      have e1 : blkPg s ws P = blkSl s ws P b.k (slots b.k).toNat := by unfold blkPg; rw [hP, if_neg (by rw [h1]; decide), if_pos h1, h2]
      have e2 : blkPg s W P = blkSl s W P b.k (slots b.k).toNat := by unfold blkPg; rw [hP, hpg b.p p0 p1, if_neg (by rw [h1]; decide), if_pos h1, h2]
      have r4 := r3 ws (fun i hi hne => by rw [hslo P i (by omega) (by omega) (by omega) (by omega) (by omega)]) (by rw [hP, hj, h3, wn.2.1]; decide)
      rw [hP, hj, hsat, if_pos (show slK (putSl 3 b.k) = 3 from tn.2.1)] at r2
      rw [e1, e2]
      rw [hP] at r1 r4 ⊢
      rw [r2, r4]
      have mono : ∀ u v : Int, u < v → b.p * 64 + u * size b.k ≠ b.p * 64 + v * size b.k := fun u v huv => by
        have := Int.mul_le_mul_of_nonneg_right (by omega : u + 1 ≤ v) (by omega : 0 ≤ size b.k)
        rw [Int.add_mul] at this
        omega
      refine ⟨blkSl s W b.p b.k j, R, _, rfl, rfl, rfl, fun z hz => ?_, fun z hz => ?_⟩
      · obtain ⟨i, hi, -, rfl⟩ := blkSl_mem.1 hz
        exact mono i b.i (by omega)
      · obtain ⟨i, hi, hi2, rfl⟩ := r1 z hz
        exact fun e => mono b.i i (by omega) e.symm
    refine ho.two (blks_mem.2 ⟨P, by omega, ?_⟩) rfl
    unfold blkPg
    rw [hP, hpg b.p p0 p1, if_neg (by rw [h1]; decide), if_pos h1, h2]
    exact blkSl_mem.2 ⟨j, by omega, by rw [hj, hsat]; exact tn.2.1, by rw [hj]⟩
  · simp only [if_true]
    obtain ⟨h1, h2, h3, h4⟩ := h.l e
    have hl := F.l e
    have ho := held_ok hm p0 p1 F.c0 F.c1
    have lo := large_ok (s := s) (q := b.p) (n := b.n) hm p0 hl.1 hl.2.1 hl.2.2
    obtain ⟨W, hW⟩ : ∃ W, upW ws (page s.p s.c s.m b.p) (putPg 3 b.n 0) = W := ⟨_, rfl⟩
    have hpg : ∀ q, 0 ≤ q → q < s.p → pgAt s W q = if q = b.p then putPg 3 b.n 0 else pgAt s ws q := fun q q0 q1 => by rw [← hW]; exact pg_pg hm p0 p1 q0 q1
    have hsl : ∀ q i, 0 ≤ q → q < s.p → 0 ≤ i → slAt s W q i = slAt s ws q i := fun q i q0 q1 i0 => by rw [← hW]; exact sl_pg hm p0 p1 q0 i0
    rw [hW]
    have e1 : blkPg s ws P = [] := blkPg_none (by rw [hP, h1, ho.2.1]; decide) (by rw [hP, h1, ho.2.1]; decide)
    have e2 : blkPg s W P = [(b.p * 64, b.n * 64)] := by unfold blkPg; rw [hP, hpg b.p p0 p1, if_pos rfl, if_pos lo.2.1, lo.2.2]
    have hx : Out (blks s W n) (blks s ws n) (b.p * 64) := by
      refine page_out (p := P) (by omega) (fun q hq hne => (blkPg_congr (by rw [hpg q (by omega) (by omega), if_neg (by omega)]) (fun _ => by rw [hpg q (by omega) (by omega), if_neg (by omega)]) fun _ i hi => by rw [hsl q i (by omega) (by omega) (by omega)]).symm) ?_
      rw [e1, e2]
      exact ⟨[], [], _, rfl, rfl, rfl, by simp, by simp⟩
    exact hx.two (blks_mem.2 ⟨P, by omega, by rw [e2]; simp⟩) rfl
end
end Go.Ma
namespace Go.Ma
open Go.Pl
section
variable {s : Sh} {ws0 ws : Nat → Int} {c k f p q : Int} {b : Bk}
theorem way_not_opn {c : Int} (c0 : 0 ≤ c) (c1 : c ≤ 255) {x : Int} (h : x = putSl 2 c) : slK x = 2 := by
  rw [h]; exact (way_ne c c0 c1).2.1
/-- No entry names a slot of a page that is free. -/
theorem Snd.free_en (hm : may s.p s.c s.m = true) (hs : Snd s ws0) (hf : Rw.Free s ws0 p) {c' j : Nat} (h1 : (c' : Int) < s.c) (h2 : (j : Int) < s.m) (hx : mgAt s ws0 c' j ≠ 0) : enP s (mgAt s ws0 c' j) ≠ p := by
  have hb := (may_iff _ _ _).1 hm
  intro he
  obtain ⟨r1, r2, r3, r4⟩ := hs.en c' j h1 h2 hx
  have hb2 := en_bd r1
  have hS := en_slot r1
  rw [he] at r2 r3 r4
  rcases hf with g | ⟨g, g2⟩
  · rw [r2] at g; cases g
  · have := g2 _ hb2.2.2.1 (by rw [r3]; exact hS)
    rw [way_not_opn (by omega) (by omega) r4] at this; cases this
/-- What a page is, behind who reserved. -/
inductive Gq (s : Sh) (ws0 ws : Nat → Int) (c : Int) (b : Bk) (q : Int) : Prop
  | u (e : Rw.Un s ws0 ws q)
  | e (e : Rw.Em s ws0 ws q)
  | r (l : b.lg = true) (h0 : b.p ≤ q) (h1 : q < b.p + b.n) (f : Rw.Free s ws0 q)
  | s1 (l : b.lg = false) (h : q = b.p) (e : Rw.Un s ws0 ws q) (w : slAt s ws0 q b.i = way c) (k : pgK s q (pgAt s ws0 q) = 2 ∧ pgA s q (pgAt s ws0 q) = b.k)
  | s2 (l : b.lg = false) (h : q = b.p) (p : pgAt s ws q = pgAt s ws0 q) (w : slAt s ws0 q b.i = opn b.k) (o : ∀ i, 0 ≤ i → i < 16 → i ≠ b.i → slAt s ws q i = slAt s ws0 q i) (k : pgK s q (pgAt s ws0 q) = 2 ∧ pgA s q (pgAt s ws0 q) = b.k)
  | s3 (l : b.lg = false) (h : q = b.p) (f : Rw.Free s ws0 q) (o : ∀ i, 0 ≤ i → i < slots b.k → i ≠ b.i → slAt s ws q i = opn b.k)
structure Got (s : Sh) (ws0 ws : Nat → Int) (c : Int) (b : Bk) : Prop where
  res : Res s ws c b
  snd : Snd s ws
  pg : ∀ q, 0 ≤ q → q < s.p → Gq s ws0 ws c b q
  row : b.lg = true → ∀ q, b.p ≤ q → q < b.p + b.n → Rw.Free s ws0 q
structure Lost (s : Sh) (ws0 ws : Nat → Int) : Prop where
  snd : Snd s ws
  pg : ∀ q, 0 ≤ q → q < s.p → Rw.Un s ws0 ws q ∨ Rw.Em s ws0 ws q
theorem un_blk (hq : (0 : Int) ≤ q) {P : Nat} (hP : (P : Int) = q) (h : Rw.Un s ws0 ws q) : blkPg s ws P = blkPg s ws0 P := by
  subst hP
  exact blkPg_congr (by rw [h.1]) (fun _ => by rw [h.1]) fun _ i hi => by rw [h.2 i (by omega) (by omega)]
theorem em_blk {P : Nat} (hP : (P : Int) = q) (h : Rw.Em s ws0 ws q) : blkPg s ws P = blkPg s ws0 P := by
  subst hP
  rw [h.1.none, blkPg_none (by rw [h.2.1, pgK_zero]; decide) (by rw [h.2.1, pgK_zero]; decide)]
theorem Got.blks (hm : may s.p s.c s.m = true) (h : Got s ws0 ws c b) {n : Nat} (hn : (n : Int) ≤ s.p) : Go.Ma.blks s ws n = Go.Ma.blks s ws0 n :=
  blks_congr fun p hp => by
    have hb := (may_iff _ _ _).1 hm
    have F := h.res.f
    have wn := way_ne c F.c0 (by have := F.c1; omega)
    cases h.pg p (by omega) (by omega) with
    | u g => exact un_blk (by omega) rfl g
    | e g => exact em_blk rfl g
    | r l h0 h1 f =>
      have hl := F.l l
      obtain ⟨g1, g2, g3, g4⟩ := h.res.l l
      rw [f.none]
      by_cases e : (p : Int) = b.p
      · have ho := held_ok hm F.p0 F.p1 F.c0 F.c1
        exact blkPg_none (by rw [e, g1, ho.2.1]; decide) (by rw [e, g1, ho.2.1]; decide)
      · have hbo := body_ok (s := s) (q := p) hm F.p0 (by omega) (by omega) (by omega)
        rw [← g3 p (by omega) h1] at hbo
        exact blkPg_none (by rw [hbo.2.1]; decide) (by rw [hbo.2.1]; decide)
    | s1 l e g => exact un_blk (by omega) rfl g
    | s2 l e g w o k =>
      obtain ⟨k0, k1, r1, r2, r3, r4⟩ := h.res.s l
      have on := opn_ne b.k k0 (by omega)
      refine blkPg_congr (by rw [g]) (fun _ => by rw [g]) fun _ i hi => ?_
      by_cases ei : (i : Int) = b.i
      · rw [ei, w, on.2.1, e, r3, wn.2.1]; decide
      · rw [o i (by omega) (by omega) ei]
    | s3 l e f o =>
      obtain ⟨k0, k1, r1, r2, r3, r4⟩ := h.res.s l
      have on := opn_ne b.k k0 (by omega)
      rw [f.none]
      unfold blkPg
      rw [e, if_neg (by rw [r1]; decide), if_pos r1, r2]
      refine List.eq_nil_iff_forall_not_mem.2 fun z hz => ?_
      obtain ⟨i, hi, h3, -⟩ := blkSl_mem.1 hz
      by_cases ei : (i : Int) = b.i
      · rw [ei, r3, wn.2.1] at h3; cases h3
      · rw [← e, o i (by omega) (by omega) ei, on.2.1] at h3; cases h3
end
namespace Sa
section
variable {s : Sh} {ws0 ws : Nat → Int} {c k f p : Int} {t : Sk} {w : Wd}
theorem Off.un (hm : may s.p s.c s.m = true) (p0 : 0 ≤ p) (p1 : p < s.p) (h : Off s ws0 ws p) {q : Int} (q0 : 0 ≤ q) (q1 : q < s.p) (hne : q ≠ p) : Rw.Un s ws0 ws q := by
  have hb := (may_iff _ _ _).1 hm
  refine ⟨?_, fun j j0 j1 => ?_⟩
  · unfold pgAt; rw [page_yes hm q0 q1]; exact h _ (by omega) (by omega)
  · exact h _ (by omega) (by omega)
theorem Off.mg (hm : may s.p s.c s.m = true) (p0 : 0 ≤ p) (p1 : p < s.p) (h : Off s ws0 ws p) {c' j : Int} (a0 : 0 ≤ c') (b0 : 0 ≤ j) : mgAt s ws c' j = mgAt s ws0 c' j := by
  have hb := (may_iff _ _ _).1 hm
  have h5 := Int.mul_nonneg a0 (by omega : 0 ≤ s.m)
  exact h _ (by omega) (by omega)
theorem Al.got (h : Al s ws0 c k f t w) (hd : t.dn = true) (hf : t.fd = true) : Got s ws0 w.ws c ⟨false, t.pg, t.sl, t.k, 0⟩ := by
  have hm := h.ok
  have hb := (may_iff _ _ _).1 hm
  obtain ⟨hc, c0, c1⟩ := h.ec
  obtain ⟨hk, k0, k1⟩ := h.kk
  have hsn := h.snd
  have hsk := slots_four k0 k1
  have wn := way_ne c c0 (by omega)
  have on := opn_ne k k0 (by omega)
  obtain ⟨hS, hE⟩ := h.ends hd
  obtain ⟨p0, p1, s0, s1, e1, e2, e3, e4⟩ := hE hf
  have mk : t.sl < slots k → (∀ c' j, 0 ≤ c' → c' < s.c → 0 ≤ j → j < s.m → mgAt s w.ws c' j ≠ 0 → ¬ (enP s (mgAt s w.ws c' j) = t.pg ∧ enS s (mgAt s w.ws c' j) = t.sl)) → Res s w.ws c ⟨false, t.pg, t.sl, t.k, 0⟩ := fun hl hno =>
    ⟨⟨hm, c0, c1, p0, p1, fun g => (by cases g), fun _ => ⟨s0, by show t.sl < slots t.k; rw [hk]; exact hl⟩⟩, fun g => (by cases g), fun _ => ⟨by show 0 ≤ t.k; omega, by show t.k ≤ 3; omega, e2, e3.trans hk.symm, e4, hno⟩⟩
  cases h.ph with
  | tk m e hd' => rw [hd] at hd'; cases hd'
  | ht m e hd' => rw [hd] at hd'; cases hd'
  | sc m e hd' => rw [hd] at hd'; cases hd'
  | pc m e hd' => rw [hd] at hd'; cases hd'
  | no e hd' => rw [hd] at hd'; cases hd'
  | st m e hd' => rw [hd] at hd'; cases hd'
  | b1 m e hd' => rw [hd] at hd'; cases hd'
  | b2 m e hd' => rw [hd] at hd'; cases hd'
  | n _ hf' hw => rw [hf] at hf'; cases hf'
  | f1 i _ hf' i0 i1 ok kk hp hs hw =>
    have un : ∀ q, 0 ≤ q → q < s.p → Rw.Un s ws0 w.ws q := fun q q0 q1 => by
      rw [hw]; exact ⟨pg_mg hm c0 c1 i0 i1 q0 q1, fun j j0 j1 => sl_mg hm c0 c1 i0 i1 q0 q1 j0 j1⟩
    have hne : mgAt s ws0 c i ≠ 0 := fun g => by rw [g] at ok; cases ok
    refine ⟨mk ?_ fun c' j a0 a1 b0 b1 hx => ?_, hS, fun q q0 q1 => ?_, fun g => (by cases g)⟩
    · have := en_slot ok
      rw [kk] at this; rw [hs]; exact this
    · rw [hw, mg_mg hm c0 c1 i0 i1 a0 b0 b1] at hx ⊢
      by_cases e : c' = c ∧ j = i
      · rw [if_pos e] at hx; exact absurd rfl hx
      · rw [if_neg e] at hx ⊢
        rw [hp, hs]
        obtain ⟨C, rfl⟩ : ∃ C : Nat, c = C := ⟨c.toNat, by omega⟩
        obtain ⟨C', rfl⟩ : ∃ C : Nat, c' = C := ⟨c'.toNat, by omega⟩
        obtain ⟨I, rfl⟩ : ∃ C : Nat, i = C := ⟨i.toNat, by omega⟩
        obtain ⟨J, rfl⟩ : ∃ C : Nat, j = C := ⟨j.toNat, by omega⟩
        by_cases ha : ahead C' J C I
        · exact hsn.dj C I C' J c1 i1 b1 ha hne hx
        · have := hsn.dj C' J C I a1 b1 i1 (by unfold ahead at *; omega) hx hne
          exact fun ⟨g1, g2⟩ => this ⟨g1.symm, g2.symm⟩
    · by_cases e : q = t.pg
      · subst e
        have hu := un _ p0 p1
        exact .s1 rfl rfl hu (by rw [← hu.2 _ s0 s1]; exact e4) (by rw [← hu.1]; exact ⟨e2, e3.trans hk.symm⟩)
      · exact .u (un q q0 q1)
  | f2 _ hf' p0' p1' hh hw =>
    obtain ⟨g1, g2, g3, g4, g5⟩ := hh
    refine ⟨mk g4 fun c' j a0 a1 b0 b1 hx => ?_, hS, fun q q0 q1 => ?_, fun g => (by cases g)⟩
    · rw [hw, mg_sl hm p0 p1 g3 (by omega) a0 b0] at hx ⊢
      obtain ⟨C', rfl⟩ : ∃ C : Nat, c' = C := ⟨c'.toNat, by omega⟩
      obtain ⟨J, rfl⟩ : ∃ C : Nat, j = C := ⟨j.toNat, by omega⟩
      rintro ⟨h1, h2⟩
      have r4 := (hsn.en C' J a1 b1 hx).w
      rw [h1, h2, g5] at r4
      have := way_not_opn (by omega) (by omega) r4
      rw [on.2.1] at this; cases this
    · by_cases e : q = t.pg
      · subst e
        have hpg : pgAt s w.ws t.pg = pgAt s ws0 t.pg := by rw [hw]; exact pg_sl hm p0 p1 g3 (by omega) p0 p1
        refine .s2 rfl rfl hpg (by show slAt s ws0 t.pg t.sl = opn t.k; rw [hk]; exact g5) (fun i i0 i1 hne => ?_) ⟨g1, g2.trans hk.symm⟩
        rw [hw, sl_sl hm p0 p1 g3 (by omega) p0 i0 i1, if_neg fun x => hne x.2]
      · rw [hw]
        exact .u (Rw.Un.tr ⟨rfl, fun _ _ _ => rfl⟩ (Rw.Sm.sl hm p0 p1 g3 (by omega) q0 q1 e))
  | f3 _ hf' p0' p1' og hl of pg sl so sz =>
    obtain ⟨fr, -⟩ := og
    refine ⟨mk (by omega) fun c' j a0 a1 b0 b1 hx => ?_, hS, fun q q0 q1 => ?_, fun g => (by cases g)⟩
    · rw [of.mg hm p0 p1 a0 b0] at hx ⊢
      obtain ⟨C', rfl⟩ : ∃ C : Nat, c' = C := ⟨c'.toNat, by omega⟩
      obtain ⟨J, rfl⟩ : ∃ C : Nat, j = C := ⟨j.toNat, by omega⟩
      exact fun g => hsn.free_en hm fr a1 b1 hx g.1
    · by_cases e : q = t.pg
      · subst e
        refine .s3 rfl rfl fr fun i i0 i1 hne => ?_
        have hne : i ≠ t.sl := hne
        have i1 : i < slots t.k := i1
        show slAt s w.ws t.pg i = opn t.k
        rw [hk] at i1 ⊢
        exact so i (by omega) i1
      · exact .u (of.un hm p0 p1 q0 q1 e)
end
end Sa
namespace Rw
section
variable {s : Sh} {ws0 ws : Nat → Int} {c n : Int} {t : Rn} {w : Wd}
theorem Al.got (h : Al s ws0 c n t w) (hd : t.dn = true) (hf : t.fd = true) : Got s ws0 w.ws c ⟨true, t.hd, 0, 0, t.n⟩ := by
  have hm := h.ok
  have hb := (may_iff _ _ _).1 hm
  obtain ⟨w1, w2, w3, w4⟩ := h.wf
  obtain ⟨hlo, hph⟩ := h.go
  obtain ⟨lo, -⟩ := hlo (.inl hf)
  cases hph with
  | look d => rw [hd] at d; cases d
  | claim d => rw [hd] at d; cases d
  | strip q d => rw [hd] at d; cases d
  | clear d => rw [hd] at d; cases d
  | back d => rw [hd] at d; cases d
  | body d => rw [hd] at d; cases d
  | lost d f => rw [hf] at f; cases f
  | won d f nn hh e u =>
    have nf : ¬ (pgK s t.hd (pgAt s ws0 t.hd) = 1 ∨ pgK s t.hd (pgAt s ws0 t.hd) = 3) := fun g => by
      rcases hh.1 with g1 | ⟨g1, -⟩ <;> rw [g1] at g <;> simp at g
    have hrow : ∀ q, t.hd ≤ q → q < t.hd + t.n → Free s ws0 q := fun q q0 q1 => by
      by_cases g3 : q = t.hd
      · rw [g3]; exact hh.1
      · exact (e q (by omega) (by omega)).1
    refine ⟨⟨⟨hm, h.cb.1, h.cb.2, nn.2.2.1, by show t.hd < s.p; omega, fun _ => ⟨by show 1 ≤ t.n; omega, by show t.n ≤ 8; omega, by show t.hd + t.n ≤ s.p; omega⟩, fun g => (by cases g)⟩, fun _ => ⟨hh.2.1, hh.2.2, fun q q0 q1 => ?_, fun q q0 q1 hk hA => ?_⟩, fun g => (by cases g)⟩, h.sound, fun q q0 q1 => ?_, fun _ q q0 q1 => hrow q q0 q1⟩
    · have q1 : q < t.hd + t.n := q1
      exact (e q q0 (by omega)).2.1
    · have hA : pgA s q (pgAt s w.ws q) = t.hd := hA
      show q < t.hd + t.n
      rw [w4]
      rcases Int.lt_or_le q (t.hd + n) with g | g
      · exact g
      · exfalso
        have hu := u q g q1
        rw [hu.1] at hk hA
        have hp := h.snd.pg q.toNat (by omega)
        rw [show ((q.toNat : Nat) : Int) = q by omega] at hp
        have hbd := hp.2.bod (by rw [hk]; rfl) (by rw [hk]; rfl) (by rw [hk]; rfl)
        rw [hA] at hbd
        refine nf ?_
        simp only [Bool.or_eq_true, Bool.and_eq_true, beq_iff_eq] at hbd
        rcases hbd with g | ⟨g, -⟩
        · exact .inl g
        · exact .inr g
    · by_cases g1 : q < t.hd
      · rcases lo q q0 g1 with g | g
        · exact .u g
        · exact .e g
      · by_cases g2 : q < t.hd + n
        · refine .r rfl (by show t.hd ≤ q; omega) (by show q < t.hd + t.n; omega) ?_
          by_cases g3 : q = t.hd
          · rw [g3]; exact hh.1
          · exact (e q (by omega) g2).1
        · exact .u (u q (by omega) q1)
end
end Rw
namespace Rv
section
variable {s : Sh} {ws0 ws : Nat → Int} {c n f : Int} {v : Rv} {w : Wd}
theorem cls_bd (n : Int) : 0 ≤ cls n ∧ cls n ≤ 3 := by
  unfold cls
  repeat' split
  all_goals omega
theorem pages_bd {n : Int} (h : large n = true) : 1 ≤ pages n ∧ pages n ≤ 8 := by
  have h' := h
  unfold large within at h
  simp at h
  unfold pages; rw [if_pos h']; omega
/-- Alone in a sound heap. -/
inductive Al (s : Sh) (ws0 : Nat → Int) (c n f : Int) : Rv → Wd → Prop
  | sk {t : Sk} {w : Wd} (h1 : small n = true) (h : Sa.Al s ws0 c (cls n) f t w) : Al s ws0 c n f (.sk t) w
  | rn {t : Rn} {w : Wd} (h0 : small n = false) (h1 : large n = true) (h : Rw.Al s ws0 c (pages n) t w) : Al s ws0 c n f (.rn t) w
  | no {w : Wd} (h0 : fine n = false) (h : w.ws = ws0) (snd : Snd s ws0) : Al s ws0 c n f .no w
theorem Al.init (hm : may s.p s.c s.m = true) (ho : w.of s) (c0 : 0 ≤ c) (c1 : c < s.c) (f0 : 0 ≤ f) (f1 : f < s.p) (hs : Snd s w.ws) : Al s w.ws c n f (Rv.new s c n f) w := by
  have hk := cls_bd n
  unfold Rv.new
  cases e1 : small n
  · simp only [Bool.false_eq_true, if_false]
    cases e2 : large n
    · exact .no (by unfold fine; rw [e1, e2]; rfl) rfl hs
    · have hp := pages_bd e2
      exact .rn e1 e2 (Rw.Al.init hm ho c0 c1 hp.1 hp.2 hs)
  · exact .sk e1 (Sa.Al.init hm ho c0 c1 hk.1 hk.2 f0 f1 hs)
theorem Al.step (h : Al s ws0 c n f v w) : Al s ws0 c n f (v.step w).1 (v.step w).2 := by
  cases h with
  | sk h1 h => exact .sk h1 h.step
  | rn h0 h1 h => exact .rn h0 h1 h.step
  | no h0 h hs => exact .no h0 h hs
theorem Al.got (h : Al s ws0 c n f v w) (hd : v.dn = true) (hf : v.fd = true) : Got s ws0 w.ws c v.bk ∧ v.bk.len = len n := by
  cases h with
  | @sk t w h1 h =>
    have hd : t.dn = true := hd
    have hf : t.fd = true := hf
    have e : (Rv.sk t).bk = ⟨false, t.pg, t.sl, t.k, 0⟩ := if_pos hf
    rw [e]
    refine ⟨h.got hd hf, ?_⟩
    show size t.k = _
    rw [h.kk.1]; unfold len; rw [if_pos h1]
  | @rn t w h0 h1 h =>
    have hd : t.dn = true := hd
    have hf : t.fd = true := hf
    have e : (Rv.rn t).bk = ⟨true, t.hd, 0, 0, t.n⟩ := if_pos hf
    rw [e]
    refine ⟨h.got hd hf, ?_⟩
    show t.n * 64 = _
    rw [h.wf.2.2.2]; unfold len; rw [if_neg (by rw [h0]; decide)]
  | no h0 h hs => cases hf
end
end Rv
end Go.Ma
namespace Go.Ma
open Go.Pl

/-- What follows the old block's end. -/
inductive Md where
  | no
  | uo (t : Uo)
  | cm (t : Cm)
structure Re where
  s : Sh
  c : Int
  on : Bool
  rv : Rv
  gv : Gv
  md : Md
  er : Int
  dn : Bool
namespace Re
def fin (t : Re) (e : Int) : Re := { t with er := e, dn := true }
/-- On behind an access. -/
def go (t : Re) : Re := match t.md with
  | .uo u => if u.dn then t.fin 1 else t
  | .cm m => if m.dn then t.fin 0 else t
  | .no => if t.rv.dn then (if t.rv.fd then (if t.gv.dn then (if t.gv.gv then { t with md := .cm (Cm.new t.s t.c t.rv.bk) } else { t with md := .uo (Uo.new t.s t.c t.rv.bk) }) else t) else t.fin 3) else t
def ok (s : Sh) (c a n : Int) : Bool := there s.p s.c s.m a && fine n && decide (0 ≤ status s.p s.c s.m c)
def raw (s : Sh) (c a n f : Int) : Re := ⟨s, c, true, Rv.new s c n f, Gv.new s c a, .no, 0, false⟩
def bad (s : Sh) (c : Int) : Re := ⟨s, c, false, .no, Gv.new s c 0, .no, 1, true⟩
def new (s : Sh) (c a n f : Int) : Re := if ok s c a n then (raw s c a n f).go else bad s c
/-- An access, ahead of what follows. -/
def acc (t : Re) (w : Wd) : Re × Wd :=
  if t.rv.dn then (if t.gv.dn then (match t.md with
    | .uo u => ({ t with md := .uo (u.step w).1 }, (u.step w).2)
    | .cm m => ({ t with md := .cm (m.step w).1 }, (m.step w).2)
    | .no => (t, w)) else ({ t with gv := (t.gv.step w).1 }, (t.gv.step w).2)) else ({ t with rv := (t.rv.step w).1 }, (t.rv.step w).2)
def step (t : Re) (w : Wd) : Re × Wd := if t.dn then (t, w) else ((t.acc w).1.go, (t.acc w).2)
def gave (t : Re) : Bool := t.on && t.gv.gv
def fd (t : Re) : Bool := t.dn && decide (t.er = 0) && t.rv.fd
def bk (t : Re) : Bk := if t.dn && decide (t.er = 0) then t.rv.bk else Bk.zero

/-- It fits. -/
structure wf (t : Re) : Prop where
  of : t.on = false → t.dn = true ∧ t.md = .no ∧ t.er = 1
  rw : t.rv.wf
  ro : t.rv.of t.s t.c
  gw : t.gv.wf
  gs : t.gv.s = t.s ∧ t.gv.c = t.c
  uo : ∀ u, t.md = .uo u → u.wf ∧ u.s = t.s ∧ u.c = t.c ∧ t.rv.dn = true ∧ t.rv.fd = true ∧ t.gv.dn = true ∧ t.gv.gv = false
  cm : ∀ m, t.md = .cm m → m.wf ∧ m.s = t.s ∧ m.c = t.c ∧ t.rv.dn = true ∧ t.rv.fd = true ∧ t.gv.dn = true ∧ t.gv.gv = true
  nx : t.dn = false → t.md = .no → t.rv.dn = true → t.rv.fd = true ∧ t.gv.dn = false
  g0 : t.rv.dn = false → t.gv.gv = false
/-- Behind an access: as it is ahead of what follows. -/
structure wf' (t : Re) : Prop where
  on : t.on = true
  dn : t.dn = false
  rw : t.rv.wf
  ro : t.rv.of t.s t.c
  gw : t.gv.wf
  gs : t.gv.s = t.s ∧ t.gv.c = t.c
  uo : ∀ u, t.md = .uo u → u.wf ∧ u.s = t.s ∧ u.c = t.c ∧ t.rv.dn = true ∧ t.rv.fd = true ∧ t.gv.dn = true ∧ t.gv.gv = false
  cm : ∀ m, t.md = .cm m → m.wf ∧ m.s = t.s ∧ m.c = t.c ∧ t.rv.dn = true ∧ t.rv.fd = true ∧ t.gv.dn = true ∧ t.gv.gv = true
  g0 : t.rv.dn = false → t.gv.gv = false
variable {t : Re} {w : Wd}
theorem _root_.Go.Ma.Cm.step_of {u : Cm} {s : Sh} (h : w.of s) : (u.step w).2.of s := by
  unfold Cm.step
  split
  · exact h
  · split
    · exact Wd.of_store h (U_putPg _ _ _) _ _
    · exact Wd.of_store h (U_putSl _ _) _ _
/-- How many accesses it has left, at most. -/
def left (t : Re) : Int := if t.dn then 0 else match t.md with
  | .no => t.rv.left + t.gv.left + 10
  | .uo u => (if u.dn then 0 else if u.b.lg then u.b.n - u.i else 1) + 1
  | .cm m => (if m.dn then 0 else 1) + 1
def gl (t : Re) : Int := match t.md with
  | .no => max 9 (t.rv.left + t.gv.left + 10)
  | .uo u => if u.dn then 0 else (if u.b.lg then u.b.n - u.i else 1) + 1
  | .cm m => if m.dn then 0 else 2
end Re
end Go.Ma
namespace Go.Ma
open Go.Pl
/-- A page that is not of a block of rows. -/
def Nb (s : Sh) (ws0 : Nat → Int) (q : Int) : Prop := ¬ (okPg s q (pgAt s ws0 q) = true ∧ (pgK s q (pgAt s ws0 q) = 3 ∨ pgK s q (pgAt s ws0 q) = 4))
/-- No block is otherwise. -/
structure Kj (s : Sh) (ws0 ws : Nat → Int) : Prop where
  pg : ∀ q, 0 ≤ q → q < s.p → ¬ Nb s ws0 q → pgAt s ws q = pgAt s ws0 q
  sl : ∀ q i, 0 ≤ q → q < s.p → 0 ≤ i → i < 16 → slAt s ws q i = slAt s ws0 q i ∨ slK (slAt s ws q i) ≠ 3
namespace Kj
variable {s : Sh} {ws0 ws : Nat → Int} {c q i y : Int}
end Kj
section
variable {s : Sh} {ws0 : Nat → Int} {w : Wd}
end
namespace Sk
/-- The pages that it has are of no block. -/
def Nf (s : Sh) (ws0 : Nat → Int) (t : Sk) : Prop := t.dn = false → (∀ m, t.nw = .st m → Nb s ws0 m.p) ∧ (∀ m, t.nw = .bi m → Nb s ws0 m.p) ∧ ∀ m, t.nw = .pc m → m.fd = false
variable {s : Sh} {ws0 : Nat → Int} {w : Wd} {t : Sk}
end Sk
namespace Rn
def top (t : Rn) : Int := if t.dn then (if t.fd then t.hd + t.n else t.hd) else if t.nx ≤ 2 then t.at' else if t.nx = 3 then t.at' + 1 else if t.nx = 4 then t.i else t.hd + t.n
structure Nf (s : Sh) (ws0 : Nat → Int) (t : Rn) : Prop where
  r : ∀ q, t.hd ≤ q → q < t.top → Nb s ws0 q
  a : t.dn = false → t.nx = 2 → Nb s ws0 t.at'
variable {s : Sh} {ws0 : Nat → Int} {w : Wd} {t : Rn}
end Rn
namespace Gv
end Gv
namespace Rv
def Nf (s : Sh) (ws0 : Nat → Int) : Rv → Prop
  | .sk t => t.Nf s ws0
  | .rn t => t.Nf s ws0
  | .no => True
variable {s : Sh} {ws0 : Nat → Int} {w : Wd} {c : Int}
end Rv
namespace Uo
def Nf (s : Sh) (ws0 : Nat → Int) (b : Bk) : Prop := b.lg = true → ∀ q, b.p ≤ q → q < b.p + b.n → Nb s ws0 q
variable {s : Sh} {ws0 : Nat → Int} {w : Wd}
end Uo
namespace Re
/-- As long as it has given nothing, no block is otherwise. -/
def Kp (s : Sh) (ws0 : Nat → Int) (t : Re) (ws : Nat → Int) : Prop := t.gv.gv = true ∨ (Kj s ws0 ws ∧ t.rv.Nf s ws0 ∧ (∀ u, t.md = .uo u → Uo.Nf s ws0 u.b) ∧ ∀ m, t.md ≠ .cm m)
variable {s : Sh} {ws0 ws : Nat → Int} {w : Wd} {t : Re}
end Re
end Go.Ma
namespace Go.Ma
open Go.Pl
section
variable {s : Sh} {ws0 ws1 ws : Nat → Int} {c : Int} {b : Bk}
/-- Behind who undid. -/
structure Und (s : Sh) (ws1 ws : Nat → Int) (b : Bk) : Prop where
  pg : ∀ q, 0 ≤ q → q < s.p → pgAt s ws q = if b.lg = true ∧ b.p ≤ q ∧ q < b.p + b.n then 0 else pgAt s ws1 q
  sl : ∀ q i, 0 ≤ q → q < s.p → 0 ≤ i → i < 16 → slAt s ws q i = if b.lg = false ∧ q = b.p ∧ i = b.i then opn b.k else slAt s ws1 q i
  mg : ∀ c' j, 0 ≤ c' → c' < s.c → 0 ≤ j → j < s.m → mgAt s ws c' j = mgAt s ws1 c' j
end
namespace Uo
/-- Who undoes, alone. -/
inductive Al (s : Sh) (ws1 : Nat → Int) (c : Int) (b : Bk) (t : Uo) (w : Wd) : Prop
  | l (hd : t.dn = false) (l : b.lg = true) (i0 : 0 ≤ t.i) (i1 : t.i < b.n) (pg : ∀ q, 0 ≤ q → q < s.p → pgAt s w.ws q = if b.p < q ∧ q ≤ b.p + t.i then 0 else pgAt s ws1 q)
      (sl : ∀ q i, 0 ≤ q → q < s.p → 0 ≤ i → i < 16 → slAt s w.ws q i = slAt s ws1 q i) (mg : ∀ c' j, 0 ≤ c' → c' < s.c → 0 ≤ j → j < s.m → mgAt s w.ws c' j = mgAt s ws1 c' j)
  | s (hd : t.dn = false) (l : b.lg = false) (hw : w.ws = ws1)
  | e (hd : t.dn = true) (h : Und s ws1 w.ws b)
variable {s : Sh} {ws1 : Nat → Int} {c : Int} {b : Bk} {t : Uo} {w : Wd}
end Uo
/-- Who commits, alone. -/
theorem Cm.one {s : Sh} {c : Int} {b : Bk} {w : Wd} (hr : Res s w.ws c b) : (Cm.new s c b).dn = false ∧ ((Cm.new s c b).step w).1 = { Cm.new s c b with dn := true } ∧ ((Cm.new s c b).step w).2.ws = cmW s w.ws b := by
  have hd : (Cm.new s c b).dn = false := by show (!b.fits s c) = false; rw [Bk.of_fits hr.f]; rfl
  unfold Cm.step cmW
  rw [if_neg (by rw [hd]; decide)]
  cases e : b.lg
  · rw [if_neg (by show ¬ b.lg = true; rw [e]; decide)]
    exact ⟨hd, rfl, rfl⟩
  · rw [if_pos (by show b.lg = true; exact e)]
    exact ⟨hd, rfl, rfl⟩
namespace Re
section
variable {s : Sh} {ws0 : Nat → Int} {c a n f : Int} {t : Re} {w : Wd}
/-- The other one is gone, the new one not yet there. -/
structure Gone (s : Sh) (ws0 : Nat → Int) (c a n : Int) (b : Bk) (ws1 ws : Nat → Int) : Prop where
  got : Got s ws0 ws1 c b
  len : b.len = len n
  snd : Snd s ws
  out : Out (blks s ws1 s.p.toNat) (blks s ws s.p.toNat) a
  fd : Fd s ws1 ws
/-- How far it is. -/
inductive Ph (s : Sh) (ws0 : Nat → Int) (c a n f : Int) (t : Re) (w : Wd) : Prop
  | rv (hm : t.md = .no) (hd : t.dn = false) (rd : t.rv.dn = false) (h : t.rv.Al s ws0 c n f w) (g : t.gv = Gv.new s c a)
  | gv (hm : t.md = .no) (hd : t.dn = false) (rd : t.rv.dn = true) (rf : t.rv.fd = true) (gd : t.gv.dn = false) (ws1 : Nat → Int) (h : Got s ws0 ws1 c t.rv.bk) (hl : t.rv.bk.len = Pl.len n) (hg : t.gv.Al s ws1 c a w)
  | cm (hm : t.md = .cm (Cm.new s c t.rv.bk)) (hd : t.dn = false) (rd : t.rv.dn = true) (rf : t.rv.fd = true) (gd : t.gv.dn = true) (gg : t.gv.gv = true) (ws1 : Nat → Int) (h : Gone s ws0 c a n t.rv.bk ws1 w.ws)
  | uo (u : Uo) (hm : t.md = .uo u) (hd : t.dn = false) (ud : u.dn = false) (rd : t.rv.dn = true) (rf : t.rv.fd = true) (gd : t.gv.dn = true) (gg : t.gv.gv = false) (ws1 : Nat → Int) (h : Got s ws0 ws1 c t.rv.bk) (us : u.s = s ∧ u.b = t.rv.bk) (hu : u.Al s ws1 c t.rv.bk w) (no : ∀ z ∈ blks s ws0 s.p.toNat, z.1 ≠ a)
  | won (hd : t.dn = true) (he : t.er = 0) (rf : t.rv.fd = true) (gg : t.gv.gv = true) (ws1 ws2 : Nat → Int) (h : Gone s ws0 c a n t.rv.bk ws1 ws2) (hw : w.ws = cmW s ws2 t.rv.bk)
  | lost (hd : t.dn = true) (he : t.er = 3) (gg : t.gv.gv = false) (h : Lost s ws0 w.ws) (rf : t.rv.fd = false) (hr : t.rv.Al s ws0 c n f w) (rd : t.rv.dn = true)
  | none (hd : t.dn = true) (he : t.er = 1) (gg : t.gv.gv = false) (ws1 : Nat → Int) (h : Got s ws0 ws1 c t.rv.bk) (hu : Und s ws1 w.ws t.rv.bk) (no : ∀ z ∈ blks s ws0 s.p.toNat, z.1 ≠ a)
structure Al (s : Sh) (ws0 : Nat → Int) (c a n f : Int) (t : Re) (w : Wd) : Prop where
  ok : may s.p s.c s.m = true
  of : w.of s
  wf : t.wf
  es : t.s = s ∧ t.c = c ∧ t.on = true
  cb : 0 ≤ c ∧ c < s.c
  gn : (Gv.new s c a).dn = false
  ph : Ph s ws0 c a n f t w
end
end Re
end Go.Ma
namespace Go.Ma
open Go.Pl
section
variable {s : Sh} {ws ws0 ws1 ws2 : Nat → Int} {c a n f : Int} {b : Bk}
theorem blks_pos (hm : may s.p s.c s.m = true) (hs : Snd s ws) {z : Int × Int} (h : z ∈ blks s ws s.p.toNat) : 0 ≤ z.1 ∧ 1 ≤ z.2 ∧ z.1 + z.2 ≤ s.p * 64 := by
  have hb := (may_iff _ _ _).1 hm
  obtain ⟨p, hp, hz⟩ := blks_mem.1 h
  have h1 := blkPg_in hz
  have h2 := blkPg_pos hm hs (by omega) hz
  exact ⟨by omega, h2.1, h2.2.1⟩
theorem srt_app {pre post : List (Int × Int)} (h : Srt (pre ++ post)) : Srt pre ∧ Srt post ∧ ∀ x ∈ pre, ∀ y ∈ post, x.1 + x.2 ≤ y.1 := List.pairwise_append.1 h
/-- A block more: where it is in the row. -/
structure Put (s : Sh) (A : List (Int × Int)) (y : Int × Int) (pre post : List (Int × Int)) : Prop where
  eq : A = pre ++ post
  b : 0 ≤ y.1 ∧ 1 ≤ y.2 ∧ y.1 + y.2 ≤ s.p * 64
  lo : ∀ b ∈ pre, 0 ≤ b.1 ∧ 1 ≤ b.2 ∧ b.1 + b.2 ≤ y.1
  hi : ∀ b ∈ post, y.1 + y.2 ≤ b.1 ∧ 1 ≤ b.2 ∧ b.1 + b.2 ≤ s.p * 64
theorem Res.put (hm : may s.p s.c s.m = true) (hs : Snd s ws) (h : Res s ws c b) : ∃ pre post, Put s (blks s ws s.p.toNat) (b.ad, b.len) pre post ∧ blks s (cmW s ws b) s.p.toNat = pre ++ (b.ad, b.len) :: post := by
  have hb := (may_iff _ _ _).1 hm
  have F := h.f
  have hp1 := F.p1
  have hc := h.cm_snd hm hs
  obtain ⟨pre, post, e1, e2, -⟩ := h.cm_out hm hs (n := s.p.toNat) (by omega) (by omega)
  have e1 : blks s (cmW s ws b) s.p.toNat = pre ++ (b.ad, b.len) :: post := by rw [e1, List.append_assoc]; rfl
  have hsr := hc.srt hm s.p.toNat (by omega)
  rw [e1] at hsr
  obtain ⟨-, s2, s3⟩ := srt_app hsr
  obtain ⟨s4, -⟩ := List.pairwise_cons.1 s2
  have hpos : ∀ z ∈ pre ++ (b.ad, b.len) :: post, 0 ≤ z.1 ∧ 1 ≤ z.2 ∧ z.1 + z.2 ≤ s.p * 64 := fun z hz => blks_pos hm hc (by rw [e1]; exact hz)
  refine ⟨pre, post, ⟨e2, hpos _ (by simp), fun x hx => ?_, fun x hx => ?_⟩, e1⟩
  · have h1 := hpos x (by simp [hx])
    exact ⟨h1.1, h1.2.1, s3 x hx _ (by simp)⟩
  · have h1 := hpos x (by simp [hx])
    exact ⟨s4 x hx, h1.2⟩
end
namespace Re
section
variable {s : Sh} {ws0 : Nat → Int} {c a n f : Int} {t : Re} {w : Wd}
/-- Well: the old one is gone, the new one there. -/
structure Won (s : Sh) (ws0 : Nat → Int) (c a n : Int) (t : Re) (ws : Nat → Int) : Prop where
  fd : t.fd = true
  er : t.er = 0
  gv : t.gave = true
  fit : t.bk.Fit s c ∧ (t.bk.lg = true → t.bk.i = 0) ∧ (t.bk.lg = false → t.bk.n = 0)
  len : t.bk.len = Pl.len n
  put : ∃ pre post, Put s (blks s ws0 s.p.toNat) (t.bk.ad, t.bk.len) pre post ∧ ∃ pre' z post', pre ++ (t.bk.ad, t.bk.len) :: post = pre' ++ z :: post' ∧ z.1 = a ∧ (∀ x ∈ pre', x.1 ≠ a) ∧ blks s ws s.p.toNat = pre' ++ post'
structure Non (s : Sh) (ws0 : Nat → Int) (t : Re) (ws : Nat → Int) : Prop where
  fd : t.fd = false
  er : t.er ≠ 0
  gv : t.gave = false
  bl : blks s ws s.p.toNat = blks s ws0 s.p.toNat
theorem rvbk (v : Rv) : (v.bk.lg = true → v.bk.i = 0) ∧ (v.bk.lg = false → v.bk.n = 0) := by
  cases v with
  | no => exact ⟨fun _ => rfl, fun _ => rfl⟩
  | sk t => cases hf : t.fd <;> simp [Rv.bk, hf, Bk.zero]
  | rn t => cases hf : t.fd <;> simp [Rv.bk, hf, Bk.zero]
/-- It may be none. -/
structure Any (s : Sh) (ws0 : Nat → Int) (c a n f : Int) (t : Re) (w : Wd) : Prop where
  wf : t.wf
  of : w.of s
  es : t.s = s
  p : Al s ws0 c a n f t w ∨ (t.dn = true ∧ t.er = 1 ∧ t.on = false ∧ w.ws = ws0 ∧ Snd s ws0)
end
end Re
end Go.Ma
namespace Go.Ma
open Go.Pl
/-- What an address is when one holds it. -/
def HoA (s : Sh) (ws : Nat → Int) (ad c : Int) : Prop := (Cn.held s ws (ad / 64) = true ∧ c = Cn.who s ws (ad / 64)) ∨ (pgK s (ad / 64) (pgAt s ws (ad / 64)) = 2 ∧ slK (slAt s ws (ad / 64) (ad % 64 / size (pgA s (ad / 64) (pgAt s ws (ad / 64))))) = 2 ∧ c = slA (slAt s ws (ad / 64) (ad % 64 / size (pgA s (ad / 64) (pgAt s ws (ad / 64))))))
section
variable {s : Sh} {ws ws0 : Nat → Int} {c c' ad n f : Int} {b : Bk} {v : Rv} {w : Wd}
theorem off_slot {A off : Int} (h0 : 0 ≤ A) (h3 : A ≤ 3) (o0 : 0 ≤ off) (o1 : off < 64) : 0 ≤ off / size A ∧ off / size A < slots A := by
  rcases (by omega : A = 0 ∨ A = 1 ∨ A = 2 ∨ A = 3) with h | h | h | h <;> subst h
  · show 0 ≤ off / 4 ∧ off / 4 < 16; omega
  · show 0 ≤ off / 8 ∧ off / 8 < 8; omega
  · show 0 ≤ off / 16 ∧ off / 16 < 4; omega
  · show 0 ≤ off / 32 ∧ off / 32 < 2; omega
theorem not_held (hk : pgK s ad (pgAt s ws ad) = 0 ∨ pgK s ad (pgAt s ws ad) = 2) : Cn.held s ws ad = false := by
  have hat : Cn.at' s ws ad = ad := by unfold Cn.at'; rw [if_neg (by rcases hk with h | h <;> rw [h] <;> decide)]
  unfold Cn.held
  rw [hat]
  rcases hk with h | h <;> rw [h] <;> rfl
/-- Of a page that is free nobody holds anything. -/
theorem Free.nobody (hf : Rw.Free s ws (ad / 64)) (hs : okPg s (ad / 64) (pgAt s ws (ad / 64)) = true) : ¬ HoA s ws ad c := by
  rintro (⟨h, -⟩ | ⟨h2, h3, -⟩)
  · rw [not_held (hf.imp id fun x => x.1)] at h; cases h
  · rcases hf with h | ⟨h, g⟩
    · rw [h2] at h; cases h
    · have hA := Gv.ok_super hs h
      have ho := off_slot hA.1 hA.2.1 (by omega : 0 ≤ ad % 64) (by omega)
      have := g _ ho.1 ho.2
      rw [h3] at this; cases this
theorem Got.holder (hm : may s.p s.c s.m = true) (hs0 : Snd s ws0) (h : Got s ws0 ws c b) (a0 : b.ad ≤ ad) (a1 : ad < b.ad + b.len) (hh : HoA s ws0 ad c') : c' = c := by
  have hb := (may_iff _ _ _).1 hm
  have F := h.res.f
  have p0 := F.p0
  have p1 := F.p1
  have hok : ∀ q, 0 ≤ q → q < s.p → okPg s q (pgAt s ws0 q) = true := fun q q0 q1 => by
    have := (hs0.pg q.toNat (by omega)).1
    rw [show ((q.toNat : Nat) : Int) = q by omega] at this; exact this
  unfold Bk.ad at a0 a1
  unfold Bk.len at a1
  cases l : b.lg
  · rw [l] at a0 a1
    simp only [Bool.false_eq_true, if_false] at a0 a1
    obtain ⟨k0, k1, r1, r2, r3, r4⟩ := h.res.s l
    have hsl := F.s l
    have hs4 := slots_four k0 k1
    have h1 := Int.mul_nonneg hsl.1 (by omega : 0 ≤ size b.k)
    have h2 := Int.mul_le_mul_of_nonneg_right (by omega : b.i + 1 ≤ slots b.k) (by omega : 0 ≤ size b.k)
    rw [Int.add_mul] at h2
    have hq : ad / 64 = b.p := by omega
    have hoff : ad % 64 = ad - b.p * 64 := by omega
    have hi : ad % 64 / size b.k = b.i := by
      rw [hoff]
      rcases (by omega : b.k = 0 ∨ b.k = 1 ∨ b.k = 2 ∨ b.k = 3) with e | e | e | e
      · have e2 : size b.k = 4 := by rw [e]; rfl
        rw [e2] at a0 a1 ⊢; omega
      · have e2 : size b.k = 8 := by rw [e]; rfl
        rw [e2] at a0 a1 ⊢; omega
      · have e2 : size b.k = 16 := by rw [e]; rfl
        rw [e2] at a0 a1 ⊢; omega
      · have e2 : size b.k = 32 := by rw [e]; rfl
        rw [e2] at a0 a1 ⊢; omega
    have wn := way_ne c F.c0 (by have := F.c1; omega)
    have un : pgAt s ws0 b.p = pgAt s ws b.p → slAt s ws0 b.p b.i = way c → c' = c := fun e1 e2 => by
      rcases hh with ⟨g, -⟩ | ⟨-, -, g⟩
      · rw [hq, not_held (.inr (by rw [e1]; exact r1))] at g; cases g
      · rw [hq, e1, r2, hi, e2, wn.2.2] at g; exact g
    cases h.pg b.p p0 p1 with
    | u g => exact un g.1.symm (by rw [← g.2 b.i hsl.1 (by omega)]; exact r3)
    | e g => rw [g.2.1, pgK_zero] at r1; cases r1
    | r l' => rw [l] at l'; cases l'
    | s1 _ _ g w => exact un g.1.symm w
    | s2 _ _ g w =>
      have on := opn_ne b.k k0 (by omega)
      rcases hh with ⟨g', -⟩ | ⟨-, g', -⟩
      · rw [hq, not_held (.inr (by rw [← g]; exact r1))] at g'; cases g'
      · rw [hq, ← g, r2, hi, w, on.2.1] at g'; cases g'
    | s3 _ _ fr => exact absurd hh (Free.nobody (by rw [hq]; exact fr) (by rw [hq]; exact hok _ p0 p1))
  · rw [l] at a0 a1
    simp only [if_true] at a0 a1
    have hl := F.l l
    have fr := h.row l (ad / 64) (by omega) (by omega)
    exact absurd hh (Free.nobody fr (hok _ (by omega) (by omega)))
theorem Rv.Al.fine (h : v.Al s ws0 c n f w) (hf : v.fd = true) : Pl.fine n = true := by
  cases h with
  | sk h1 h => unfold Pl.fine; rw [h1]; rfl
  | rn h0 h1 h => unfold Pl.fine; rw [h1]; simp
  | no => cases hf
end
end Go.Ma
