/-
What is taken out of a sound heap: a block that is given, a row of pages that is claimed. Conditions: none.
Who gives, alone in a sound heap: each step keeps it sound; what is given, and what not. Conditions: none.
One alone in a sound heap, plain: its blocks, one behind the other; a block that is reserved, and its commit. Conditions: none.
One that reserves, alone in a sound heap, plain: all is sound at each step; what it has at the end, what each page is then. Conditions: none.
One that undoes, one that renews, alone in a sound heap, plain: how far it is, what there is at the end. Conditions: none.
Rows of blocks, one behind the other, plain: what is in them says which they are; a renewal's end in a sound heap. Conditions: none.
Many that reserve, and commit, plain: what each has, which blocks there are. Conditions: none.
Many that reserve, and commit, plain: the blocks at the end. Conditions: none.
Counting below a bound, plain. Conditions: none.
Many that seek at the same time, from a blank heap: as many have a slot as there are pages, or all. Conditions: none.
Many that reserve in a heap of eight pages, plain: one of them finds what it looks for. Conditions: none.
Many that reserve, and commit, plain: taking turns, and what is left. Conditions: none.
-/
import Derived.Test.YtfdhilnaagpecaaGreatMaSeekMore
import Derived.Test.YtfdhilnaagpecaaGreatMaRun
import Derived.Test.YtfdhilnaagpecaaGreatMaTake
import Derived.Test.YtfdhilnaagpecaaGreatMaKx
import Derived.Test.YtfdhilnaagpecaaGreatMaOw
set_option linter.unusedVariables false
set_option linter.unusedSectionVars false
set_option linter.unusedSimpArgs false
namespace Go.Ma
open Go.Pl
section
variable {s : Sh} {ws0 ws : Nat → Int} {pg A i c sl x : Int}
/-- Pages in a row: the head is held, so many bodies are empty; or all is. -/
structure LX (s : Sh) (ws0 : Nat → Int) (pg A c i : Int) (ws : Nat → Int) : Prop where
  hd : pgAt s ws pg = held c ∨ (pgAt s ws pg = 0 ∧ i = A - 1)
  em : ∀ j, 1 ≤ j → j ≤ i → pgAt s ws (pg + j) = 0
  ot : ∀ q, 0 ≤ q → q < s.p → q ≠ pg → ¬ (pg < q ∧ q ≤ pg + i) → pgAt s ws q = pgAt s ws0 q
  sl : ∀ q j, 0 ≤ q → q < s.p → 0 ≤ j → j < 16 → slAt s ws q j = slAt s ws0 q j
  mg : ∀ c' j, 0 ≤ c' → c' < s.c → 0 ≤ j → j < s.m → mgAt s ws c' j = mgAt s ws0 c' j
section
variable (hm : may s.p s.c s.m = true) (hsn : Snd s ws0) (p0 : 0 ≤ pg) (p1 : pg < s.p) (hk : pgK s pg (pgAt s ws0 pg) = 3) (hA : pgA s pg (pgAt s ws0 pg) = A) (c0 : 0 ≤ c) (c1 : c < s.c) (i0 : 0 ≤ i) (i1 : i < A)
include hm hsn p0 p1 hk hA
theorem row_body {j : Int} (j0 : 1 ≤ j) (j1 : j < A) : pgK s (pg + j) (pgAt s ws0 (pg + j)) = 4 ∧ pgA s (pg + j) (pgAt s ws0 (pg + j)) = pg := by
  obtain ⟨e1, e2⟩ := hsn.pg pg.toNat (by omega)
  rw [show ((pg.toNat : Nat) : Int) = pg by omega] at e1 e2
  exact e2.lar (by rw [hk]; rfl) (by rw [hk]; rfl) (by rw [hk]; rfl) (by rw [hk]; rfl) j j0 (by rw [hA]; exact j1)
theorem row_bd : 1 ≤ A ∧ A ≤ 8 ∧ pg + A ≤ s.p := by
  rw [← hA]; exact large_bd (pgK_ne (by rw [hk]; decide)) hk
include c0 c1 i0 i1
end
/-- A slot that was taken is another one's way, or open; in the first case an entry may say so. -/
structure SX (s : Sh) (ws0 : Nat → Int) (pg sl A c x : Int) (e : Option Int) (ws : Nat → Int) : Prop where
  xx : x = way c ∨ (x = opn A ∧ e = none)
  at' : slAt s ws pg sl = x
  pg' : ∀ q, 0 ≤ q → q < s.p → pgAt s ws q = pgAt s ws0 q
  sl' : ∀ q j, 0 ≤ q → q < s.p → 0 ≤ j → j < 16 → ¬ (q = pg ∧ j = sl) → slAt s ws q j = slAt s ws0 q j
  mg : ∀ c' j, 0 ≤ c' → c' < s.c → 0 ≤ j → j < s.m → mgAt s ws c' j = mgAt s ws0 c' j ∨ (c' = c ∧ e = some j ∧ mgAt s ws c' j = putEn pg sl A ∧ mgAt s ws0 c' j = 0)
end
end Go.Ma
namespace Go.Ma
open Go.Pl
section
variable {s : Sh} {ws ws' : Nat → Int}
theorem blkPg_mem {p : Nat} {y : Int × Int} (h : y ∈ blkPg s ws p) : (pgK s p (pgAt s ws p) = 3 ∧ y = ((p : Int) * 64, pgA s p (pgAt s ws p) * 64)) ∨ (pgK s p (pgAt s ws p) = 2 ∧ ∃ i : Nat, (i : Int) < slots (pgA s p (pgAt s ws p)) ∧ slK (slAt s ws p i) = 3 ∧ y = ((p : Int) * 64 + i * size (pgA s p (pgAt s ws p)), size (pgA s p (pgAt s ws p)))) := by
  unfold blkPg at h
  split at h
  · rename_i h3; exact .inl ⟨h3, by simpa using h⟩
  · split at h
    · rename_i h2
      obtain ⟨i, h4, h5, h6⟩ := blkSl_mem.1 h
      exact .inr ⟨h2, i, by omega, h5, h6⟩
    · cases h
theorem blkPg_in {p : Nat} {y : Int × Int} (h : y ∈ blkPg s ws p) : (p : Int) * 64 ≤ y.1 ∧ y.1 < (p : Int) * 64 + 64 := by
  rcases blkPg_mem h with ⟨-, rfl⟩ | ⟨h2, i, h3, -, rfl⟩
  · show (p : Int) * 64 ≤ (p : Int) * 64 ∧ (p : Int) * 64 < (p : Int) * 64 + 64; omega
  · have hA := Gv.ok_super (pgK_ne (s := s) (q := p) (x := pgAt s ws p) (by rw [h2]; decide)) h2
    have hs := slots_four hA.1 hA.2.1
    show (p : Int) * 64 ≤ (p : Int) * 64 + i * size _ ∧ (p : Int) * 64 + i * size _ < (p : Int) * 64 + 64
    have h4 := Int.mul_le_mul_of_nonneg_right (by omega : (i : Int) + 1 ≤ slots (pgA s p (pgAt s ws p))) (by omega : 0 ≤ size (pgA s p (pgAt s ws p)))
    rw [Int.add_mul] at h4
    have h5 := Int.mul_nonneg (by omega : 0 ≤ (i : Int)) (by omega : 0 ≤ size (pgA s p (pgAt s ws p)))
    omega
theorem blks_mem {y : Int × Int} : ∀ {n : Nat}, y ∈ blks s ws n ↔ ∃ p : Nat, p < n ∧ y ∈ blkPg s ws p
  | 0 => by simp [blks]
  | n + 1 => by
    unfold blks
    rw [List.mem_append, blks_mem (n := n)]
    constructor
    · rintro (⟨p, h1, h2⟩ | h)
      · exact ⟨p, by omega, h2⟩
      · exact ⟨n, by omega, h⟩
    · rintro ⟨p, h1, h2⟩
      by_cases e : p = n
      · subst e; exact .inr h2
      · exact .inl ⟨p, by omega, h2⟩
/-- One block alone is gone. -/
def Out (l l' : List (Int × Int)) (a : Int) : Prop := ∃ pre post y, l = pre ++ [y] ++ post ∧ l' = pre ++ post ∧ y.1 = a ∧ (∀ z ∈ pre, z.1 ≠ a) ∧ ∀ z ∈ post, z.1 ≠ a
end
section
variable {s : Sh} {ws0 ws : Nat → Int} {pg A i c sl x : Int}
end
end Go.Ma
namespace Go.Ma
open Go.Pl
namespace Rw
section
variable (s : Sh) (ws0 : Nat → Int) (c n : Int) (ws : Nat → Int)
def Lo (hd : Int) : Prop := ∀ q, 0 ≤ q → q < hd → Un s ws0 ws q ∨ Em s ws0 ws q
def Hi (a : Int) : Prop := ∀ q, a ≤ q → q < s.p → Un s ws0 ws q
def No (hd : Int) : Prop := ∀ h, 0 ≤ h → h < hd → ∃ q, h ≤ q ∧ q < h + n ∧ ¬ Free s ws0 q
def Hs (a b : Int) : Prop := ∀ q, a ≤ q → q < b → Hl s ws0 c ws q
inductive Ph (hd at' i nx : Int) (st : Option St) (fd dn : Bool) : Prop
  | look (d : dn = false) (x : nx = 0) (h : Hs s ws0 c ws hd at') (u : Hi s ws0 ws at')
  | claim (d : dn = false) (x : nx = 1) (h : Hs s ws0 c ws hd at') (u : Hi s ws0 ws at') (z : pgAt s ws0 at' = 0)
  | strip (q : St) (d : dn = false) (x : nx = 2) (h : Hs s ws0 c ws hd at') (u : Hi s ws0 ws (at' + 1)) (e : st = some q) (k : q.k = pgA s at' (pgAt s ws0 at')) (t : Tr s ws0 c ws at' q.i) (b : q.bk = true → ¬ Free s ws0 at')
  | clear (d : dn = false) (x : nx = 3) (h : Hs s ws0 c ws hd at') (u : Hi s ws0 ws (at' + 1)) (l : Cl s ws0 c ws at' i)
  | back (d : dn = false) (x : nx = 4) (h : Hs s ws0 c ws hd i) (e : ∀ q, i ≤ q → q < at' → Em s ws0 ws q) (u : Hi s ws0 ws at') (f : ¬ Free s ws0 at')
  | body (d : dn = false) (x : nx = 5) (a : at' = hd + n) (l : hd < i) (hh : Hl s ws0 c ws hd) (e : ∀ q, hd < q → q < i → Bo s ws0 ws q hd) (h : Hs s ws0 c ws i at') (u : Hi s ws0 ws at')
  | won (d : dn = true) (f : fd = true) (nn : 1 ≤ n ∧ n ≤ 8 ∧ 0 ≤ hd ∧ hd + n ≤ s.p) (hh : Hl s ws0 c ws hd) (e : ∀ q, hd < q → q < hd + n → Bo s ws0 ws q hd) (u : Hi s ws0 ws (hd + n))
  | lost (d : dn = true) (f : fd = false) (a : Lo s ws0 ws s.p) (o : ∀ h, 0 ≤ h → h + n ≤ s.p → ∃ q, h ≤ q ∧ q < h + n ∧ ¬ Free s ws0 q)
/-- How far it is, and what is behind it. -/
def Go' (t : Rn) : Prop := (t.fd = true ∨ t.dn = false → Lo s ws0 ws t.hd ∧ No s ws0 n t.hd) ∧ Ph s ws0 c n ws t.hd t.at' t.i t.nx t.st t.fd t.dn
end
section
variable {s : Sh} {ws0 ws ws' : Nat → Int} {c n : Int} {t : Rn}
structure Al (s : Sh) (ws0 : Nat → Int) (c n : Int) (t : Rn) (w : Wd) : Prop where
  of : w.of s
  ok : may s.p s.c s.m = true
  wf : t.wf ∧ t.s = s ∧ t.c = c ∧ t.n = n
  cb : 0 ≤ c ∧ c < s.c
  snd : Snd s ws0
  mg : ∀ c' j, 0 ≤ c' → c' < s.c → 0 ≤ j → j < s.m → mgAt s w.ws c' j = mgAt s ws0 c' j
  go : Go' s ws0 c n w.ws t
variable {w : Wd}
end
end Rw
end Go.Ma
namespace Go.Ma
open Go.Pl
/-- Behind who gave: what was no block's is as it was; new entries name what was. -/
structure Fd (s : Sh) (ws0 ws : Nat → Int) : Prop where
  pg : ∀ q, 0 ≤ q → q < s.p → pgAt s ws q = pgAt s ws0 q ∨ (pgAt s ws q = 0 ∧ (pgK s q (pgAt s ws0 q) = 3 ∨ (pgK s q (pgAt s ws0 q) = 4 ∧ 0 ≤ pgA s q (pgAt s ws0 q) ∧ pgA s q (pgAt s ws0 q) < s.p ∧ pgK s (pgA s q (pgAt s ws0 q)) (pgAt s ws0 (pgA s q (pgAt s ws0 q))) = 3)))
  sl : ∀ q j, 0 ≤ q → q < s.p → 0 ≤ j → j < 16 → slAt s ws q j = slAt s ws0 q j ∨ (slK (slAt s ws0 q j) = 3 ∧ (slK (slAt s ws q j) = 1 ∨ 0 < s.m))
  mg : ∀ c' j, 0 ≤ c' → c' < s.c → 0 ≤ j → j < s.m → mgAt s ws c' j = mgAt s ws0 c' j ∨ ∃ p i, 0 ≤ p ∧ p < s.p ∧ 0 ≤ i ∧ i < 16 ∧ enP s (mgAt s ws c' j) = p ∧ enS s (mgAt s ws c' j) = i ∧ slK (slAt s ws0 p i) = 3
namespace Gv
/-- How far it is. -/
inductive Ga (s : Sh) (ws0 : Nat → Int) (c a : Int) (t : Gv) (w : Wd) : Prop
  | a (hd : t.dn = false) (hn : t.nx = 0) (hw : w.ws = ws0)
  | n (hd : t.dn = true) (hg : t.gv = false) (hw : w.ws = ws0) (hno : ∀ n : Nat, (n : Int) ≤ s.p → ∀ z ∈ blks s ws0 n, z.1 ≠ a)
  | l1 (hd : t.dn = false) (hn : t.nx = 1) (hw : w.ws = ws0) (kK : t.pK = 3) (hk : pgK s t.pg (pgAt s ws0 t.pg) = 3) (hA : pgA s t.pg (pgAt s ws0 t.pg) = t.pA) (hwd : t.wd = pgAt s ws0 t.pg) (ha : t.pg * 64 = a)
  | l2 (hd : t.dn = false) (hn : t.nx = 4) (hg : t.gv = true) (hk : pgK s t.pg (pgAt s ws0 t.pg) = 3) (hA : pgA s t.pg (pgAt s ws0 t.pg) = t.pA) (ha : t.pg * 64 = a) (hx : LX s ws0 t.pg t.pA c t.i w.ws)
  | s1 (hd : t.dn = false) (hn : t.nx = 1) (hw : w.ws = ws0) (kK : t.pK = 2) (hk : pgK s t.pg (pgAt s ws0 t.pg) = 2) (hA : pgA s t.pg (pgAt s ws0 t.pg) = t.pA) (s0 : 0 ≤ t.sl) (s1 : t.sl < slots t.pA) (ha : t.pg * 64 + t.sl * size t.pA = a)
  | s2 (p : Pu) (hd : t.dn = false) (hn : t.nx = 2) (hp : t.put = some p) (hg : t.gv = true) (hk : pgK s t.pg (pgAt s ws0 t.pg) = 2) (hA : pgA s t.pg (pgAt s ws0 t.pg) = t.pA) (s0 : 0 ≤ t.sl) (s1 : t.sl < slots t.pA) (ha : t.pg * 64 + t.sl * size t.pA = a) (ht : slAt s ws0 t.pg t.sl = taken t.pA)
      (hpe : p.ep = t.pg ∧ p.es = t.sl ∧ p.ek = t.pA) (hz : p.hit = true → mgAt s w.ws c p.i = 0) (hx : SX s ws0 t.pg t.sl t.pA c (way c) none w.ws)
  | s3 (hd : t.dn = false) (hn : t.nx = 3) (hg : t.gv = true) (hk : pgK s t.pg (pgAt s ws0 t.pg) = 2) (hA : pgA s t.pg (pgAt s ws0 t.pg) = t.pA) (s0 : 0 ≤ t.sl) (s1 : t.sl < slots t.pA) (ha : t.pg * 64 + t.sl * size t.pA = a) (ht : slAt s ws0 t.pg t.sl = taken t.pA) (hx : SX s ws0 t.pg t.sl t.pA c (way c) none w.ws)
  | e (hd : t.dn = true) (hg : t.gv = true) (hp : t.pg < s.p) (hs : Snd s w.ws) (ho : ∀ n : Nat, t.pg < n → (n : Int) ≤ s.p → Out (blks s ws0 n) (blks s w.ws n) a) (hf : Fd s ws0 w.ws)
structure Al (s : Sh) (ws0 : Nat → Int) (c a : Int) (t : Gv) (w : Wd) : Prop where
  of : w.of s
  ok : may s.p s.c s.m = true
  wf : t.wf ∧ t.s = s ∧ t.c = c ∧ t.a = a
  cb : 0 ≤ c ∧ c < s.c
  pb : t.dn = false → 0 ≤ t.pg ∧ t.pg < s.p
  snd : Snd s ws0
  ph : Ga s ws0 c a t w
variable {s : Sh} {ws0 : Nat → Int} {c a : Int} {t : Gv} {w : Wd}
end Gv
end Go.Ma
namespace Go.Ma
open Go.Pl
/-- One behind the other. -/
def Srt (l : List (Int × Int)) : Prop := l.Pairwise (fun a b => a.1 + a.2 ≤ b.1)
section
variable {s : Sh} {ws ws0 : Nat → Int}
theorem blkSl_srt (p A : Int) (hA : 0 ≤ size A) : ∀ n, Srt (blkSl s ws p A n)
  | 0 => List.Pairwise.nil
  | n + 1 => by
    unfold blkSl Srt
    refine List.pairwise_append.2 ⟨blkSl_srt p A hA n, by split <;> simp, fun a ha b hb => ?_⟩
    split at hb
    · simp only [List.mem_singleton] at hb
      subst hb
      obtain ⟨i, hi, -, rfl⟩ := blkSl_mem.1 ha
      show p * 64 + i * size A + size A ≤ p * 64 + n * size A
      have := Int.mul_le_mul_of_nonneg_right (by omega : (i : Int) + 1 ≤ n) hA
      rw [Int.add_mul] at this; omega
    · cases hb
theorem blkPg_pos {p : Nat} {z : Int × Int} (hm : may s.p s.c s.m = true) (hs : Snd s ws) (p1 : (p : Int) < s.p) (h : z ∈ blkPg s ws p) : 1 ≤ z.2 ∧ z.1 + z.2 ≤ s.p * 64 ∧ (z.1 + z.2 ≤ p * 64 + 64 ∨ ∃ A, z = ((p : Int) * 64, A * 64) ∧ pgK s p (pgAt s ws p) = 3 ∧ pgA s p (pgAt s ws p) = A) := by
  rcases blkPg_mem h with ⟨h3, rfl⟩ | ⟨h2, i, hi, -, rfl⟩
  · have hr := row_bd hm hs (by omega) p1 h3 rfl
    exact ⟨by show 1 ≤ _ * (64 : Int); omega, by show (p : Int) * 64 + _ * 64 ≤ _; omega, .inr ⟨_, rfl, h3, rfl⟩⟩
  · have hAs := Gv.ok_super (pgK_ne (s := s) (q := p) (x := pgAt s ws p) (by rw [h2]; decide)) h2
    have hs4 := slots_four hAs.1 hAs.2.1
    have h5 := Int.mul_le_mul_of_nonneg_right (by omega : (i : Int) + 1 ≤ slots (pgA s p (pgAt s ws p))) (by omega : 0 ≤ size (pgA s p (pgAt s ws p)))
    rw [Int.add_mul] at h5
    exact ⟨by show 1 ≤ size _; omega, by show (p : Int) * 64 + i * size _ + size _ ≤ _; omega, .inl (by show (p : Int) * 64 + i * size _ + size _ ≤ _; omega)⟩
theorem blkPg_srt (p : Int) : Srt (blkPg s ws p) := by
  unfold blkPg
  split
  · exact List.pairwise_singleton _ _
  · split
    · refine blkSl_srt _ _ ?_ _
      unfold size
      repeat' split
      all_goals decide
    · exact List.Pairwise.nil
theorem Snd.srt (hm : may s.p s.c s.m = true) (hs : Snd s ws) : ∀ n : Nat, (n : Int) ≤ s.p → Srt (blks s ws n)
  | 0, _ => List.Pairwise.nil
  | n + 1, hn => by
    unfold blks
    refine List.pairwise_append.2 ⟨Snd.srt hm hs n (by omega), blkPg_srt _, fun a ha b hb => ?_⟩
    obtain ⟨p, hp, hz⟩ := blks_mem.1 ha
    have h1 := blkPg_in hb
    rcases (blkPg_pos hm hs (by omega) hz).2.2 with h | ⟨A, rfl, h3, hA⟩
    · omega
    · show (p : Int) * 64 + A * 64 ≤ b.1
      by_cases e : (p : Int) + A ≤ n
      · omega
      · exfalso
        have hb4 := row_body hm hs (by omega) (by omega) h3 hA (j := (n : Int) - p) (by omega) (by omega)
        rw [show (p : Int) + ((n : Int) - p) = n by omega] at hb4
        rw [blkPg_none (by rw [hb4.1]; decide) (by rw [hb4.1]; decide)] at hb
        cases hb
end
/-- One block alone is gone. -/
def Out2 (l l' : List (Int × Int)) (y : Int × Int) : Prop := ∃ pre post, l = pre ++ [y] ++ post ∧ l' = pre ++ post ∧ (∀ z ∈ pre, z.1 ≠ y.1) ∧ ∀ z ∈ post, z.1 ≠ y.1
section
variable {s : Sh} {ws ws0 : Nat → Int} {c : Int} {b : Bk}
/-- A block that is reserved: it is nobody else's. -/
structure Res (s : Sh) (ws : Nat → Int) (c : Int) (b : Bk) : Prop where
  f : b.Fit s c
  l : b.lg = true → pgAt s ws b.p = held c ∧ Rw.Zs s ws b.p ∧ (∀ q, b.p < q → q < b.p + b.n → pgAt s ws q = putPg 4 b.p 0) ∧ ∀ q, 0 ≤ q → q < s.p → pgK s q (pgAt s ws q) = 4 → pgA s q (pgAt s ws q) = b.p → q < b.p + b.n
  s : b.lg = false → 0 ≤ b.k ∧ b.k ≤ 3 ∧ pgK s b.p (pgAt s ws b.p) = 2 ∧ pgA s b.p (pgAt s ws b.p) = b.k ∧ slAt s ws b.p b.i = way c ∧ ∀ c' j, 0 ≤ c' → c' < s.c → 0 ≤ j → j < s.m → mgAt s ws c' j ≠ 0 → ¬ (enP s (mgAt s ws c' j) = b.p ∧ enS s (mgAt s ws c' j) = b.i)
/-- The words behind its commit. -/
def cmW (s : Sh) (ws : Nat → Int) (b : Bk) : Nat → Int := if b.lg then upW ws (page s.p s.c s.m b.p) (putPg 3 b.n 0) else upW ws (slot s.p s.c s.m b.p b.i) (putSl 3 b.k)
end
end Go.Ma
namespace Go.Ma
open Go.Pl
section
variable {s : Sh} {ws0 ws : Nat → Int} {c k f p q : Int} {b : Bk}
/-- What a page is, behind who reserved. -/
inductive Gq (s : Sh) (ws0 ws : Nat → Int) (c : Int) (b : Bk) (q : Int) : Prop
  | u (e : Rw.Un s ws0 ws q)
  | e (e : Rw.Em s ws0 ws q)
  | r (l : b.lg = true) (h0 : b.p ≤ q) (h1 : q < b.p + b.n) (f : Rw.Free s ws0 q)
  | s1 (l : b.lg = false) (h : q = b.p) (e : Rw.Un s ws0 ws q) (w : slAt s ws0 q b.i = way c) (k : pgK s q (pgAt s ws0 q) = 2 ∧ pgA s q (pgAt s ws0 q) = b.k)
  | s2 (l : b.lg = false) (h : q = b.p) (p : pgAt s ws q = pgAt s ws0 q) (w : slAt s ws0 q b.i = opn b.k) (o : ∀ i, 0 ≤ i → i < 16 → i ≠ b.i → slAt s ws q i = slAt s ws0 q i) (k : pgK s q (pgAt s ws0 q) = 2 ∧ pgA s q (pgAt s ws0 q) = b.k)
  | s3 (l : b.lg = false) (h : q = b.p) (f : Rw.Free s ws0 q) (o : ∀ i, 0 ≤ i → i < slots b.k → i ≠ b.i → slAt s ws q i = opn b.k)
structure Got (s : Sh) (ws0 ws : Nat → Int) (c : Int) (b : Bk) : Prop where
  res : Res s ws c b
  snd : Snd s ws
  pg : ∀ q, 0 ≤ q → q < s.p → Gq s ws0 ws c b q
  row : b.lg = true → ∀ q, b.p ≤ q → q < b.p + b.n → Rw.Free s ws0 q
structure Lost (s : Sh) (ws0 ws : Nat → Int) : Prop where
  snd : Snd s ws
  pg : ∀ q, 0 ≤ q → q < s.p → Rw.Un s ws0 ws q ∨ Rw.Em s ws0 ws q
end
namespace Sa
section
variable {s : Sh} {ws0 ws : Nat → Int} {c k f p : Int} {t : Sk} {w : Wd}
end
end Sa
namespace Rw
section
variable {s : Sh} {ws0 ws : Nat → Int} {c n : Int} {t : Rn} {w : Wd}
end
end Rw
namespace Rv
section
variable {s : Sh} {ws0 ws : Nat → Int} {c n f : Int} {v : Rv} {w : Wd}
theorem cls_bd (n : Int) : 0 ≤ cls n ∧ cls n ≤ 3 := by
  unfold cls
  repeat' split
  all_goals omega
theorem pages_bd {n : Int} (h : large n = true) : 1 ≤ pages n ∧ pages n ≤ 8 := by
  have h' := h
  unfold large within at h
  simp at h
  unfold pages; rw [if_pos h']; omega
/-- Alone in a sound heap. -/
inductive Al (s : Sh) (ws0 : Nat → Int) (c n f : Int) : Rv → Wd → Prop
  | sk {t : Sk} {w : Wd} (h1 : small n = true) (h : Sa.Al s ws0 c (cls n) f t w) : Al s ws0 c n f (.sk t) w
  | rn {t : Rn} {w : Wd} (h0 : small n = false) (h1 : large n = true) (h : Rw.Al s ws0 c (pages n) t w) : Al s ws0 c n f (.rn t) w
  | no {w : Wd} (h0 : fine n = false) (h : w.ws = ws0) (snd : Snd s ws0) : Al s ws0 c n f .no w
end
end Rv
end Go.Ma
namespace Go.Ma
open Go.Pl
section
variable {s : Sh} {ws0 ws1 ws : Nat → Int} {c : Int} {b : Bk}
/-- Behind who undid. -/
structure Und (s : Sh) (ws1 ws : Nat → Int) (b : Bk) : Prop where
  pg : ∀ q, 0 ≤ q → q < s.p → pgAt s ws q = if b.lg = true ∧ b.p ≤ q ∧ q < b.p + b.n then 0 else pgAt s ws1 q
  sl : ∀ q i, 0 ≤ q → q < s.p → 0 ≤ i → i < 16 → slAt s ws q i = if b.lg = false ∧ q = b.p ∧ i = b.i then opn b.k else slAt s ws1 q i
  mg : ∀ c' j, 0 ≤ c' → c' < s.c → 0 ≤ j → j < s.m → mgAt s ws c' j = mgAt s ws1 c' j
end
namespace Uo
/-- Who undoes, alone. -/
inductive Al (s : Sh) (ws1 : Nat → Int) (c : Int) (b : Bk) (t : Uo) (w : Wd) : Prop
  | l (hd : t.dn = false) (l : b.lg = true) (i0 : 0 ≤ t.i) (i1 : t.i < b.n) (pg : ∀ q, 0 ≤ q → q < s.p → pgAt s w.ws q = if b.p < q ∧ q ≤ b.p + t.i then 0 else pgAt s ws1 q)
      (sl : ∀ q i, 0 ≤ q → q < s.p → 0 ≤ i → i < 16 → slAt s w.ws q i = slAt s ws1 q i) (mg : ∀ c' j, 0 ≤ c' → c' < s.c → 0 ≤ j → j < s.m → mgAt s w.ws c' j = mgAt s ws1 c' j)
  | s (hd : t.dn = false) (l : b.lg = false) (hw : w.ws = ws1)
  | e (hd : t.dn = true) (h : Und s ws1 w.ws b)
variable {s : Sh} {ws1 : Nat → Int} {c : Int} {b : Bk} {t : Uo} {w : Wd}
end Uo
namespace Re
section
variable {s : Sh} {ws0 : Nat → Int} {c a n f : Int} {t : Re} {w : Wd}
/-- The other one is gone, the new one not yet there. -/
structure Gone (s : Sh) (ws0 : Nat → Int) (c a n : Int) (b : Bk) (ws1 ws : Nat → Int) : Prop where
  got : Got s ws0 ws1 c b
  len : b.len = len n
  snd : Snd s ws
  out : Out (blks s ws1 s.p.toNat) (blks s ws s.p.toNat) a
  fd : Fd s ws1 ws
/-- How far it is. -/
inductive Ph (s : Sh) (ws0 : Nat → Int) (c a n f : Int) (t : Re) (w : Wd) : Prop
  | rv (hm : t.md = .no) (hd : t.dn = false) (rd : t.rv.dn = false) (h : t.rv.Al s ws0 c n f w) (g : t.gv = Gv.new s c a)
  | gv (hm : t.md = .no) (hd : t.dn = false) (rd : t.rv.dn = true) (rf : t.rv.fd = true) (gd : t.gv.dn = false) (ws1 : Nat → Int) (h : Got s ws0 ws1 c t.rv.bk) (hl : t.rv.bk.len = Pl.len n) (hg : t.gv.Al s ws1 c a w)
  | cm (hm : t.md = .cm (Cm.new s c t.rv.bk)) (hd : t.dn = false) (rd : t.rv.dn = true) (rf : t.rv.fd = true) (gd : t.gv.dn = true) (gg : t.gv.gv = true) (ws1 : Nat → Int) (h : Gone s ws0 c a n t.rv.bk ws1 w.ws)
  | uo (u : Uo) (hm : t.md = .uo u) (hd : t.dn = false) (ud : u.dn = false) (rd : t.rv.dn = true) (rf : t.rv.fd = true) (gd : t.gv.dn = true) (gg : t.gv.gv = false) (ws1 : Nat → Int) (h : Got s ws0 ws1 c t.rv.bk) (us : u.s = s ∧ u.b = t.rv.bk) (hu : u.Al s ws1 c t.rv.bk w) (no : ∀ z ∈ blks s ws0 s.p.toNat, z.1 ≠ a)
  | won (hd : t.dn = true) (he : t.er = 0) (rf : t.rv.fd = true) (gg : t.gv.gv = true) (ws1 ws2 : Nat → Int) (h : Gone s ws0 c a n t.rv.bk ws1 ws2) (hw : w.ws = cmW s ws2 t.rv.bk)
  | lost (hd : t.dn = true) (he : t.er = 3) (gg : t.gv.gv = false) (h : Lost s ws0 w.ws) (rf : t.rv.fd = false) (hr : t.rv.Al s ws0 c n f w) (rd : t.rv.dn = true)
  | none (hd : t.dn = true) (he : t.er = 1) (gg : t.gv.gv = false) (ws1 : Nat → Int) (h : Got s ws0 ws1 c t.rv.bk) (hu : Und s ws1 w.ws t.rv.bk) (no : ∀ z ∈ blks s ws0 s.p.toNat, z.1 ≠ a)
structure Al (s : Sh) (ws0 : Nat → Int) (c a n f : Int) (t : Re) (w : Wd) : Prop where
  ok : may s.p s.c s.m = true
  of : w.of s
  wf : t.wf
  es : t.s = s ∧ t.c = c ∧ t.on = true
  cb : 0 ≤ c ∧ c < s.c
  gn : (Gv.new s c a).dn = false
  ph : Ph s ws0 c a n f t w
end
end Re
end Go.Ma
namespace Go.Ma
open Go.Pl
theorem srt_ext : ∀ {l l' : List (Int × Int)}, Srt l → Srt l' → (∀ z ∈ l, 1 ≤ z.2) → (∀ z ∈ l', 1 ≤ z.2) → (∀ z, z ∈ l ↔ z ∈ l') → l = l'
  | [], [], _, _, _, _, _ => rfl
  | [], y :: t, _, _, _, _, h => by have := (h y).2 (by simp); cases this
  | x :: t, [], _, _, _, _, h => by have := (h x).1 (by simp); cases this
  | x :: t, y :: t', h1, h2, p1, p2, h => by
    unfold Srt at h1 h2
    obtain ⟨a1, a2⟩ := List.pairwise_cons.1 h1
    obtain ⟨b1, b2⟩ := List.pairwise_cons.1 h2
    have hx := p1 x (by simp)
    have hy := p2 y (by simp)
    have e : x = y := by
      rcases List.mem_cons.1 ((h x).1 (by simp)) with e | e
      · exact e
      · rcases List.mem_cons.1 ((h y).2 (by simp)) with e' | e'
        · exact e'.symm
        · have g1 := a1 y e'
          have g2 := b1 x e
          omega
    subst e
    rw [srt_ext (l := t) (l' := t') a2 b2 (fun z hz => p1 z (by simp [hz])) (fun z hz => p2 z (by simp [hz])) fun z => ⟨fun hz => ?_, fun hz => ?_⟩]
    · rcases List.mem_cons.1 ((h z).1 (by simp [hz])) with e | e
      · subst e; have := a1 z hz; omega
      · exact e
    · rcases List.mem_cons.1 ((h z).2 (by simp [hz])) with e | e
      · subst e; have := b1 z hz; omega
      · exact e
section
variable {s : Sh} {ws ws0 ws1 ws2 : Nat → Int} {c a n f : Int} {b : Bk}
theorem blks_pos (hm : may s.p s.c s.m = true) (hs : Snd s ws) {z : Int × Int} (h : z ∈ blks s ws s.p.toNat) : 0 ≤ z.1 ∧ 1 ≤ z.2 ∧ z.1 + z.2 ≤ s.p * 64 := by
  have hb := (may_iff _ _ _).1 hm
  obtain ⟨p, hp, hz⟩ := blks_mem.1 h
  have h1 := blkPg_in hz
  have h2 := blkPg_pos hm hs (by omega) hz
  exact ⟨by omega, h2.1, h2.2.1⟩
/-- A block more: where it is in the row. -/
structure Put (s : Sh) (A : List (Int × Int)) (y : Int × Int) (pre post : List (Int × Int)) : Prop where
  eq : A = pre ++ post
  b : 0 ≤ y.1 ∧ 1 ≤ y.2 ∧ y.1 + y.2 ≤ s.p * 64
  lo : ∀ b ∈ pre, 0 ≤ b.1 ∧ 1 ≤ b.2 ∧ b.1 + b.2 ≤ y.1
  hi : ∀ b ∈ post, y.1 + y.2 ≤ b.1 ∧ 1 ≤ b.2 ∧ b.1 + b.2 ≤ s.p * 64
end
namespace Re
section
variable {s : Sh} {ws0 : Nat → Int} {c a n f : Int} {t : Re} {w : Wd}
/-- Well: the old one is gone, the new one there. -/
structure Won (s : Sh) (ws0 : Nat → Int) (c a n : Int) (t : Re) (ws : Nat → Int) : Prop where
  fd : t.fd = true
  er : t.er = 0
  gv : t.gave = true
  fit : t.bk.Fit s c ∧ (t.bk.lg = true → t.bk.i = 0) ∧ (t.bk.lg = false → t.bk.n = 0)
  len : t.bk.len = Pl.len n
  put : ∃ pre post, Put s (blks s ws0 s.p.toNat) (t.bk.ad, t.bk.len) pre post ∧ ∃ pre' z post', pre ++ (t.bk.ad, t.bk.len) :: post = pre' ++ z :: post' ∧ z.1 = a ∧ (∀ x ∈ pre', x.1 ≠ a) ∧ blks s ws s.p.toNat = pre' ++ post'
structure Non (s : Sh) (ws0 : Nat → Int) (t : Re) (ws : Nat → Int) : Prop where
  fd : t.fd = false
  er : t.er ≠ 0
  gv : t.gave = false
  bl : blks s ws s.p.toNat = blks s ws0 s.p.toNat
/-- It may be none. -/
structure Any (s : Sh) (ws0 : Nat → Int) (c a n f : Int) (t : Re) (w : Wd) : Prop where
  wf : t.wf
  of : w.of s
  es : t.s = s
  p : Al s ws0 c a n f t w ∨ (t.dn = true ∧ t.er = 1 ∧ t.on = false ∧ w.ws = ws0 ∧ Snd s ws0)
end
end Re
end Go.Ma
namespace Go.Ma
open Go.Pl
open Ow
/-- One of a family, changed. -/
def upT {α : Type} (ts : Nat → α) (c : Nat) (t : α) : Nat → α := fun d => if d = c then t else ts d
theorem upT_same {α : Type} (ts : Nat → α) (c : Nat) (t : α) : upT ts c t c = t := if_pos rfl
theorem upT_ne {α : Type} (ts : Nat → α) {c d : Nat} (t : α) (h : d ≠ c) : upT ts c t d = ts d := if_neg h
namespace Rv
section
variable {s : Sh} {c n : Int} {v : Rv} {w : Wd} {ws ws' : Nat → Int}
theorem In.found (h : In s c v ws) (hd : v.dn = true) (hf : v.fd = true) : v.bk.Fit s c ∧ FtB s v.bk ws ∧ Own s ws c (ofB v.bk) := by
  cases hv : v with
  | no => rw [hv] at hf; cases hf
  | sk q =>
    rw [hv] at h hd hf
    have h : Sk.In s c q ws := h
    have hf : q.fd = true := hf
    have hd : q.dn = true := hd
    have e : (Rv.sk q).bk = ⟨false, q.pg, q.sl, q.k, 0⟩ := by unfold Rv.bk; simp only [hf, if_true]
    rw [e]
    obtain ⟨p0, p1, s0, s1, hs, hw⟩ := h.fin hd hf
    have ow := h.ow
    rw [Sk.ho_bk hd hf] at ow
    exact ⟨⟨h.m, h.c0, h.c1, p0, p1, fun g => (by cases g), fun _ => ⟨s0, s1⟩⟩, ⟨fun g => (by cases g), fun _ => hs⟩, ow⟩
  | rn q =>
    rw [hv] at h hd hf
    have h : Rn.In s c q ws := h
    have hf : q.fd = true := hf
    have hd : q.dn = true := hd
    have e : (Rv.rn q).bk = ⟨true, q.hd, 0, 0, q.n⟩ := by unfold Rv.bk; simp only [hf, if_true]
    rw [e]
    obtain ⟨h0, n1, n8, hn⟩ := h.fb hf
    have hbk := Rn.ho_bk hd hf
    have ow := h.ow.congr hbk.p hbk.b hbk.s
    have hp : q.ho.hp q.hd := by rw [Rn.ho_f hd hf]; exact .inl rfl
    exact ⟨⟨h.m, h.c0, h.c1, h0, by show q.hd < s.p; omega, fun _ => ⟨n1, n8, hn⟩, fun g => (by cases g)⟩, ⟨fun _ i i0 i1 => h.ft.z q.hd i i0 i1 hp fun g => (by rw [hd] at g; cases g), fun g => (by cases g)⟩, ow⟩
theorem In.ks (h : In s c v w.ws) (hB : Bs s w.ws) : Ks w.ws (v.step w).2.ws := by
  cases v with
  | sk t => exact Sk.In.ks h hB
  | rn t => exact Rn.In.ks h hB
  | no => exact Ks.refl _
/-- What it looks for. -/
def Kd (n : Int) : Rv → Prop
  | .sk t => small n = true ∧ t.k = cls n
  | .rn t => small n = false ∧ large n = true ∧ t.n = pages n
  | .no => False
theorem kd_new (s : Sh) (c f : Int) (h : fine n = true) : Kd n (Rv.new s c n f) := by
  unfold Rv.new
  cases e1 : small n
  · simp only [Bool.false_eq_true, if_false]
    have e2 : large n = true := by unfold fine at h; rw [e1] at h; exact h
    rw [e2]; exact ⟨e1, e2, rfl⟩
  · exact ⟨e1, (Sk.new_kp s c (cls n) f).2.2.1⟩
theorem kd_step (hw : v.wf) (h : Kd n v) : Kd n (v.step w).1 := by
  cases v with
  | sk t => exact ⟨h.1, (Sk.step_kp (t := t) (w := w)).2.2.1.trans h.2⟩
  | rn t => exact ⟨h.1, h.2.1, (Rn.step_k hw w).2.2.trans h.2.2⟩
  | no => cases h
theorem kd_len (h : Kd n v) (hf : v.fd = true) : v.bk.len = Pl.len n := by
  cases v with
  | sk t =>
    have hf : t.fd = true := hf
    have e : (Rv.sk t).bk = ⟨false, t.pg, t.sl, t.k, 0⟩ := if_pos hf
    rw [e]
    show size t.k = _
    rw [h.2]; unfold Pl.len; rw [if_pos h.1]
  | rn t =>
    have hf : t.fd = true := hf
    have e : (Rv.rn t).bk = ⟨true, t.hd, 0, 0, t.n⟩ := if_pos hf
    rw [e]
    show t.n * 64 = _
    rw [h.2.2]; unfold Pl.len; rw [if_neg (by rw [h.1]; decide)]
  | no => cases h
end
end Rv
theorem Cm.of_cm {s : Sh} {c : Int} {ws : Nat → Int} {b : Bk} (b1 : b.Fit s c) (ft : FtB s b ws) (ow : Own s ws c (ofB b)) : Cm.In s c (Cm.new s c b) ws ∧ (Cm.new s c b).dn = false := by
  have hd : (Cm.new s c b).dn = false := by show (!b.fits s c) = false; rw [Bk.of_fits b1]; rfl
  refine ⟨⟨Cm.new_wf _ _ _, rfl, rfl, ?_, fun _ => ft⟩, hd⟩
  have e : (Cm.new s c b).ho = ofB b := by unfold Cm.ho; rw [hd]; rfl
  rw [e]; exact ow
/-- The word that says a block is there, and what it says. -/
def kwd (s : Sh) (b : Bk) : Nat := if b.lg then (s.c + b.p).toNat else (s.c + s.p + b.p * 16 + b.i).toNat
def vwd (b : Bk) : Int := if b.lg then 3 + 16 * b.n else 3 + 16 * b.k
theorem vwd_mod (b : Bk) : vwd b % 16 = 3 := by unfold vwd; split <;> omega
/-- A commit writes that word alone. -/
theorem Cm.writes {s : Sh} {c : Int} {t : Cm} {w : Wd} (hs : t.s = s) (hf : t.b.Fit s c) (hd : t.dn = false) : (t.step w).1 = { t with dn := true } ∧ (t.step w).2.ws = fun j => if j = kwd s t.b then vwd t.b else w.ws j := by
  have hm := hf.m
  have hb := (may_iff _ _ _).1 hm
  have p0 := hf.p0
  have p1 := hf.p1
  cases l : t.b.lg
  · have hsl := hf.s l
    have hk := slots_k (by omega : 0 < slots t.b.k)
    have sb := slots_bd t.b.k
    have e : Cm.step t w = ({ t with dn := true }, w.store t.c t.sat (putSl 3 t.b.k)) := by unfold Cm.step; rw [hd, l]; rfl
    rw [e]
    refine ⟨rfl, ?_⟩
    show (w.store t.c t.sat (putSl 3 t.b.k)).ws = _
    rw [store_ws]
    have e1 : t.sat.toNat = kwd s t.b := by unfold Cm.sat kwd; rw [l, hs, slot_yes hm p0 p1 hsl.1 (by omega)]; rfl
    have e2 : putSl 3 t.b.k = vwd t.b := by
      have : putSl 3 t.b.k = 3 + 16 * t.b.k := taken_v hk.1 (by omega)
      unfold vwd; rw [l, this]; rfl
    funext j
    unfold upW
    rw [e1, e2]
  · have hl := hf.l l
    have e : Cm.step t w = ({ t with dn := true }, w.store t.c t.pat (putPg 3 t.b.n 0)) := by unfold Cm.step; rw [hd, l]; rfl
    rw [e]
    refine ⟨rfl, ?_⟩
    show (w.store t.c t.pat (putPg 3 t.b.n 0)).ws = _
    rw [store_ws]
    have e1 : t.pat.toNat = kwd s t.b := by unfold Cm.pat kwd; rw [l, hs, page_yes hm p0 p1]; rfl
    have e2 : putPg 3 t.b.n 0 = vwd t.b := by unfold vwd; rw [l, large_v (by omega) (by omega)]; rfl
    funext j
    unfold upW
    rw [e1, e2]
/-- What is reserved is not yet a block. -/
theorem kwd_not {s : Sh} {c : Int} {b : Bk} {ws : Nat → Int} (hf : b.Fit s c) (ow : Own s ws c (ofB b)) : ws (kwd s b) % 16 ≠ 3 := by
  have hb := (may_iff _ _ _).1 hf.m
  cases l : b.lg
  · have hsl := hf.s l
    have sb := slots_bd b.k
    have h1 : (ofB b).hs b.p b.i := by unfold ofB; rw [l]; exact ⟨rfl, rfl⟩
    have h2 := ((ow.sl b.p b.i hf.p0 hf.p1 hsl.1 (by omega)).2 (.inl h1)).2
    unfold kwd; rw [l]
    show slAt s ws b.p b.i % 16 ≠ 3
    rw [h2]; omega
  · have h1 : (ofB b).hp b.p := by unfold ofB; rw [l]; exact rfl
    have h2 := (ow.pg b.p hf.p0 hf.p1).2 h1
    unfold pgAt at h2
    rw [page_yes hf.m hf.p0 hf.p1] at h2
    unfold kwd; rw [l]
    show ws (s.c + b.p).toNat % 16 ≠ 3
    rw [h2]; omega
structure TM (n : Nat) (s : Sh) (N : Nat → Int) (rv : Nat → Rv) (cm : Nat → Option Cm) (w : Wd) : Prop where
  of : w.of s
  m : may s.p s.c s.m = true
  nc : (n : Int) = s.c
  bs : Bs s w.ws
  wf : ∀ c, c < n → (rv c).wf ∧ (rv c).of s c ∧ Rv.Kd (N c) (rv c)
  r : ∀ c, c < n → cm c = none → Rv.In s c (rv c) w.ws
  k : ∀ c, c < n → ∀ t, cm c = some t → (rv c).dn = true ∧ (rv c).fd = true ∧ t.b = (rv c).bk ∧ t.b.Fit s c ∧ Cm.In s c t w.ws
  k1 : ∀ c, c < n → ∀ t, cm c = some t → t.dn = true → w.ws (kwd s t.b) = vwd t.b
  k2 : ∀ j : Nat, w.ws j % 16 = 3 → ∃ c t, c < n ∧ cm c = some t ∧ t.dn = true ∧ j = kwd s t.b
  k3 : ∀ c d, c < n → d < n → c ≠ d → ∀ t u, cm c = some t → cm d = some u → t.dn = true → u.dn = true → kwd s t.b ≠ kwd s u.b
namespace TM
variable {n : Nat} {s : Sh} {N : Nat → Int} {rv : Nat → Rv} {cm : Nat → Option Cm} {w : Wd}
/-- One reserves. -/
theorem stepR (h : TM n s N rv cm w) {c : Nat} (hc : c < n) (hn : cm c = none) : TM n s N (upT rv c ((rv c).step w).1) cm ((rv c).step w).2 := by
  have hi := h.r c hc hn
  obtain ⟨f1, f2, f3⟩ := h.wf c hc
  obtain ⟨nx, ni⟩ := hi.step h.bs
  have hks := hi.ks h.bs
  have hwn := Rv.wn (w := w) f1 f2
  have hrel : ∀ d, d < n → d ≠ c → Rel s d w.ws ((rv c).step w).2.ws := fun d hd hne => nx.re d (by omega) (by have := h.nc; omega) (by omega)
  refine ⟨Rv.step_of f1 h.of, h.m, h.nc, nx.bs, fun d hd => ?_, fun d hd he => ?_, fun d hd t ht => ?_, fun d hd t ht hdn => ?_, fun j hj => ?_, h.k3⟩
  · by_cases e : d = c
    · subst e; rw [upT_same]; exact ⟨Rv.step_wf f1, Rv.step_ofs f1 f2, Rv.kd_step f1 f3⟩
    · rw [upT_ne _ _ e]; exact h.wf d hd
  · by_cases e : d = c
    · subst e; rw [upT_same]; exact ni
    · rw [upT_ne _ _ e]; exact (h.r d hd he).rel (hrel d hd e)
  · have e : d ≠ c := fun e => by rw [e, hn] at ht; cases ht
    obtain ⟨a1, a2, a3, a4, a5⟩ := h.k d hd t ht
    rw [upT_ne _ _ e]
    exact ⟨a1, a2, a3, a4, a5.rel (hrel d hd e)⟩
  · have := h.k1 d hd t ht hdn
    rw [hks _ (by rw [this]; exact vwd_mod _)]; exact this
  · rcases hwn j with e | ⟨-, e⟩
    · rw [e] at hj; exact h.k2 j hj
    · exact absurd hj e
/-- One begins to commit. -/
theorem stepN (h : TM n s N rv cm w) {c : Nat} (hc : c < n) (hn : cm c = none) (hd : (rv c).dn = true) (hf : (rv c).fd = true) : TM n s N rv (upT cm c (some (Cm.new s c (rv c).bk))) w := by
  obtain ⟨b1, b2, b3⟩ := (h.r c hc hn).found hd hf
  obtain ⟨q1, q2⟩ := Cm.of_cm b1 b2 b3
  refine ⟨h.of, h.m, h.nc, h.bs, h.wf, fun d hd' he => ?_, fun d hd' t ht => ?_, fun d hd' t ht hdn => ?_, fun j hj => ?_, fun d e hd' he hne t u ht hu td ud => ?_⟩
  · by_cases e : d = c
    · rw [e, upT_same] at he; cases he
    · rw [upT_ne _ _ e] at he; exact h.r d hd' he
  · by_cases e : d = c
    · subst e; rw [upT_same] at ht; injection ht with ht; subst ht
      exact ⟨hd, hf, rfl, b1, q1⟩
    · rw [upT_ne _ _ e] at ht; exact h.k d hd' t ht
  · by_cases e : d = c
    · subst e; rw [upT_same] at ht; injection ht with ht; subst ht; rw [q2] at hdn; cases hdn
    · rw [upT_ne _ _ e] at ht; exact h.k1 d hd' t ht hdn
  · obtain ⟨d, t, a1, a2, a3, a4⟩ := h.k2 j hj
    have e : d ≠ c := fun e => by rw [e, hn] at a2; cases a2
    exact ⟨d, t, a1, by rw [upT_ne _ _ e]; exact a2, a3, a4⟩
  · have e1 : d ≠ c := fun g => by rw [g, upT_same] at ht; injection ht with ht; subst ht; rw [q2] at td; cases td
    have e2 : e ≠ c := fun g => by rw [g, upT_same] at hu; injection hu with hu; subst hu; rw [q2] at ud; cases ud
    rw [upT_ne _ _ e1] at ht
    rw [upT_ne _ _ e2] at hu
    exact h.k3 d e hd' he hne t u ht hu td ud
theorem upT_self {α : Type} {ts : Nat → α} {c : Nat} {t : α} (h : ts c = t) : upT ts c t = ts := by
  funext d
  unfold upT
  split
  · rename_i e; rw [e, h]
  · rfl
/-- One commits. -/
theorem stepC (h : TM n s N rv cm w) {c : Nat} (hc : c < n) {t : Cm} (ht : cm c = some t) : TM n s N rv (upT cm c (some (t.step w).1)) (t.step w).2 := by
  obtain ⟨f1, f2, f3, f4, f5⟩ := h.k c hc t ht
  cases hd : t.dn
  rotate_left
  · have e : t.step w = (t, w) := by unfold Cm.step; rw [if_pos hd]
    rw [e, upT_self ht]; exact h
  obtain ⟨nx, ni, nd⟩ := f5.step h.bs
  obtain ⟨w1, w2⟩ := Cm.writes (w := w) f5.es f4 hd
  have ow := f5.ow
  have eho : t.ho = ofB t.b := by unfold Cm.ho; rw [hd]; rfl
  rw [eho] at ow
  have hnk := kwd_not f4 ow
  have eb : (t.step w).1.b = t.b := by rw [w1]
  have hrel : ∀ d, d < n → d ≠ c → Rel s d w.ws (t.step w).2.ws := fun d hd hne => nx.re d (by omega) (by have := h.nc; omega) (by omega)
  have key : ∀ d, d < n → ∀ u, cm d = some u → u.dn = true → kwd s u.b ≠ kwd s t.b := fun d hd' u hu ud g => by
    have := h.k1 d hd' u hu ud
    rw [g] at this; rw [this] at hnk; exact hnk (vwd_mod _)
  refine ⟨Cm.step_of h.of, h.m, h.nc, nx.bs, h.wf, fun d hd' he => ?_, fun d hd' u hu => ?_, fun d hd' u hu hdn => ?_, fun j hj => ?_, fun d e hd' he hne u v hu hv ud vd => ?_⟩
  · by_cases e : d = c
    · rw [e, upT_same] at he; cases he
    · rw [upT_ne _ _ e] at he; exact (h.r d hd' he).rel (hrel d hd' e)
  · by_cases e : d = c
    · subst e; rw [upT_same] at hu; injection hu with hu; subst hu
      exact ⟨f1, f2, eb.trans f3, by rw [eb]; exact f4, ni⟩
    · rw [upT_ne _ _ e] at hu
      obtain ⟨a1, a2, a3, a4, a5⟩ := h.k d hd' u hu
      exact ⟨a1, a2, a3, a4, a5.rel (hrel d hd' e)⟩
  · by_cases e : d = c
    · subst e; rw [upT_same] at hu; injection hu with hu; subst hu
      rw [eb, w2]; exact if_pos rfl
    · rw [upT_ne _ _ e] at hu
      rw [w2]
      show (if _ then _ else _) = _
      rw [if_neg (key d hd' u hu hdn)]; exact h.k1 d hd' u hu hdn
  · rw [w2] at hj
    by_cases e : j = kwd s t.b
    · exact ⟨c, (t.step w).1, hc, upT_same _ _ _, nd, by rw [eb]; exact e⟩
    · have hj : (if j = kwd s t.b then vwd t.b else w.ws j) % 16 = 3 := hj
      rw [if_neg e] at hj
      obtain ⟨d, u, a1, a2, a3, a4⟩ := h.k2 j hj
      have e : d ≠ c := fun e => by rw [e, ht] at a2; injection a2 with a2; subst a2; rw [hd] at a3; cases a3
      exact ⟨d, u, a1, by rw [upT_ne _ _ e]; exact a2, a3, a4⟩
  · by_cases e1 : d = c
    · subst e1
      have e2 : e ≠ d := fun g => hne g.symm
      rw [upT_same] at hu; injection hu with hu; subst hu
      rw [upT_ne _ _ e2] at hv
      rw [eb]; exact fun g => key e he v hv vd g.symm
    · rw [upT_ne _ _ e1] at hu
      by_cases e2 : e = c
      · subst e2
        rw [upT_same] at hv; injection hv with hv; subst hv
        rw [eb]; exact key d hd' u hu ud
      · rw [upT_ne _ _ e2] at hv
        exact h.k3 d e hd' he hne u v hu hv ud vd
theorem init (hm : may s.p s.c s.m = true) (hof : w.of s) (hz : ∀ j, w.ws j = 0) (nc : (n : Int) = s.c) (hN : ∀ c, c < n → fine (N c) = true) (F : Nat → Int) : TM n s N (fun c => Rv.new s c (N c) (F c)) (fun _ => none) w :=
  ⟨hof, hm, nc, Bs.zero hz, fun c hc => ⟨Rv.new_wf .., Rv.new_of .., Rv.kd_new _ _ _ (hN c hc)⟩, fun c hc _ => Rv.In.new hm (by omega) (by omega) _ _ (Own.zero (by omega) hz), fun c hc t ht => (by cases ht), fun c hc t ht => (by cases ht), fun j hj => (by rw [hz] at hj; cases hj), fun c d _ _ _ t u ht => (by cases ht)⟩
end TM
end Go.Ma
namespace Go.Ma
open Go.Pl
open Ow
theorem srt_apart : ∀ {l : List (Int × Int)}, Srt l → ∀ {x y : Int × Int}, x ∈ l → y ∈ l → x ≠ y → x.1 + x.2 ≤ y.1 ∨ y.1 + y.2 ≤ x.1
  | [], _, x, y, h, _, _ => by cases h
  | w :: t, h, x, y, hx, hy, hne => by
    unfold Srt at h
    obtain ⟨a1, a2⟩ := List.pairwise_cons.1 h
    rcases List.mem_cons.1 hx with g | g
    · rcases List.mem_cons.1 hy with g' | g'
      · rw [g, g'] at hne; exact absurd rfl hne
      · rw [g]; exact .inl (a1 y g')
    · rcases List.mem_cons.1 hy with g' | g'
      · rw [g']; exact .inr (a1 x g)
      · exact srt_apart a2 g g' hne
/-- Where a block goes. -/
theorem srt_ins {y : Int × Int} (hy : 1 ≤ y.2) : ∀ {l : List (Int × Int)}, Srt l → (∀ z ∈ l, 1 ≤ z.2) → (∀ z ∈ l, z.1 + z.2 ≤ y.1 ∨ y.1 + y.2 ≤ z.1) → ∃ pre post, l = pre ++ post ∧ (∀ z ∈ pre, z.1 + z.2 ≤ y.1) ∧ (∀ z ∈ post, y.1 + y.2 ≤ z.1) ∧ Srt (pre ++ y :: post)
  | [], _, _, _ => ⟨[], [], rfl, fun z h => (by cases h), fun z h => (by cases h), List.pairwise_singleton _ _⟩
  | w :: t, h, hp, ha => by
    have h0 := h
    unfold Srt at h
    obtain ⟨a1, a2⟩ := List.pairwise_cons.1 h
    have hw := hp w (by simp)
    rcases ha w (by simp) with g | g
    · obtain ⟨pre, post, e1, e2, e3, e4⟩ := srt_ins hy a2 (fun z hz => hp z (by simp [hz])) (fun z hz => ha z (by simp [hz]))
      refine ⟨w :: pre, post, by rw [e1]; rfl, fun z hz => ?_, e3, List.pairwise_cons.2 ⟨fun z hz => ?_, e4⟩⟩
      · rcases List.mem_cons.1 hz with g' | g'
        · rw [g']; exact g
        · exact e2 z g'
      · rcases List.mem_append.1 hz with g' | g'
        · exact a1 z (by rw [e1]; simp [g'])
        · rcases List.mem_cons.1 g' with g2 | g2
          · rw [g2]; exact g
          · exact a1 z (by rw [e1]; simp [g2])
    · refine ⟨[], w :: t, rfl, fun z hz => (by cases hz), fun z hz => ?_, List.pairwise_cons.2 ⟨fun z hz => ?_, h0⟩⟩
      · rcases List.mem_cons.1 hz with g' | g'
        · rw [g']; exact g
        · have := a1 z g'; omega
      · rcases List.mem_cons.1 hz with g' | g'
        · rw [g']; exact g
        · have := a1 z g'; omega
namespace TM
variable {n : Nat} {s : Sh} {N : Nat → Int} {rv : Nat → Rv} {cm : Nat → Option Cm} {w : Wd}
theorem cell (h : TM n s N rv cm w) {c : Nat} (hc : c < n) {t : Cm} (ht : cm c = some t) (hd : t.dn = true) :
    (t.b.lg = true → pgAt s w.ws t.b.p = 3 + 16 * t.b.n) ∧ (t.b.lg = false → slAt s w.ws t.b.p t.b.i = 3 + 16 * t.b.k ∧ Sup s t.b.k (pgAt s w.ws t.b.p)) := by
  have hb := (may_iff _ _ _).1 h.m
  obtain ⟨-, -, -, F, -⟩ := h.k c hc t ht
  have hk := h.k1 c hc t ht hd
  refine ⟨fun l => ?_, fun l => ?_⟩
  · unfold kwd vwd at hk
    rw [l] at hk
    unfold pgAt
    rw [page_yes h.m F.p0 F.p1]; exact hk
  · unfold kwd vwd at hk
    rw [l] at hk
    have hk : slAt s w.ws t.b.p t.b.i = 3 + 16 * t.b.k := hk
    have hsl := F.s l
    have k3 := slots_k (by omega : 0 < slots t.b.k)
    have sb := slots_bd t.b.k
    exact ⟨hk, (Pg.open (by omega) k3.1 k3.2 (h.bs.pg _ F.p0 F.p1) hsl.1 (by omega) (.inr hk)).1⟩
theorem blk_in (h : TM n s N rv cm w) {c : Nat} (hc : c < n) {t : Cm} (ht : cm c = some t) (hd : t.dn = true) : (t.b.ad, t.b.len) ∈ blks s w.ws s.p.toNat := by
  have hb := (may_iff _ _ _).1 h.m
  obtain ⟨-, -, -, F, -⟩ := h.k c hc t ht
  obtain ⟨c1, c2⟩ := h.cell hc ht hd
  have p0 := F.p0
  have p1 := F.p1
  refine blks_mem.2 ⟨t.b.p.toNat, by omega, ?_⟩
  unfold blkPg Bk.ad Bk.len
  rw [show ((t.b.p.toNat : Nat) : Int) = t.b.p by omega]
  cases l : t.b.lg
  · obtain ⟨e1, e2⟩ := c2 l
    have hsl := F.s l
    have k3 := slots_k (by omega : 0 < slots t.b.k)
    have hr := rd_s h.m p0 p1 e2
    rw [if_neg (by rw [hr.2.1]; decide), if_pos hr.2.1, hr.2.2]
    refine blkSl_mem.2 ⟨t.b.i.toNat, by omega, ?_, ?_⟩
    · rw [show ((t.b.i.toNat : Nat) : Int) = t.b.i by omega, e1]
      exact (rd_sl (by decide) (by decide) k3.1 (by omega)).1
    · rw [show ((t.b.i.toNat : Nat) : Int) = t.b.i by omega]; rfl
  · have e1 := c1 l
    have hl := F.l l
    have hr := rd_l h.m p0 p1 hl.1 hl.2.1 hl.2.2
    rw [e1, if_pos hr.2.1, hr.2.2]; exact List.mem_singleton.2 rfl
theorem in_blk (h : TM n s N rv cm w) {z : Int × Int} (hz : z ∈ blks s w.ws s.p.toNat) : ∃ c t, c < n ∧ cm c = some t ∧ t.dn = true ∧ z = (t.b.ad, t.b.len) := by
  have hb := (may_iff _ _ _).1 h.m
  obtain ⟨p, hp, hz⟩ := blks_mem.1 hz
  have p1 : (p : Int) < s.p := by omega
  rcases blkPg_mem hz with ⟨h3, e⟩ | ⟨h2, i, hi, h3, e⟩
  · have hmod : w.ws (s.c + p).toNat % 16 = 3 := by
      have h3' := h3
      unfold pgK at h3'
      split at h3'
      · unfold pgAt at h3'
        rw [page_yes h.m (by omega) p1] at h3'; exact h3'
      · cases h3'
    obtain ⟨c, t, a1, a2, a3, a4⟩ := h.k2 _ hmod
    obtain ⟨-, -, -, F, -⟩ := h.k c a1 t a2
    have q0 := F.p0
    have q1 := F.p1
    refine ⟨c, t, a1, a2, a3, ?_⟩
    unfold kwd at a4
    cases l : t.b.lg
    · have hsl := F.s l
      rw [l] at a4
      have a4 : (s.c + (p : Int)).toNat = (s.c + s.p + t.b.p * 16 + t.b.i).toNat := a4
      omega
    · rw [l] at a4
      have a4 : (s.c + (p : Int)).toNat = (s.c + t.b.p).toNat := a4
      have ep : t.b.p = p := by omega
      have e1 := (h.cell a1 a2 a3).1 l
      have hl := F.l l
      have hr := rd_l h.m q0 q1 hl.1 hl.2.1 hl.2.2
      rw [ep] at e1 hr
      rw [e, e1, hr.2.2]
      unfold Bk.ad Bk.len
      rw [l, ep]; rfl
  · have hA := Gv.ok_super (pgK_ne (s := s) (q := p) (x := pgAt s w.ws p) (by rw [h2]; decide)) h2
    have sb := slots_bd (pgA s p (pgAt s w.ws p))
    have hmod : w.ws (s.c + s.p + p * 16 + i).toNat % 16 = 3 := by
      unfold slK at h3
      split at h3
      · exact h3
      · cases h3
    obtain ⟨c, t, a1, a2, a3, a4⟩ := h.k2 _ hmod
    obtain ⟨-, -, -, F, -⟩ := h.k c a1 t a2
    have q0 := F.p0
    have q1 := F.p1
    refine ⟨c, t, a1, a2, a3, ?_⟩
    unfold kwd at a4
    cases l : t.b.lg
    · have hsl := F.s l
      have sb2 := slots_bd t.b.k
      rw [l] at a4
      have a4 : (s.c + s.p + (p : Int) * 16 + i).toNat = (s.c + s.p + t.b.p * 16 + t.b.i).toNat := a4
      have ep : t.b.p = p := by omega
      have ei : t.b.i = i := by omega
      obtain ⟨e1, e2⟩ := (h.cell a1 a2 a3).2 l
      have hr := rd_s h.m q0 q1 e2
      rw [ep] at hr
      rw [e, hr.2.2]
      unfold Bk.ad Bk.len
      rw [l, ep, ei]; rfl
    · rw [l] at a4
      have a4 : (s.c + s.p + (p : Int) * 16 + i).toNat = (s.c + t.b.p).toNat := a4
      omega
/-- Blocks of two are two. -/
theorem two (h : TM n s N rv cm w) {c d : Nat} (hc : c < n) (hd : d < n) (hne : c ≠ d) {t u : Cm} (ht : cm c = some t) (hu : cm d = some u) (td : t.dn = true) (ud : u.dn = true) : t.b.ad ≠ u.b.ad := fun g => by
  have hb := (may_iff _ _ _).1 h.m
  obtain ⟨-, -, -, F, -⟩ := h.k c hc t ht
  obtain ⟨-, -, -, G, -⟩ := h.k d hd u hu
  obtain ⟨c1, c2⟩ := h.cell hc ht td
  obtain ⟨d1, d2⟩ := h.cell hd hu ud
  have off : ∀ {b : Bk}, b.Fit s c ∨ b.Fit s d → b.lg = false → 0 ≤ b.i * size b.k ∧ b.i * size b.k < 64 ∧ 4 ≤ size b.k := fun {b} F l => by
    have hsl : 0 ≤ b.i ∧ b.i < slots b.k := by rcases F with F | F <;> exact F.s l
    have k3 := slots_k (by omega : 0 < slots b.k)
    have hs4 := slots_four k3.1 k3.2
    have h1 := Int.mul_nonneg hsl.1 (by omega : 0 ≤ size b.k)
    have h2 := Int.mul_le_mul_of_nonneg_right (by omega : b.i + 1 ≤ slots b.k) (by omega : 0 ≤ size b.k)
    rw [Int.add_mul] at h2
    omega
  refine h.k3 c d hc hd hne t u ht hu td ud ?_
  unfold Bk.ad at g
  unfold kwd
  cases l : t.b.lg
  · cases l' : u.b.lg
    · rw [l, l'] at g
      simp only [Bool.false_eq_true, if_false] at g ⊢
      have o1 := off (.inl F) l
      have o2 := off (.inr G) l'
      have ep : t.b.p = u.b.p := by omega
      have e1 := (c2 l).2
      have e2 := (d2 l').2
      rw [ep] at e1
      have ek := Sup.inj (by omega) e1 e2
      have ei : t.b.i = u.b.i := by
        rw [ep, ek] at g
        rw [ek] at o1
        rcases Int.lt_trichotomy t.b.i u.b.i with x | x | x
        · have := Int.mul_le_mul_of_nonneg_right (by omega : t.b.i + 1 ≤ u.b.i) (by omega : 0 ≤ size u.b.k)
          rw [Int.add_mul] at this; omega
        · exact x
        · have := Int.mul_le_mul_of_nonneg_right (by omega : u.b.i + 1 ≤ t.b.i) (by omega : 0 ≤ size u.b.k)
          rw [Int.add_mul] at this; omega
      rw [ep, ei]
    · exfalso
      rw [l, l'] at g
      simp only [Bool.false_eq_true, if_false, if_true] at g
      have o1 := off (.inl F) l
      have ep : t.b.p = u.b.p := by omega
      have e1 := (c2 l).2.mod
      rw [ep, d1 l'] at e1
      omega
  · cases l' : u.b.lg
    · exfalso
      rw [l, l'] at g
      simp only [Bool.false_eq_true, if_false, if_true] at g
      have o1 := off (.inr G) l'
      have ep : t.b.p = u.b.p := by omega
      have e1 := (d2 l').2.mod
      rw [← ep, c1 l] at e1
      omega
    · rw [l, l'] at g
      simp only [if_true] at g ⊢
      rw [show t.b.p = u.b.p by omega]
end TM
end Go.Ma
namespace Go.Ma

/-- How many below n are so. -/
def cnt (p : Nat → Bool) : Nat → Nat
  | 0 => 0
  | n + 1 => cnt p n + (if p n then 1 else 0)
/-- One less. -/
def but (p : Nat → Bool) (k : Nat) : Nat → Bool := fun i => p i && !(i == k)
end Go.Ma
namespace Go.Ma
open Go.Pl
open Ow
namespace Sk
/-- It has a page, or a slot. -/
def Gt (t : Sk) : Bool := if t.dn then t.fd else match t.nw with
  | .bi _ => true
  | _ => false
/-- The pages that it saw are not empty. -/
structure Sn (s : Sh) (f : Int) (t : Sk) (ws : Nat → Int) : Prop where
  n : t.dn = true → t.fd = false → ∀ q, 0 ≤ q → q < s.p → pgAt s ws q ≠ 0
  pc : t.dn = false → ∀ m, t.nw = .pc m → ∀ j, 0 ≤ j → j < m.many → pgAt s ws ((f + j) % s.p) ≠ 0
  no : t.dn = false → t.nw = .no → ∀ q, 0 ≤ q → q < s.p → pgAt s ws q ≠ 0
  st : t.dn = false → ∀ m, t.nw = .st m → ∀ q, 0 ≤ q → q < s.p → pgAt s ws q ≠ 0
section
variable {s : Sh} {c f : Int} {t : Sk} {w : Wd}
/-- How pages change: none becomes empty; one does not stay so, and then it is its. -/
def Chg (s : Sh) (t t' : Sk) (ws ws' : Nat → Int) : Prop := (Gt t = true → Gt t' = true) ∧ ((∀ q, 0 ≤ q → q < s.p → (pgAt s ws' q ≠ 0 ↔ pgAt s ws q ≠ 0)) ∨
  (Gt t = false ∧ Gt t' = true ∧ ∃ p, 0 ≤ p ∧ p < s.p ∧ pgAt s ws p = 0 ∧ ∀ q, 0 ≤ q → q < s.p → (pgAt s ws' q ≠ 0 ↔ pgAt s ws q ≠ 0 ∨ q = p)))
theorem chg_same {t' : Sk} {ws ws' : Nat → Int} (hg : Gt t = true → Gt t' = true) (h : ∀ q, 0 ≤ q → q < s.p → pgAt s ws' q = pgAt s ws q) : Chg s t t' ws ws' := ⟨hg, .inl fun q a b => by rw [h q a b]⟩
theorem gt_bind (p : Int) (hd : t.dn = false) : Gt (t.bind p) = true := by unfold Gt bind; rw [show ({ t with pg := p, nw := Nw.bi (Bi.new t.s t.c p t.k) } : Sk).dn = false from hd]; rfl
theorem gt_of (hd : t.dn = false) {n : Nw} (e : t.nw = n) (h : ∀ m, n ≠ .bi m) : Gt t = false := by
  unfold Gt; rw [hd, e]
  cases n with
  | bi m => exact absurd rfl (h m)
  | _ => rfl
theorem In.chg (h : In s c t w.ws) (hB : Bs s w.ws) : Chg s t (t.step w).1 w.ws (t.step w).2.ws := by
  have hm := h.m
  have hb := (may_iff _ _ _).1 hm
  have c0 := h.c0
  have c1 := h.c1
  have hts := h.es
  have htc := h.ec
  have ow := h.ow
  have ft := h.ft
  rcases step_cases t w with ⟨hd, e⟩ | ⟨hd, hc⟩
  · rw [e]; exact chg_same id fun _ _ _ => rfl
  have hfd := h.wf.fd hd
  obtain ⟨ok, nd⟩ := h.wf.nw hd
  rcases hc with ⟨m, en, e⟩ | ⟨m, en, e⟩ | ⟨m, en, e⟩ | ⟨en, e⟩ | ⟨m, en, e⟩ | ⟨m, en, e⟩ <;> rw [e]
  · rw [en] at ok nd
    have nd : m.dn = false := nd
    obtain ⟨o1, o2, o3, o4, o5, o6⟩ := ok
    obtain ⟨-, -, -, i0, i1⟩ := o1.of nd
    rw [o2, hts] at i1
    refine chg_same (fun g => by rw [gt_of hd en fun _ => by simp] at g; cases g) fun q a b => ?_
    have hat : m.at' = mag s.p s.c s.m c m.i := by unfold Tk.at'; rw [o2, hts, o3, htc]
    show pgAt s (m.step w).2.ws q = _
    unfold Tk.step
    rw [if_neg (by rw [nd]; decide)]
    split
    · rw [store_ws, hat, pg_mg hm c0 c1 i0 i1 a b]
    · split <;> rfl
  · rw [en] at ok nd
    have nd : m.dn = false := nd
    obtain ⟨o1, o2, o3, o4, o5, -, o7, -⟩ := ok
    obtain ⟨-, -, -, -, -, q0, q1, i0, i1, x0, x1⟩ := o1.of nd
    have hsl := slots_bd m.k
    have hsp : m.s.p = s.p := by rw [o2, hts]
    have hq : 0 ≤ m.pg ∧ m.pg < s.p := by unfold Sc.pg; rw [hsp]; exact mod_bd (by omega)
    have hat : m.at' = slot s.p s.c s.m m.pg m.i := by unfold Sc.at'; rw [o2, hts]
    refine chg_same (fun g => by rw [gt_of hd en fun _ => by simp] at g; cases g) fun q a b => ?_
    show pgAt s (m.step w).2.ws q = _
    unfold Sc.step
    rw [if_neg (by rw [nd]; decide)]
    split
    · rfl
    · split
      · rfl
      · show pgAt s (w.swap _ _ _ _).ws q = _
        rw [swap_ws, hat, pg_sl hm hq.1 hq.2 i0 (by omega) a b]
  · rw [en] at ok nd
    have nd : m.dn = false := nd
    obtain ⟨o1, o2, o3, o4, -, o6, -⟩ := ok
    have hsp : m.s.p = s.p := by rw [o2, hts]
    have hq : 0 ≤ m.pg ∧ m.pg < s.p := by unfold Pc.pg; rw [hsp]; exact mod_bd (by omega)
    have hat : m.at' = page s.p s.c s.m m.pg := by unfold Pc.at'; rw [o2, hts]
    have g0 := gt_of hd en fun _ => by simp
    cases hem : m.em
    · refine chg_same (fun g => by rw [g0] at g; cases g) fun q a b => ?_
      show pgAt s (m.step w).2.ws q = _
      unfold Pc.step
      rw [if_neg (by rw [nd]; decide), if_neg (by rw [hem]; decide)]
      rfl
    by_cases hz : w.get m.at' = 0
    · have es : m.step w = ({ m with fd := true, dn := true }, w.swap m.c m.at' 0 (held m.c)) := by
        unfold Pc.step; rw [if_neg (by rw [nd]; decide), if_pos hem, if_pos hz]
      have hz2 : pgAt s w.ws m.pg = 0 := by rw [hat] at hz; exact hz
      rw [es, Sa.set_af _ rfl]
      refine ⟨fun g => (by rw [g0] at g; cases g), .inr ⟨g0, gt_bind (t := { t with nw := .pc { m with fd := true, dn := true } }) m.pg hd, m.pg, hq.1, hq.2, hz2, fun q a b => ?_⟩⟩
      show pgAt s (w.swap _ _ _ _).ws q ≠ 0 ↔ _
      rw [swap_yes hz, hat, pg_pg hm hq.1 hq.2 a b, o3, htc, held_v c0 (by omega)]
      split
      · rename_i e; exact ⟨fun _ => .inr e, fun _ => by omega⟩
      · rename_i e; exact ⟨.inl, fun g => g.resolve_right e⟩
    · have es : m.step w = (m.next, w.swap m.c m.at' 0 (held m.c)) := by
        unfold Pc.step; rw [if_neg (by rw [nd]; decide), if_pos hem, if_neg hz]
      rw [es]
      refine chg_same (fun g => by rw [g0] at g; cases g) fun q a b => ?_
      show pgAt s (w.swap _ _ _ _).ws q = _
      rw [swap_no hz]
  · exact chg_same (fun g => by rw [gt_of hd en fun _ => by simp] at g; cases g) fun q a b => rfl
  · rw [en] at ok nd
    have nd : m.dn = false := nd
    obtain ⟨o1, o2, o3, o4, o5⟩ := ok
    obtain ⟨-, -, -, p0, p1, k0, i0, i1, hbk⟩ := o1.of nd
    rw [o2, hts] at p1
    rw [Ft_of hd en] at ft
    have g0 := gt_of hd en fun _ => by simp
    refine ⟨fun g => (by rw [g0] at g; cases g), .inl fun q a b => ?_⟩
    show pgAt s (m.step w).2.ws q ≠ 0 ↔ _
    have hsl := slots_bd m.k
    unfold St.step
    rw [if_neg (by rw [nd]; decide)]
    split
    · rename_i e
      have := hbk e
      show pgAt s (w.store _ _ _).ws q ≠ 0 ↔ _
      rw [store_ws]; unfold St.at'; rw [o2, hts, pg_sl hm p0 p1 (by omega) (by omega) a b]
    · split
      · rename_i e
        have hsup := (ft.2 (by omega)).mod
        show pgAt s (w.store _ _ _).ws q ≠ 0 ↔ _
        rw [store_ws]; unfold St.pat; rw [o2, hts, pg_pg hm p0 p1 a b, o3, htc, held_v c0 (by omega)]
        split
        · rename_i e; rw [e]; constructor <;> intro _ <;> omega
        · exact Iff.rfl
      · rename_i e
        show pgAt s (w.swap _ _ _ _).ws q ≠ 0 ↔ _
        rw [swap_ws]; unfold St.at'; rw [o2, hts, pg_sl hm p0 p1 i0 (by omega) a b]
  · rw [en] at ok nd
    have nd : m.dn = false := nd
    obtain ⟨o1, o2, o3, o4, o5, o6, o7⟩ := ok
    obtain ⟨-, -, -, p0, p1, k0, i0, i1, hbd⟩ := o1.of nd
    rw [o2, hts] at p1
    rw [ho_bi hd en] at ow
    obtain ⟨kk0, kk3⟩ := slots_k k0
    have hsl := slots_bd m.k
    refine ⟨fun _ => ?_, .inl fun q a b => ?_⟩
    · cases hd' : (m.step w).1.dn
      · rw [Sa.set_go _ (by exact hd')]
        unfold Gt; rw [show ({ t with nw := Nw.bi (m.step w).1 } : Sk).dn = false from hd]; rfl
      · rw [Sa.set_af _ (by exact hd')]; rfl
    show pgAt s (m.step w).2.ws q ≠ 0 ↔ _
    unfold Bi.step
    rw [if_neg (by rw [nd]; decide)]
    split
    · rename_i e
      have := hbd e
      show pgAt s (w.store _ _ _).ws q ≠ 0 ↔ _
      rw [store_ws]; unfold Bi.at'; rw [o2, hts, pg_sl hm p0 p1 (by omega) (by omega) a b]
    · rename_i e
      split
      · have hh := (ow.pg m.p p0 p1).2 ⟨by simpa using e, rfl⟩
        show pgAt s (w.store _ _ _).ws q ≠ 0 ↔ _
        rw [store_ws]; unfold Bi.pat; rw [o2, hts, pg_pg hm p0 p1 a b, o3, htc, super_v kk0 (by omega) c0 (by omega)]
        split
        · rename_i e; rw [e]; constructor <;> intro _ <;> omega
        · exact Iff.rfl
      · show pgAt s (w.store _ _ _).ws q ≠ 0 ↔ _
        rw [store_ws]; unfold Bi.at'; rw [o2, hts, pg_sl hm p0 p1 i0 (by omega) a b]
end
end Sk

/-! ### Many -/
/-- One of a family, changed. -/
def upS {α : Type} (ts : Nat → α) (c : Nat) (t : α) : Nat → α := fun d => if d = c then t else ts d
structure SkInv (n : Nat) (s : Sh) (K f : Nat → Int) (ts : Nat → Sk) (w : Wd) : Prop where
  of : w.of s
  m : may s.p s.c s.m = true
  nc : (n : Int) = s.c
  bs : Bs s w.ws
  ins : ∀ c, c < n → Sk.In s c (ts c) w.ws
  kk : ∀ c, c < n → (ts c).k = K c ∧ (ts c).f = f c ∧ 0 ≤ f c ∧ f c < s.p
  sn : ∀ c, c < n → Sk.Sn s (f c) (ts c) w.ws
  got : cnt (fun q => decide (pgAt s w.ws q ≠ 0)) s.p.toNat ≤ cnt (fun c => (ts c).Gt) n
namespace SkInv
variable {n : Nat} {s : Sh} {K f : Nat → Int} {ts : Nat → Sk} {w : Wd}
end SkInv
end Go.Ma
namespace Go.Ma
open Go.Pl
open Ow
namespace Rv
/-- It has found something, or will. -/
def Sure : Rv → Prop
  | .sk t => t.Gt = true
  | .rn t => (t.dn = true ∧ t.fd = true) ∨ (t.dn = false ∧ t.nx = 5)
  | .no => False
/-- As long as there is no page that is bound, no row that is whole. -/
def Idle : Rv → Prop
  | .sk t => t.Gt = false ∧ (t.dn = false → (∀ m, t.nw ≠ .st m) ∧ ∀ m, t.nw = .sc m → m.nx = 0)
  | .rn t => (t.dn = true ∧ t.fd = false) ∨ (t.dn = false ∧ (t.nx ≤ 1 ∨ t.nx = 4))
  | .no => False
def Live : Rv → Prop
  | .sk t => t.dn = false ∧ t.nw ≠ .no
  | .rn t => t.dn = false ∧ t.nx ≤ 1
  | .no => False
section
variable {s : Sh} {c : Int} {v : Rv} {w : Wd}
theorem own_cases {t : Rn} (hd : t.dn = false) : ((Rv.rn t.own).Sure) ∨ (t.own.dn = false ∧ t.own.nx = 0 ∧ t.own.hd = t.hd ∧ t.own.at' = t.at' + 1) := by
  unfold Rn.own
  split
  · left
    unfold Rn.written
    split
    · exact .inl ⟨rfl, rfl⟩
    · exact .inr ⟨hd, rfl⟩
  · exact .inr ⟨hd, rfl, rfl, rfl⟩
theorem gone_idle {t : Rn} (hd : t.dn = false) (hf : t.fd = false) (hx : t.nx = 4) : (Rv.rn t.gone).Idle := by
  unfold Rn.gone
  split
  · exact .inr ⟨hd, .inr hx⟩
  · cases e : decide (t.s.p - t.n < t.at' + 1)
    · exact .inr ⟨rfl, .inl (by show (0 : Int) ≤ 1; decide)⟩
    · exact .inl ⟨rfl, hf⟩
theorem miss_idle {t : Rn} (hd : t.dn = false) (hf : t.fd = false) : (Rv.rn t.miss).Idle := gone_idle (t := { t with nx := 4, i := t.at', gx := t.at' + 1 }) hd hf rfl
theorem sure_step (hi : In s c v w.ws) (hB : Bs s w.ws) (h : v.Sure) : (v.step w).1.Sure := by
  cases v with
  | sk t => exact (Sk.In.chg hi hB).1 h
  | rn t =>
    have hi : Rn.In s c t w.ws := hi
    have h : (t.dn = true ∧ t.fd = true) ∨ (t.dn = false ∧ t.nx = 5) := h
    show (Rv.rn (t.step w).1).Sure
    rcases h with ⟨h1, h2⟩ | ⟨h1, h2⟩
    · rw [Rn.step_dn h1]; exact .inl ⟨h1, h2⟩
    · rcases Rn.step_cases hi.wf w with ⟨e, -⟩ | ⟨-, ⟨e, -⟩ | ⟨e, -⟩ | ⟨e, -⟩ | ⟨e, -⟩ | ⟨e, -⟩ | ⟨-, e⟩⟩
      · rw [h1] at e; cases e
      · omega
      · omega
      · omega
      · omega
      · omega
      · rw [e]
        unfold Rn.written
        split
        · exact .inl ⟨rfl, rfl⟩
        · exact .inr ⟨h1, h2⟩
  | no => cases h
end
end Rv
/-- Nobody is sure. -/
structure NS (n : Nat) (s : Sh) (rv : Nat → Rv) (ws : Nat → Int) : Prop where
  id : ∀ c, c < n → (rv c).Idle
  ho : ∀ q, 0 ≤ q → q < s.p → pgAt s ws q ≠ 0 → ∃ c : Nat, c < n ∧ pgAt s ws q = 1 + 16 * c
  top : ((∀ q, 0 ≤ q → q < s.p → pgAt s ws q = 0) ∧ ∀ c, c < n → (rv c).Live) ∨ ∃ c t q, c < n ∧ rv c = .rn t ∧ t.dn = false ∧ t.nx ≤ 1 ∧ q + 1 = t.at' ∧ ∀ q', q < q' → 0 ≤ q' → q' < s.p → pgAt s ws q' = 0
def TG (n : Nat) (s : Sh) (rv : Nat → Rv) (ws : Nat → Int) : Prop := (∃ c, c < n ∧ (rv c).Sure) ∨ NS n s rv ws
section
variable {n : Nat} {s : Sh} {N : Nat → Int} {rv : Nat → Rv} {cm : Nat → Option Cm} {w : Wd}
theorem word_held {q x : Int} (hm : may s.p s.c s.m = true) (q0 : 0 ≤ q) (q1 : q < s.p) {c : Nat} (hc : (c : Int) < s.c) (h : x = 1 + 16 * (c : Int)) : okPg s q x = true ∧ pgK s q x = 1 ∧ pgA s q x = c := by
  rw [h]; exact rd_h hm q0 q1 (by omega) hc
/-- A seeker's step. -/
theorem sk_ns (hm : may s.p s.c s.m = true) (h0 : s.m = 0) {c : Int} {t : Sk} (hi : Sk.In s c t w.ws) (hh : ∀ q, 0 ≤ q → q < s.p → pgAt s w.ws q ≠ 0 → pgK s q (pgAt s w.ws q) = 1) (h : (Rv.sk t).Idle) :
    (Rv.sk (t.step w).1).Sure ∨ ((Rv.sk (t.step w).1).Idle ∧ (∀ q, 0 ≤ q → q < s.p → pgAt s (t.step w).2.ws q = pgAt s w.ws q) ∧ ((∀ q, 0 ≤ q → q < s.p → pgAt s w.ws q = 0) → (Rv.sk t).Live → (Rv.sk (t.step w).1).Live)) := by
  have hb := (may_iff _ _ _).1 hm
  have hts := hi.es
  obtain ⟨g1, g2⟩ := h
  have hk : ∀ q, 0 ≤ q → q < s.p → pgK s q (pgAt s w.ws q) ≠ 2 := fun q q0 q1 g => by
    by_cases e : pgAt s w.ws q = 0
    · rw [e, pgK_zero] at g; cases g
    · rw [hh q q0 q1 e] at g; cases g
  rcases Sk.step_cases t w with ⟨hd, e⟩ | ⟨hd, hc⟩
  · rw [e]; exact .inr ⟨⟨g1, g2⟩, fun _ _ _ => rfl, fun _ l => l⟩
  have hfd := hi.wf.fd hd
  obtain ⟨ok, nd⟩ := hi.wf.nw hd
  obtain ⟨k1, k2⟩ := g2 hd
  rcases hc with ⟨m, en, e⟩ | ⟨m, en, e⟩ | ⟨m, en, e⟩ | ⟨en, e⟩ | ⟨m, en, e⟩ | ⟨m, en, e⟩ <;> rw [e]
  · rw [en] at ok nd
    have nd : m.dn = false := nd
    obtain ⟨o1, o2, -⟩ := ok
    obtain ⟨-, -, -, i0, i1⟩ := o1.of nd
    rw [o2, hts, h0] at i1
    omega
  · rw [en] at ok nd
    have nd : m.dn = false := nd
    obtain ⟨o1, o2, o3, o4, o5, o6, o7, o8⟩ := ok
    have nx := k2 m en
    obtain ⟨-, -, -, -, -, m0, m1, -⟩ := o1.of nd
    rw [o2, hts] at m1
    have hq : 0 ≤ m.pg ∧ m.pg < s.p := by
      unfold Sc.pg; rw [o2, hts]
      exact ⟨Int.emod_nonneg _ (by omega), Int.emod_lt_of_pos _ (by omega)⟩
    have hmine : m.mine w = false := by
      have hp : w.get m.pat = pgAt s w.ws m.pg := by unfold Sc.pat; rw [o2, hts]; rfl
      unfold Sc.mine
      rw [hp, o2, hts, decide_eq_false (hk m.pg hq.1 hq.2)]
      simp
    have es : m.step w = (m.turn, w.load m.c m.pat) := by
      unfold Sc.step; rw [if_neg (by rw [nd]; decide), if_pos nx, hmine]; rfl
    rw [es]
    refine .inr ?_
    show (Rv.sk (t.set (.sc m.turn))).Idle ∧ (∀ q, 0 ≤ q → q < s.p → pgAt s w.ws q = pgAt s w.ws q) ∧ (_ → (Rv.sk t).Live → (Rv.sk (t.set (.sc m.turn))).Live)
    cases hl : m.turn.dn
    · rw [Sa.set_go t (m := .sc m.turn) hl]
      refine ⟨⟨Sk.gt_of (t := { t with nw := .sc m.turn }) hd rfl (fun _ => by simp), fun _ => ⟨fun _ => by simp, fun m' g => ?_⟩⟩, fun _ _ _ => rfl, fun _ _ => ⟨hd, by simp⟩⟩
      injection g with g; rw [← g]; rfl
    · rw [Sa.set_af t (m := .sc m.turn) hl]
      have hmf : m.turn.fd = false := o7 nd
      have ea : ({ t with nw := .sc m.turn } : Sk).after = { t with nw := .pc (Pc.new t.s t.c t.f) } := by
        show (if m.turn.fd then _ else _ : Sk) = _; rw [hmf]; rfl
      rw [ea]
      exact ⟨⟨Sk.gt_of (t := { t with nw := .pc (Pc.new t.s t.c t.f) }) hd rfl (fun _ => by simp), fun _ => ⟨fun _ => by simp, fun m' g => (by simp at g)⟩⟩, fun _ _ _ => rfl, fun _ _ => ⟨hd, by simp⟩⟩
  · rw [en] at ok nd
    have nd : m.dn = false := nd
    obtain ⟨o1, o2, o3, o4, o5, o6⟩ := ok
    have hq : 0 ≤ m.pg ∧ m.pg < s.p := by
      unfold Pc.pg; rw [o2, hts]
      exact ⟨Int.emod_nonneg _ (by omega), Int.emod_lt_of_pos _ (by omega)⟩
    have hp : w.get m.at' = pgAt s w.ws m.pg := by unfold Pc.at'; rw [o2, hts]; rfl
    have hnf : m.fd = false := by
      have := o1; cases hmf : m.fd
      · rfl
      · exact absurd hmf (by simp_all)
    have next : ∀ W : Wd, W.ws = w.ws → w.get m.at' ≠ 0 → (Rv.sk (t.set (.pc m.next))).Idle ∧ (∀ q, 0 ≤ q → q < s.p → pgAt s W.ws q = pgAt s w.ws q) ∧ ((∀ q, 0 ≤ q → q < s.p → pgAt s w.ws q = 0) → (Rv.sk t).Live → (Rv.sk (t.set (.pc m.next))).Live) := fun W hW hx => by
      have hbl : (∀ q, 0 ≤ q → q < s.p → pgAt s w.ws q = 0) → False := fun g => hx (by rw [hp]; exact g _ hq.1 hq.2)
      refine ⟨?_, fun _ _ _ => by rw [hW], fun g => (hbl g).elim⟩
      cases hl : m.next.dn
      · rw [Sa.set_go t (m := .pc m.next) hl]
        exact ⟨Sk.gt_of (t := { t with nw := .pc m.next }) hd rfl (fun _ => by simp), fun _ => ⟨fun _ => by simp, fun m' g => (by simp at g)⟩⟩
      · rw [Sa.set_af t (m := .pc m.next) hl]
        have ea : ({ t with nw := .pc m.next } : Sk).after = { t with nw := .no } := by
          show (if m.fd then _ else _ : Sk) = _; rw [hnf]; rfl
        rw [ea]
        exact ⟨Sk.gt_of (t := { t with nw := .no }) hd rfl (fun _ => by simp), fun _ => ⟨fun _ => by simp, fun m' g => (by simp at g)⟩⟩
    cases hem : m.em
    · by_cases hx : w.get m.at' = 0
      · have es : m.step w = ({ m with em := true }, w.load m.c m.at') := by unfold Pc.step; rw [if_neg (by rw [nd]; decide), if_neg (by rw [hem]; decide), if_pos hx]
        rw [es]
        refine .inr ?_
        show (Rv.sk (t.set (.pc { m with em := true }))).Idle ∧ (∀ q, 0 ≤ q → q < s.p → pgAt s w.ws q = pgAt s w.ws q) ∧ (_ → (Rv.sk t).Live → (Rv.sk (t.set (.pc { m with em := true }))).Live)
        rw [Sa.set_go t (m := .pc { m with em := true }) nd]
        exact ⟨⟨Sk.gt_of (t := { t with nw := .pc { m with em := true } }) hd rfl (fun _ => by simp), fun _ => ⟨fun _ => by simp, fun m' g => (by simp at g)⟩⟩, fun _ _ _ => rfl, fun _ _ => ⟨hd, by simp⟩⟩
      · have es : m.step w = (m.next, w.load m.c m.at') := by unfold Pc.step; rw [if_neg (by rw [nd]; decide), if_neg (by rw [hem]; decide), if_neg hx]
        rw [es]
        exact .inr (next _ rfl hx)
    · by_cases hx : w.get m.at' = 0
      · have es : m.step w = ({ m with fd := true, dn := true }, w.swap m.c m.at' 0 (held m.c)) := by unfold Pc.step; rw [if_neg (by rw [nd]; decide), if_pos hem, if_pos hx]
        rw [es]
        left
        show Sk.Gt (t.set (.pc { m with fd := true, dn := true })) = true
        rw [Sa.set_af t (m := .pc { m with fd := true, dn := true }) rfl]
        exact Sk.gt_bind (t := { t with nw := .pc { m with fd := true, dn := true } }) m.pg hd
      · have es : m.step w = (m.next, w.swap m.c m.at' 0 (held m.c)) := by unfold Pc.step; rw [if_neg (by rw [nd]; decide), if_pos hem, if_neg hx]
        rw [es]
        exact .inr (next _ (swap_no hx) hx)
  · have hq : 0 ≤ t.here ∧ t.here < s.p := by
      unfold Sk.here; rw [hts]
      exact ⟨Int.emod_nonneg _ (by omega), Int.emod_lt_of_pos _ (by omega)⟩
    have hs : t.isSup w = false := by
      have hp : w.get t.pat = pgAt s w.ws t.here := by unfold Sk.pat; rw [hts]; rfl
      unfold Sk.isSup
      rw [hp, hts, decide_eq_false (hk _ hq.1 hq.2)]; simp
    have el : t.look w = t.turn := by unfold Sk.look; rw [hs]; rfl
    rw [el]
    refine .inr ⟨⟨?_, fun _ => ⟨fun _ => by simp [Sk.turn], fun m' g => (by simp [Sk.turn] at g)⟩⟩, fun _ _ _ => rfl, fun _ l => absurd en l.2⟩
    unfold Sk.Gt Sk.turn
    cases decide (t.many + 1 = t.s.p)
    · rfl
    · exact hfd
  · exact absurd en (k1 m)
  · rw [show t.Gt = true by unfold Sk.Gt; rw [hd, en]; rfl] at g1; cases g1
theorem TG.step (h : TM n s N rv cm w) (h0 : s.m = 0) {c : Nat} (hc : c < n) (hn : cm c = none) (g : TG n s rv w.ws) : TG n s (upT rv c ((rv c).step w).1) ((rv c).step w).2.ws := by
  have hm := h.m
  have hb := (may_iff _ _ _).1 hm
  have hi := h.r c hc hn
  have hcc : (c : Int) < s.c := by have := h.nc; omega
  rcases g with ⟨d, hd, hs⟩ | g
  · by_cases e : d = c
    · subst e; exact .inl ⟨d, hd, by rw [upT_same]; exact Rv.sure_step hi h.bs hs⟩
    · exact .inl ⟨d, hd, by rw [upT_ne _ _ e]; exact hs⟩
  have hh : ∀ q, 0 ≤ q → q < s.p → pgAt s w.ws q ≠ 0 → pgK s q (pgAt s w.ws q) = 1 := fun q q0 q1 hx => by
    obtain ⟨d, hd, e⟩ := g.ho q q0 q1 hx
    exact (word_held hm q0 q1 (by have := h.nc; omega) e).2.1
  have hid := g.id c hc
  -- pages are as they were; it is idle still
  have same : ∀ v' ws', v'.Idle → (∀ q, 0 ≤ q → q < s.p → pgAt s ws' q = pgAt s w.ws q) → ((∀ q, 0 ≤ q → q < s.p → pgAt s w.ws q = 0) → (rv c).Live → v'.Live) → (∀ t q, rv c = .rn t → t.dn = false → t.nx ≤ 1 → q + 1 = t.at' → (∀ q', q < q' → 0 ≤ q' → q' < s.p → pgAt s w.ws q' = 0) → ∃ t', v' = .rn t' ∧ t'.dn = false ∧ t'.nx ≤ 1 ∧ q + 1 = t'.at') → TG n s (upT rv c v') ws' := fun v' ws' i1 i2 i3 i4 => by
    refine .inr ⟨fun d hd => ?_, fun q q0 q1 hx => ?_, ?_⟩
    · by_cases e : d = c
      · subst e; rw [upT_same]; exact i1
      · rw [upT_ne _ _ e]; exact g.id d hd
    · rw [i2 q q0 q1] at hx ⊢; exact g.ho q q0 q1 hx
    · rcases g.top with ⟨z, l⟩ | ⟨d, t, q, d1, d2, d3, d4, d5, d6⟩
      · refine .inl ⟨fun q q0 q1 => by rw [i2 q q0 q1]; exact z q q0 q1, fun d hd => ?_⟩
        by_cases e : d = c
        · subst e; rw [upT_same]; exact i3 z (l d hd)
        · rw [upT_ne _ _ e]; exact l d hd
      · by_cases e : d = c
        · subst e
          obtain ⟨t', e1, e2, e3, e4⟩ := i4 t q d2 d3 d4 d5 d6
          exact .inr ⟨d, t', q, d1, by rw [upT_same]; exact e1, e2, e3, e4, fun q' a b x => by rw [i2 q' b x]; exact d6 q' a b x⟩
        · exact .inr ⟨d, t, q, d1, by rw [upT_ne _ _ e]; exact d2, d3, d4, d5, fun q' a b x => by rw [i2 q' b x]; exact d6 q' a b x⟩
  cases hv : rv c with
  | no => rw [hv] at hid; cases hid
  | sk t =>
    rw [hv] at hi hid
    have hi : Sk.In s c t w.ws := hi
    rcases sk_ns (w := w) hm h0 hi hh hid with hs | ⟨j1, j2, j3⟩
    · exact .inl ⟨c, hc, by rw [upT_same]; exact hs⟩
    · exact same (.sk (t.step w).1) (t.step w).2.ws j1 j2 (fun a b => j3 a (by rw [hv] at b; exact b)) fun t' q e => by rw [hv] at e; cases e
  | rn t =>
    rw [hv] at hi hid
    have hi : Rn.In s c t w.ws := hi
    have hts := hi.es
    have htc := hi.ec
    show TG n s (upT rv c (.rn (t.step w).1)) (t.step w).2.ws
    rcases Rn.step_cases hi.wf w with ⟨hd, e⟩ | ⟨hd, hcs⟩
    · rw [e]
      exact same (.rn t) w.ws hid (fun _ _ _ => rfl) (fun _ b => by rw [hv] at b; exact b) fun t' q e' => by rw [hv] at e'; injection e' with e'; subst e'; intro x; rw [hd] at x; cases x
    obtain ⟨-, hfd, har⟩ := hi.wf.of hd
    unfold Rn.Ar at har
    rw [hts] at har
    have hnx : t.nx ≤ 1 ∨ t.nx = 4 := by
      rcases hid with ⟨x, -⟩ | ⟨-, x⟩
      · rw [hd] at x; cases x
      · exact x
    have hat : t.pat = page s.p s.c s.m t.at' := by unfold Rn.pat; rw [hts]
    have hg : w.get t.pat = pgAt s w.ws t.at' := by rw [hat]; rfl
    have a0 : 0 ≤ t.at' := by omega
    have a1 : t.at' < s.p := by omega
    -- a page that it cannot have
    have miss : ∀ W : Wd, W.ws = w.ws → pgAt s w.ws t.at' ≠ 0 → TG n s (upT rv c (.rn t.miss)) W.ws := fun W hW hx => by
      refine same (.rn t.miss) W.ws (Rv.miss_idle hd hfd) (fun _ _ _ => by rw [hW]) (fun z => absurd (z _ a0 a1) hx) fun t' q e' => ?_
      rw [hv] at e'; injection e' with e'; subst e'
      intro _ _ hq hz
      exact absurd (hz _ (by omega) a0 a1) hx
    rcases hcs with ⟨e0, e⟩ | ⟨e0, e⟩ | ⟨e0, -⟩ | ⟨e0, -⟩ | ⟨e0, e⟩ | ⟨e0, -⟩
    · rw [e]
      show TG n s (upT rv c (.rn (t.look (w.get t.pat)))) w.ws
      by_cases hx : pgAt s w.ws t.at' = 0
      · have el : t.look (w.get t.pat) = { t with nx := 1 } := by
          unfold Rn.look
          rw [hg, hx]
          have : t.isE 0 = true := by unfold Rn.isE; rw [hts, okPg_zero hm a0 a1, pgK_zero]; rfl
          rw [if_pos this]
        rw [el]
        refine same (.rn { t with nx := 1 }) w.ws (.inr ⟨hd, .inl (by show (1 : Int) ≤ 1; decide)⟩) (fun _ _ _ => rfl) (fun _ _ => ⟨hd, by show (1 : Int) ≤ 1; decide⟩) fun t' q e' => ?_
        rw [hv] at e'; injection e' with e'; subst e'
        intro _ _ hq _
        exact ⟨{ t with nx := 1 }, rfl, hd, by show (1 : Int) ≤ 1; decide, hq⟩
      · have hk := hh _ a0 a1 hx
        have el : t.look (w.get t.pat) = t.miss := by
          unfold Rn.look
          rw [hg]
          have h1 : t.isE (pgAt s w.ws t.at') = false := by unfold Rn.isE; rw [hts, decide_eq_false (by rw [hk]; decide)]; simp
          have h2 : t.isS (pgAt s w.ws t.at') = false := by unfold Rn.isS; rw [hts, decide_eq_false (by rw [hk]; decide)]; simp
          rw [if_neg (by rw [h1]; decide), if_neg (by rw [h2]; decide)]
        rw [el]; exact miss w rfl hx
    · rw [e]
      show TG n s (upT rv c (.rn (t.claim (w.get t.pat)))) (w.swap t.c t.pat 0 (held t.c)).ws
      by_cases hx : pgAt s w.ws t.at' = 0
      · have el : t.claim (w.get t.pat) = t.own := by unfold Rn.claim; rw [hg, hx]; rfl
        have ew : (w.swap t.c t.pat 0 (held t.c)).ws = upW w.ws (page s.p s.c s.m t.at') (1 + 16 * c) := by
          rw [swap_yes (by rw [hg]; exact hx), hat, htc, held_v (by omega) (by omega)]
        rw [el, ew]
        rcases Rv.own_cases hd with hs | ⟨j1, j2, j3, j4⟩
        · exact .inl ⟨c, hc, by rw [upT_same]; exact hs⟩
        have hp : ∀ q, 0 ≤ q → q < s.p → pgAt s (upW w.ws (page s.p s.c s.m t.at') (1 + 16 * c)) q = if q = t.at' then 1 + 16 * (c : Int) else pgAt s w.ws q := fun q q0 q1 => pg_pg hm a0 a1 q0 q1
        refine .inr ⟨fun d hd' => ?_, fun q q0 q1 hxq => ?_, ?_⟩
        · by_cases e : d = c
          · subst e; rw [upT_same]; exact .inr ⟨j1, .inl (by omega)⟩
          · rw [upT_ne _ _ e]; exact g.id d hd'
        · rw [hp q q0 q1] at hxq ⊢
          by_cases e : q = t.at'
          · rw [if_pos e]; exact ⟨c, hc, rfl⟩
          · rw [if_neg e] at hxq ⊢; exact g.ho q q0 q1 hxq
        · -- the highest page that is not empty
          have mine : (∀ q', t.at' < q' → 0 ≤ q' → q' < s.p → pgAt s w.ws q' = 0) → ∃ c' t' q, c' < n ∧ upT rv c (.rn t.own) c' = .rn t' ∧ t'.dn = false ∧ t'.nx ≤ 1 ∧ q + 1 = t'.at' ∧ ∀ q', q < q' → 0 ≤ q' → q' < s.p → pgAt s (upW w.ws (page s.p s.c s.m t.at') (1 + 16 * c)) q' = 0 := fun z =>
            ⟨c, t.own, t.at', hc, upT_same _ _ _, j1, by omega, j4.symm, fun q' a b x => by rw [hp q' b x, if_neg (by omega)]; exact z q' a b x⟩
          rcases g.top with ⟨z, l⟩ | ⟨d, t', q, d1, d2, d3, d4, d5, d6⟩
          · exact .inr (mine fun q' a b x => z q' b x)
          · by_cases e : q < t.at'
            · exact .inr (mine fun q' a b x => d6 q' (by omega) b x)
            · by_cases e2 : d = c
              · subst e2
                rw [hv] at d2; injection d2 with d2; subst d2
                omega
              · exact .inr ⟨d, t', q, d1, by rw [upT_ne _ _ e2]; exact d2, d3, d4, d5, fun q' a b x => by rw [hp q' b x, if_neg (by omega)]; exact d6 q' a b x⟩
      · have el : t.claim (w.get t.pat) = t.miss := by unfold Rn.claim; rw [hg, if_neg hx]
        rw [el]; exact miss _ (swap_no (by rw [hg]; exact hx)) hx
    · omega
    · omega
    · rw [e]
      show TG n s (upT rv c (.rn ({ t with i := t.i - 1 } : Rn).gone)) (w.store t.c t.bat 0).ws
      have hib : 0 ≤ t.i - 1 ∧ t.i - 1 < s.p := by have := har.2.2.2.2.2.2.2.2.2.2.2.1 e0; omega
      have hba : t.bat = page s.p s.c s.m (t.i - 1) := by unfold Rn.bat; rw [hts]
      have hp : ∀ q, 0 ≤ q → q < s.p → pgAt s (w.store t.c t.bat 0).ws q = if q = t.i - 1 then 0 else pgAt s w.ws q := fun q q0 q1 => by rw [store_ws, hba]; exact pg_pg hm hib.1 hib.2 q0 q1
      refine .inr ⟨fun d hd' => ?_, fun q q0 q1 hxq => ?_, ?_⟩
      · by_cases e : d = c
        · subst e; rw [upT_same]; exact Rv.gone_idle (t := { t with i := t.i - 1 }) hd hfd e0
        · rw [upT_ne _ _ e]; exact g.id d hd'
      · rw [hp q q0 q1] at hxq ⊢
        split at hxq
        · exact absurd rfl hxq
        · rename_i e; rw [if_neg e]; exact g.ho q q0 q1 hxq
      · rcases g.top with ⟨z, l⟩ | ⟨d, t', q, d1, d2, d3, d4, d5, d6⟩
        · have := l c hc
          rw [hv] at this
          have := this.2
          omega
        · by_cases e2 : d = c
          · subst e2
            rw [hv] at d2; injection d2 with d2; subst d2
            omega
          · exact .inr ⟨d, t', q, d1, by rw [upT_ne _ _ e2]; exact d2, d3, d4, d5, fun q' a b x => by
              rw [hp q' b x]
              split
              · rfl
              · exact d6 q' a b x⟩
    · omega
/-- At the end one has found something. -/
theorem TG.ends (g : TG n s rv w.ws) (hn : 0 < n) (hd : ∀ c, c < n → (rv c).dn = true) : ∃ c, c < n ∧ (rv c).fd = true := by
  rcases g with ⟨c, hc, hs⟩ | g
  · refine ⟨c, hc, ?_⟩
    have h1 := hd c hc
    cases hv : rv c with
    | sk t =>
      rw [hv] at hs h1
      have hs : t.Gt = true := hs
      have h1 : t.dn = true := h1
      unfold Sk.Gt at hs; rw [if_pos h1] at hs; exact hs
    | rn t =>
      rw [hv] at hs h1
      have hs : (t.dn = true ∧ t.fd = true) ∨ (t.dn = false ∧ t.nx = 5) := hs
      have h1 : t.dn = true := h1
      rcases hs with ⟨-, x⟩ | ⟨x, -⟩
      · exact x
      · rw [h1] at x; cases x
    | no => rw [hv] at hs; cases hs
  · exfalso
    rcases g.top with ⟨-, l⟩ | ⟨c, t, q, c1, c2, c3, -⟩
    · have h1 := hd 0 hn
      have h2 := l 0 hn
      cases hv : rv 0 with
      | sk t => rw [hv] at h1 h2; have h2 := h2.1; have h1 : t.dn = true := h1; rw [h1] at h2; cases h2
      | rn t => rw [hv] at h1 h2; have h2 := h2.1; have h1 : t.dn = true := h1; rw [h1] at h2; cases h2
      | no => rw [hv] at h2; cases h2
    · have h1 := hd c c1
      rw [c2] at h1
      have h1 : t.dn = true := h1
      rw [h1] at c3; cases c3
theorem TG.init (hm : may s.p s.c s.m = true) (h0 : s.m = 0) (h8 : s.p = 8) (hz : ∀ j, w.ws j = 0) (nc : (n : Int) = s.c) (hN : ∀ c, c < n → fine (N c) = true) {F : Nat → Int} (hF : ∀ c, c < n → 0 ≤ F c ∧ F c < s.p) : TG n s (fun c => Rv.new s c (N c) (F c)) w.ws := by
  have hb := (may_iff _ _ _).1 hm
  have key : ∀ c, c < n → (Rv.new s c (N c) (F c)).Idle ∧ (Rv.new s c (N c) (F c)).Live := fun c hc => by
    have c0 : 0 ≤ (c : Int) := by omega
    have c1 : (c : Int) < s.c := by omega
    unfold Rv.new
    cases e1 : small (N c)
    · simp only [Bool.false_eq_true, if_false]
      have e2 : large (N c) = true := by have := hN c hc; unfold fine at this; rw [e1] at this; exact this
      have hp := Rv.pages_bd e2
      rw [e2]
      have hok : Rn.ok s c (pages (N c)) = true := by
        unfold Rn.ok
        rw [status_yes hm c0 c1, decide_eq_true c0, decide_eq_true hp.1, decide_eq_true hp.2, decide_eq_true (by omega : pages (N c) ≤ s.p)]; rfl
      have hd : (Rn.new s c (pages (N c))).dn = false := by show (!Rn.ok s c (pages (N c))) = false; rw [hok]; rfl
      exact ⟨.inr ⟨hd, .inl (by show (0 : Int) ≤ 1; decide)⟩, hd, by show (0 : Int) ≤ 1; decide⟩
    · simp only [if_true]
      have hk := Rv.cls_bd (N c)
      have hsl := slots_four hk.1 hk.2
      obtain ⟨f0, f1⟩ := hF c hc
      have hg : (good s c (cls (N c)) && decide (0 ≤ page s.p s.c s.m (F c))) = true := by
        unfold good
        rw [status_yes hm c0 c1, page_yes hm f0 f1, decide_eq_true c0, decide_eq_true (by omega : 0 < slots (cls (N c))), decide_eq_true (by omega : 0 ≤ s.c + F c)]; rfl
      unfold Sk.new
      rw [if_pos hg]
      cases hd : (Tk.new s c (cls (N c))).dn
      · rw [Sa.set_go _ (by exact hd)]
        exact ⟨⟨rfl, fun _ => ⟨fun _ => by simp, fun m g => (by simp at g)⟩⟩, rfl, by simp⟩
      · rw [Sa.set_af _ (by exact hd)]
        refine ⟨⟨rfl, fun _ => ⟨fun m g => (by cases g), fun m g => ?_⟩⟩, rfl, fun g => (by cases g)⟩
        injection g with g; rw [← g]; rfl
  exact .inr ⟨fun c hc => (key c hc).1, fun q _ _ hx => absurd (hz _) hx, .inl ⟨fun q _ _ => hz _, fun c hc => (key c hc).2⟩⟩
end
end Go.Ma
namespace Go.Ma
open Go.Pl
open Ow
/-- How often it was its turn. -/
def tkn (T n c : Nat) : Nat → Nat
  | 0 => 0
  | k + 1 => tkn T n c k + if (T + k) % n = c then 1 else 0
theorem tkn_mono {T n c : Nat} : ∀ {j k : Nat}, j ≤ k → tkn T n c j ≤ tkn T n c k
  | j, 0, h => by have : j = 0 := by omega
                  subst this; exact Nat.le_refl _
  | j, k + 1, h => by
    by_cases e : j = k + 1
    · subst e; exact Nat.le_refl _
    · have := tkn_mono (T := T) (n := n) (c := c) (show j ≤ k by omega)
      show _ ≤ tkn T n c k + _
      omega
theorem tkn_once {T n c k : Nat} (hc : c < n) : tkn T n c k + 1 ≤ tkn T n c (k + n) := by
  obtain ⟨r, hr⟩ : ∃ r, (T + k) % n = r := ⟨_, rfl⟩
  have hr1 : r < n := by rw [← hr]; exact Nat.mod_lt _ (by omega)
  obtain ⟨j, hj, hm⟩ : ∃ j, j < n ∧ (T + (k + j)) % n = c := by
    by_cases h : r ≤ c
    · refine ⟨c - r, by omega, ?_⟩
      rw [← Nat.add_assoc, Nat.add_mod, hr, Nat.mod_eq_of_lt (by omega : c - r < n), show r + (c - r) = c by omega]
      exact Nat.mod_eq_of_lt hc
    · refine ⟨n + c - r, by omega, ?_⟩
      rw [← Nat.add_assoc, Nat.add_mod, hr, Nat.mod_eq_of_lt (by omega : n + c - r < n), show r + (n + c - r) = c + n by omega, Nat.add_mod_right]
      exact Nat.mod_eq_of_lt hc
  have h1 := tkn_mono (T := T) (n := n) (c := c) (show k ≤ k + j by omega)
  have h2 := tkn_mono (T := T) (n := n) (c := c) (show k + j + 1 ≤ k + n by omega)
  have h3 : tkn T n c (k + j + 1) = tkn T n c (k + j) + if (T + (k + j)) % n = c then 1 else 0 := rfl
  rw [if_pos hm] at h3
  omega
theorem tkn_all {T n c : Nat} (hc : c < n) : ∀ m, m ≤ tkn T n c (m * n)
  | 0 => Nat.zero_le _
  | m + 1 => by
    have h1 := tkn_all (T := T) hc m
    have h2 := tkn_once (T := T) (k := m * n) hc
    rw [Nat.succ_mul]
    omega
/-- What is left to one. -/
def lfT (v : Rv) : Option Cm → Int
  | none => if v.dn then (if v.fd then 2 else 0) else v.left + 2
  | some t => if t.dn then 0 else 1
theorem lfT_0 {v : Rv} {o : Option Cm} (hv : v.wf) (h : lfT v o ≤ 0) : v.dn = true ∧ (∀ t, o = some t → t.dn = true) ∧ (v.fd = true → o ≠ none) ∨ ∃ t, o = some t ∧ t.dn = true := by
  cases o with
  | none =>
    left
    have := Rv.left_nn hv
    cases hd : v.dn
    · simp only [lfT, hd, Bool.false_eq_true, if_false] at h
      omega
    · refine ⟨rfl, fun t g => (by cases g), fun hf => ?_⟩
      simp [lfT, hd, hf] at h
  | some t =>
    right
    refine ⟨t, rfl, ?_⟩
    cases hd : t.dn
    · simp [lfT, hd] at h
    · rfl
theorem lfT_rv {v : Rv} {w : Wd} (hv : v.wf) (h : v.dn = true → v.fd = false) : lfT (v.step w).1 none ≤ max 0 (lfT v none - 1) := by
  cases hd : v.dn
  · have h1 := Rv.step_left (w := w) hv hd
    have h2 := Rv.left_nn (Rv.step_wf (w := w) hv)
    have e1 : lfT v none = v.left + 2 := by simp only [lfT, hd, Bool.false_eq_true, if_false]
    rw [e1]
    simp only [lfT]
    split
    · split <;> omega
    · omega
  · rw [Rv.step_dn hd]
    simp only [lfT, hd, h hd, Bool.false_eq_true, if_false, if_true]; omega
theorem lfT_new {v : Rv} {t : Cm} (hd : v.dn = true) (hf : v.fd = true) (ht : t.dn = false) : lfT v (some t) ≤ max 0 (lfT v none - 1) := by
  simp only [lfT, hd, hf, ht, Bool.false_eq_true, if_false, if_true]; omega
theorem lfT_cm {v : Rv} {t : Cm} {w : Wd} : lfT v (some (t.step w).1) ≤ max 0 (lfT v (some t) - 1) := by
  have h : (t.step w).1.dn = true := by
    unfold Cm.step
    split
    · assumption
    · split <;> rfl
  simp only [lfT, h, if_true]
  omega
structure TJ (n : Nat) (s : Sh) (N : Nat → Int) (T : Nat) (M : Int) (i : Nat) (rv : Nat → Rv) (cm : Nat → Option Cm) (w : Wd) : Prop where
  tm : TM n s N rv cm w
  tg : s.p = 8 → TG n s rv w.ws
  m0 : s.m = 0
  lf : ∀ c, c < n → lfT (rv c) (cm c) ≤ max 0 (M - tkn T n c (i - T))
namespace TJ
variable {n : Nat} {s : Sh} {N : Nat → Int} {T : Nat} {M : Int} {i : Nat} {rv rv' : Nat → Rv} {cm cm' : Nat → Option Cm} {w : Wd}
theorem go (h : ∀ c, c < n → lfT (rv c) (cm c) ≤ max 0 (M - tkn T n c (i - T))) {c : Nat} (hi : T ≤ i → i % n = c) (h1 : ∀ d, d ≠ c → rv' d = rv d ∧ cm' d = cm d) (h2 : lfT (rv' c) (cm' c) ≤ max 0 (lfT (rv c) (cm c) - 1)) : ∀ d, d < n → lfT (rv' d) (cm' d) ≤ max 0 (M - tkn T n d (i + 1 - T)) := by
  intro d hd
  have hl := h d hd
  by_cases hT : T ≤ i
  · have e : i + 1 - T = (i - T) + 1 := by omega
    have e2 : T + (i - T) = i := by omega
    rw [e]
    show _ ≤ max 0 (M - ((tkn T n d (i - T) + if (T + (i - T)) % n = d then 1 else 0 : Nat) : Int))
    rw [e2, hi hT]
    by_cases ed : d = c
    · subst ed
      rw [if_pos rfl]
      omega
    · rw [(h1 d ed).1, (h1 d ed).2, if_neg (fun g => ed g.symm)]
      exact hl
  · have e : i + 1 - T = i - T := by omega
    rw [e]
    by_cases ed : d = c
    · subst ed; omega
    · rw [(h1 d ed).1, (h1 d ed).2]; exact hl
theorem stepR (h : TJ n s N T M i rv cm w) {c : Nat} (hc : c < n) (hi : T ≤ i → i % n = c) (hn : cm c = none) (hf : (rv c).dn = true → (rv c).fd = false) : TJ n s N T M (i + 1) (upT rv c ((rv c).step w).1) cm ((rv c).step w).2 :=
  ⟨h.tm.stepR hc hn, fun e => TG.step h.tm h.m0 hc hn (h.tg e), h.m0, go h.lf hi (fun d hd => ⟨upT_ne _ _ hd, rfl⟩) (by rw [upT_same, hn]; exact lfT_rv (h.tm.wf c hc).1 hf)⟩
theorem stepN (h : TJ n s N T M i rv cm w) {c : Nat} (hc : c < n) (hi : T ≤ i → i % n = c) (hn : cm c = none) (hd : (rv c).dn = true) (hf : (rv c).fd = true) : TJ n s N T M (i + 1) rv (upT cm c (some (Cm.new s c (rv c).bk))) w :=
  ⟨h.tm.stepN hc hn hd hf, h.tg, h.m0, go h.lf hi (fun d hd => ⟨rfl, upT_ne _ _ hd⟩) (by
    obtain ⟨b1, b2, b3⟩ := (h.tm.r c hc hn).found hd hf
    rw [upT_same, hn]; exact lfT_new hd hf (Cm.of_cm b1 b2 b3).2)⟩
theorem sure {v : Rv} (hd : v.dn = true) (hf : v.fd = true) : v.Sure := by
  cases v with
  | sk t =>
    have hd : t.dn = true := hd
    have hf : t.fd = true := hf
    show t.Gt = true
    unfold Sk.Gt; rw [if_pos hd]; exact hf
  | rn t => exact .inl ⟨hd, hf⟩
  | no => cases hf
theorem stepC (h : TJ n s N T M i rv cm w) {c : Nat} (hc : c < n) (hi : T ≤ i → i % n = c) {t : Cm} (ht : cm c = some t) : TJ n s N T M (i + 1) rv (upT cm c (some (t.step w).1)) (t.step w).2 := by
  obtain ⟨f1, f2, -⟩ := h.tm.k c hc t ht
  exact ⟨h.tm.stepC hc ht, fun _ => .inl ⟨c, hc, sure f1 f2⟩, h.m0, go h.lf hi (fun d hd => ⟨rfl, upT_ne _ _ hd⟩) (by rw [upT_same, ht]; exact lfT_cm)⟩
theorem init {F : Nat → Int} (hm : may s.p s.c s.m = true) (h0 : s.m = 0) (hof : w.of s) (hz : ∀ j, w.ws j = 0) (nc : (n : Int) = s.c) (hN : ∀ c, c < n → fine (N c) = true) (hF : ∀ c, c < n → 0 ≤ F c ∧ F c < s.p) : TJ n s N T (80 * s.p + 90) 0 (fun c => Rv.new s c (N c) (F c)) (fun _ => none) w := by
  refine ⟨TM.init hm hof hz nc hN F, fun h8 => TG.init hm h0 h8 hz nc hN hF, h0, fun c hc => ?_⟩
  have h1 := Rv.new_left s c (N c) (F c) hm
  have hb := (may_iff _ _ _).1 hm
  rw [Nat.zero_sub]
  show _ ≤ max 0 (80 * s.p + 90 - ((0 : Nat) : Int))
  simp only [lfT]
  split
  · split <;> omega
  · omega
/-- When all had their turns. -/
structure Fin (n : Nat) (s : Sh) (N : Nat → Int) (rv : Nat → Rv) (cm : Nat → Option Cm) (w : Wd) : Prop where
  tm : TM n s N rv cm w
  dn : ∀ c, c < n → (rv c).dn = true
  cd : ∀ c, c < n → ∀ t, cm c = some t → t.dn = true
  fd : ∀ c, c < n → (rv c).fd = true → ∃ t, cm c = some t ∧ t.dn = true ∧ t.b = (rv c).bk
  nf : ∀ c, c < n → (rv c).fd = false → cm c = none
  on : s.p = 8 → ∃ c, c < n ∧ (rv c).fd = true
theorem fin {m : Nat} (h : TJ n s N T (m : Int) (T + n * m) rv cm w) (hn : 0 < n) : Fin n s N rv cm w := by
  have key : ∀ c, c < n → (rv c).dn = true ∧ (∀ t, cm c = some t → t.dn = true) ∧ ((rv c).fd = true → cm c ≠ none) := fun c hc => by
    have h1 := h.lf c hc
    have h2 := tkn_all (T := T) hc m
    rw [show T + n * m - T = m * n by rw [Nat.mul_comm]; omega] at h1
    rcases lfT_0 (h.tm.wf c hc).1 (by omega : lfT (rv c) (cm c) ≤ 0) with g | ⟨t, g1, g2⟩
    · exact g
    · exact ⟨(h.tm.k c hc t g1).1, fun t' g => (by rw [g1] at g; injection g with g; rw [← g]; exact g2), fun _ g => (by rw [g1] at g; cases g)⟩
  refine ⟨h.tm, fun c hc => (key c hc).1, fun c hc => (key c hc).2.1, fun c hc hf => ?_, fun c hc hf => ?_, fun h8 => TG.ends (h.tg h8) hn fun c hc => (key c hc).1⟩
  · cases e : cm c with
    | none => exact absurd e ((key c hc).2.2 hf)
    | some t => exact ⟨t, rfl, (key c hc).2.1 t e, (h.tm.k c hc t e).2.2.1⟩
  · cases e : cm c with
    | none => rfl
    | some t => have := (h.tm.k c hc t e).2.1; rw [hf] at this; cases this
/-- The blocks so far. -/
structure Got (n : Nat) (s : Sh) (rv : Nat → Rv) (c : Nat) (l : List (Int × Int)) : Prop where
  srt : Srt l
  le : l.length ≤ c
  a : ∀ z ∈ l, ∃ d, d < c ∧ (rv d).fd = true ∧ z = ((rv d).bk.ad, (rv d).bk.len)
  b : ∀ d, d < c → (rv d).fd = true → ((rv d).bk.ad, (rv d).bk.len) ∈ l
theorem Got.nil : Got n s rv 0 [] := ⟨List.Pairwise.nil, Nat.le_refl _, fun z hz => (by cases hz), fun d hd => (by omega)⟩
theorem Got.none {c : Nat} {l : List (Int × Int)} (g : Got n s rv c l) (h : (rv c).fd = false) : Got n s rv (c + 1) l :=
  ⟨g.srt, by have := g.le; omega, fun z hz => by obtain ⟨d, d1, d2⟩ := g.a z hz; exact ⟨d, by omega, d2⟩, fun d hd hf => by
    by_cases e : d = c
    · rw [e, h] at hf; cases hf
    · exact g.b d (by omega) hf⟩
theorem Got.some (f : Fin n s N rv cm w) {c : Nat} (hc : c < n) {l : List (Int × Int)} (g : Got n s rv c l) (h : (rv c).fd = true) :
    0 ≤ (rv c).bk.ad ∧ 1 ≤ (rv c).bk.len ∧ (rv c).bk.ad + (rv c).bk.len ≤ s.p * 64 ∧ (rv c).bk.len = Pl.len (N c) ∧
    ∃ pre post, l = pre ++ post ∧ (∀ z ∈ pre, 0 ≤ z.1 ∧ 1 ≤ z.2 ∧ z.1 + z.2 ≤ (rv c).bk.ad) ∧ (∀ z ∈ post, (rv c).bk.ad + (rv c).bk.len ≤ z.1 ∧ 1 ≤ z.2 ∧ z.1 + z.2 ≤ s.p * 64) ∧ Got n s rv (c + 1) (pre ++ ((rv c).bk.ad, (rv c).bk.len) :: post) := by
  have hs := f.tm.bs.snd f.tm.m
  have inb : ∀ d, d < n → (rv d).fd = true → ((rv d).bk.ad, (rv d).bk.len) ∈ blks s w.ws s.p.toNat := fun d hd hf => by
    obtain ⟨t, t1, t2, t3⟩ := f.fd d hd hf
    have := f.tm.blk_in hd t1 t2
    rw [t3] at this; exact this
  have pos : ∀ z ∈ blks s w.ws s.p.toNat, 0 ≤ z.1 ∧ 1 ≤ z.2 ∧ z.1 + z.2 ≤ s.p * 64 := fun z hz => blks_pos f.tm.m hs hz
  have hb := (may_iff _ _ _).1 f.tm.m
  have hsr : Srt (blks s w.ws s.p.toNat) := hs.srt f.tm.m _ (by omega)
  have lin : ∀ z ∈ l, z ∈ blks s w.ws s.p.toNat := fun z hz => by
    obtain ⟨d, d1, d2, d3⟩ := g.a z hz
    rw [d3]; exact inb d (by omega) d2
  have hy := inb c hc h
  obtain ⟨y0, y1, y2⟩ := pos _ hy
  have ne : ∀ z ∈ l, z ≠ ((rv c).bk.ad, (rv c).bk.len) := fun z hz e => by
    obtain ⟨d, d1, d2, d3⟩ := g.a z hz
    obtain ⟨t, t1, t2, t3⟩ := f.fd d (by omega) d2
    obtain ⟨u, u1, u2, u3⟩ := f.fd c hc h
    refine f.tm.two (show d < n by omega) hc (by omega) t1 u1 t2 u2 ?_
    rw [t3, u3]
    rw [d3] at e
    injection e
  obtain ⟨pre, post, e1, e2, e3, e4⟩ := srt_ins (y := ((rv c).bk.ad, (rv c).bk.len)) y1 g.srt (fun z hz => (pos z (lin z hz)).2.1) (fun z hz => srt_apart hsr (lin z hz) hy (ne z hz))
  refine ⟨y0, y1, y2, Rv.kd_len (f.tm.wf c hc).2.2 h, pre, post, e1, fun z hz => ?_, fun z hz => ?_, e4, ?_, fun z hz => ?_, fun d hd hf => ?_⟩
  · have := pos z (lin z (by rw [e1]; simp [hz])); exact ⟨this.1, this.2.1, e2 z hz⟩
  · have := pos z (lin z (by rw [e1]; simp [hz])); exact ⟨e3 z hz, this.2.1, this.2.2⟩
  · have := g.le
    rw [e1, List.length_append] at this
    rw [List.length_append, List.length_cons]; omega
  · rcases List.mem_append.1 hz with q | q
    · obtain ⟨d, d1, d2⟩ := g.a z (by rw [e1]; simp [q]); exact ⟨d, by omega, d2⟩
    · rcases List.mem_cons.1 q with q | q
      · exact ⟨c, by omega, h, q⟩
      · obtain ⟨d, d1, d2⟩ := g.a z (by rw [e1]; simp [q]); exact ⟨d, by omega, d2⟩
  · by_cases e : d = c
    · rw [e]; simp
    · have := g.b d (by omega) hf
      rw [e1] at this
      rcases List.mem_append.1 this with q | q
      · exact List.mem_append.2 (.inl q)
      · exact List.mem_append.2 (.inr (List.mem_cons_of_mem _ q))
/-- At the end they are the heap's blocks. -/
theorem Got.all (f : Fin n s N rv cm w) {l : List (Int × Int)} (g : Got n s rv n l) : blks s w.ws s.p.toNat = l := by
  have hs := f.tm.bs.snd f.tm.m
  have hb := (may_iff _ _ _).1 f.tm.m
  have inb : ∀ d, d < n → (rv d).fd = true → ((rv d).bk.ad, (rv d).bk.len) ∈ blks s w.ws s.p.toNat := fun d hd hf => by
    obtain ⟨t, t1, t2, t3⟩ := f.fd d hd hf
    have := f.tm.blk_in hd t1 t2
    rw [t3] at this; exact this
  have hm : ∀ z, z ∈ blks s w.ws s.p.toNat ↔ z ∈ l := fun z => by
    refine ⟨fun hz => ?_, fun hz => ?_⟩
    · obtain ⟨c, t, c1, c2, c3, c4⟩ := f.tm.in_blk hz
      obtain ⟨k1, k2, k3, -⟩ := f.tm.k c c1 t c2
      rw [c4, k3]; exact g.b c c1 k2
    · obtain ⟨d, d1, d2, d3⟩ := g.a z hz
      rw [d3]; exact inb d d1 d2
  refine srt_ext (hs.srt f.tm.m _ (by omega)) g.srt (fun z hz => (blks_pos f.tm.m hs hz).2.1) (fun z hz => (blks_pos f.tm.m hs ((hm z).2 hz)).2.1) hm
theorem Got.ne (f : Fin n s N rv cm w) {l : List (Int × Int)} (g : Got n s rv n l) (h8 : s.p = 8) : l.length ≠ 0 := fun e => by
  obtain ⟨c, hc, hf⟩ := f.on h8
  have := g.b c hc hf
  rw [List.length_eq_zero_iff.1 e] at this; cases this
end TJ
end Go.Ma
