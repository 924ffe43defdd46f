/-
  A block taken out of the row of blocks. Conditions: none.
-/
import Derived.Test.YtfopnendmcpglaaMaBlk
import Derived.Test.YtfopnendmcpglaaMaGiveA
set_option linter.unusedVariables false
set_option linter.unusedSectionVars false
set_option linter.unusedSimpArgs false
namespace Go.Ma
open Go.Pl
section
variable {s : Sh} {ws ws' : Nat → Int}
theorem blkSl_mem {p A : Int} {y : Int × Int} : ∀ {n : Nat}, y ∈ blkSl s ws p A n ↔ ∃ i : Nat, i < n ∧ slK (slAt s ws p i) = 3 ∧ y = (p * 64 + i * size A, size A)
  | 0 => by simp [blkSl]
  | n + 1 => by
    unfold blkSl
    rw [List.mem_append, blkSl_mem (n := n)]
    constructor
    · rintro (⟨i, h1, h2⟩ | h)
      · exact ⟨i, by omega, h2⟩
      · split at h
        · rename_i h3
          exact ⟨n, by omega, h3, by simpa using h⟩
        · cases h
    · rintro ⟨i, h1, h2, h3⟩
      by_cases e : i = n
      · subst e; right; rw [if_pos h2, h3]; simp
      · exact .inl ⟨i, by omega, h2, h3⟩
theorem blkPg_mem {p : Nat} {y : Int × Int} (h : y ∈ blkPg s ws p) : (pgK s p (pgAt s ws p) = 3 ∧ y = ((p : Int) * 64, pgA s p (pgAt s ws p) * 64)) ∨ (pgK s p (pgAt s ws p) = 2 ∧ ∃ i : Nat, (i : Int) < slots (pgA s p (pgAt s ws p)) ∧ slK (slAt s ws p i) = 3 ∧ y = ((p : Int) * 64 + i * size (pgA s p (pgAt s ws p)), size (pgA s p (pgAt s ws p)))) := by
  unfold blkPg at h
  split at h
  · rename_i h3; exact .inl ⟨h3, by simpa using h⟩
  · split at h
    · rename_i h2
      obtain ⟨i, h4, h5, h6⟩ := blkSl_mem.1 h
      exact .inr ⟨h2, i, by omega, h5, h6⟩
    · cases h
theorem blkPg_in {p : Nat} {y : Int × Int} (h : y ∈ blkPg s ws p) : (p : Int) * 64 ≤ y.1 ∧ y.1 < (p : Int) * 64 + 64 := by
  rcases blkPg_mem h with ⟨-, rfl⟩ | ⟨h2, i, h3, -, rfl⟩
  · show (p : Int) * 64 ≤ (p : Int) * 64 ∧ (p : Int) * 64 < (p : Int) * 64 + 64; omega
  · have hA := Gv.ok_super (pgK_ne (s := s) (q := p) (x := pgAt s ws p) (by rw [h2]; decide)) h2
    have hs := slots_four hA.1 hA.2.1
    show (p : Int) * 64 ≤ (p : Int) * 64 + i * size _ ∧ (p : Int) * 64 + i * size _ < (p : Int) * 64 + 64
    have h4 := Int.mul_le_mul_of_nonneg_right (by omega : (i : Int) + 1 ≤ slots (pgA s p (pgAt s ws p))) (by omega : 0 ≤ size (pgA s p (pgAt s ws p)))
    rw [Int.add_mul] at h4
    have h5 := Int.mul_nonneg (by omega : 0 ≤ (i : Int)) (by omega : 0 ≤ size (pgA s p (pgAt s ws p)))
    omega
theorem blks_mem {y : Int × Int} : ∀ {n : Nat}, y ∈ blks s ws n ↔ ∃ p : Nat, p < n ∧ y ∈ blkPg s ws p
  | 0 => by simp [blks]
  | n + 1 => by
    unfold blks
    rw [List.mem_append, blks_mem (n := n)]
    constructor
    · rintro (⟨p, h1, h2⟩ | h)
      · exact ⟨p, by omega, h2⟩
      · exact ⟨n, by omega, h⟩
    · rintro ⟨p, h1, h2⟩
      by_cases e : p = n
      · subst e; exact .inr h2
      · exact .inl ⟨p, by omega, h2⟩
/-- The row of blocks is what is ahead of a page, of the page, behind it. -/
theorem blks_split (p : Nat) : ∀ n, p < n → ∃ R : List (Int × Int), (∀ y ∈ R, ∃ q : Nat, p < q ∧ y ∈ blkPg s ws q) ∧ blks s ws n = blks s ws p ++ blkPg s ws p ++ R ∧ ∀ ws', (∀ q : Nat, q < n → q ≠ p → blkPg s ws' q = blkPg s ws q) → blks s ws' n = blks s ws p ++ blkPg s ws' p ++ R
  | 0, h => by omega
  | n + 1, h => by
    by_cases e : p = n
    · subst e
      refine ⟨[], by simp, by simp [blks], fun ws' hw => ?_⟩
      have : blks s ws' p = blks s ws p := blks_congr fun q hq => hw q (by omega) (by omega)
      simp [blks, this]
    · obtain ⟨R, h1, h2, h3⟩ := blks_split p n (by omega)
      refine ⟨R ++ blkPg s ws n, fun y hy => ?_, ?_, fun ws' hw => ?_⟩
      · rcases List.mem_append.1 hy with hy | hy
        · exact h1 y hy
        · exact ⟨n, by omega, hy⟩
      · show blks s ws n ++ blkPg s ws n = _
        rw [h2]; simp
      · show blks s ws' n ++ blkPg s ws' n = _
        rw [h3 ws' fun q hq hne => hw q (by omega) hne, hw n (by omega) (by omega)]; simp
theorem blkSl_split {p A : Int} (i : Nat) : ∀ n, i < n → ∃ R : List (Int × Int), (∀ y ∈ R, ∃ j : Nat, i < j ∧ j < n ∧ y = (p * 64 + j * size A, size A)) ∧ blkSl s ws p A n = blkSl s ws p A i ++ (if slK (slAt s ws p i) = 3 then [(p * 64 + i * size A, size A)] else []) ++ R ∧
    ∀ ws', (∀ j : Nat, j < n → j ≠ i → (slK (slAt s ws' p j) = 3 ↔ slK (slAt s ws p j) = 3)) → slK (slAt s ws' p i) ≠ 3 → blkSl s ws' p A n = blkSl s ws p A i ++ R
  | 0, h => by omega
  | n + 1, h => by
    by_cases e : i = n
    · subst e
      refine ⟨[], by simp, by simp [blkSl], fun ws' hw hn => ?_⟩
      have : blkSl s ws' p A i = blkSl s ws p A i := blkSl_congr fun j hj => hw j (by omega) (by omega)
      simp [blkSl, this, hn]
    · obtain ⟨R, h1, h2, h3⟩ := blkSl_split (p := p) (A := A) i n (by omega)
      refine ⟨R ++ (if slK (slAt s ws p n) = 3 then [(p * 64 + n * size A, size A)] else []), fun y hy => ?_, ?_, fun ws' hw hn => ?_⟩
      · rcases List.mem_append.1 hy with hy | hy
        · obtain ⟨j, j1, j2, j3⟩ := h1 y hy; exact ⟨j, j1, by omega, j3⟩
        · split at hy
          · exact ⟨n, by omega, by omega, by simpa using hy⟩
          · cases hy
      · show blkSl s ws p A n ++ _ = _
        rw [h2]; simp only [List.append_assoc]
      · show blkSl s ws' p A n ++ _ = _
        rw [h3 ws' (fun j hj hne => hw j (by omega) hne) hn]
        have := hw n (by omega) (by omega)
        by_cases e3 : slK (slAt s ws p n) = 3
        · rw [if_pos e3, if_pos (this.2 e3)]; simp
        · rw [if_neg e3, if_neg fun x => e3 (this.1 x)]; simp
/-- One block alone is gone. -/
def Out (l l' : List (Int × Int)) (a : Int) : Prop := ∃ pre post y, l = pre ++ [y] ++ post ∧ l' = pre ++ post ∧ y.1 = a ∧ (∀ z ∈ pre, z.1 ≠ a) ∧ ∀ z ∈ post, z.1 ≠ a
theorem page_out {p n : Nat} (hp : p < n) (hw : ∀ q : Nat, q < n → q ≠ p → blkPg s ws' q = blkPg s ws q) {a : Int} (ho : Out (blkPg s ws p) (blkPg s ws' p) a) : Out (blks s ws n) (blks s ws' n) a := by
  obtain ⟨R, h1, h2, h3⟩ := blks_split (s := s) (ws := ws) p n hp
  obtain ⟨pre, post, y, e1, e2, e3, e4, e5⟩ := ho
  have hy : y ∈ blkPg s ws p := by rw [e1]; simp
  have hya := blkPg_in hy
  rw [e3] at hya
  refine ⟨blks s ws p ++ pre, post ++ R, y, ?_, ?_, e3, fun z hz => ?_, fun z hz => ?_⟩
  · rw [h2, e1]; simp
  · rw [h3 ws' hw, e2]; simp
  · rcases List.mem_append.1 hz with hz | hz
    · obtain ⟨q, q1, q2⟩ := blks_mem.1 hz
      have := blkPg_in q2; omega
    · exact e4 z hz
  · rcases List.mem_append.1 hz with hz | hz
    · exact e5 z hz
    · obtain ⟨q, q1, q2⟩ := h1 z hz
      have := blkPg_in q2; omega
end
section
variable {s : Sh} {ws0 ws : Nat → Int} {pg A i c sl x : Int}
theorem LX.out {P n : Nat} (hm : may s.p s.c s.m = true) (hsn : Snd s ws0) (hP : (P : Int) = pg) (p1 : pg < s.p) (hn : P < n) (hn2 : (n : Int) ≤ s.p) (hk : pgK s pg (pgAt s ws0 pg) = 3) (hA : pgA s pg (pgAt s ws0 pg) = A) (c0 : 0 ≤ c) (c1 : c < s.c) (i0 : 0 ≤ i) (i1 : i < A) (h : LX s ws0 pg A c i ws) :
    Out (blks s ws0 n) (blks s ws n) (pg * 64) := by
  subst hP
  refine page_out (p := P) hn (fun q hq hne => ?_) ?_
  · by_cases e : (P : Int) < q ∧ (q : Int) ≤ P + i
    · have hb := row_body hm hsn (by omega) p1 hk hA (j := (q : Int) - P) (by omega) (by omega)
      have hz := h.em ((q : Int) - P) (by omega) (by omega)
      rw [show (P : Int) + ((q : Int) - P) = q by omega] at hb hz
      rw [blkPg_none (by rw [hz, pgK_zero]; decide) (by rw [hz, pgK_zero]; decide), blkPg_none (by rw [hb.1]; decide) (by rw [hb.1]; decide)]
    · have hq2 := h.ot q (by omega) (by omega) (by omega) e
      exact blkPg_congr (by rw [hq2]) (fun _ => by rw [hq2]) fun _ j hj => by rw [h.sl q j (by omega) (by omega) (by omega) (by omega)]
  · have h1 : blkPg s ws0 P = [((P : Int) * 64, A * 64)] := by unfold blkPg; rw [if_pos hk, hA]
    have h2 : blkPg s ws P = [] := by
      rcases h.hd with hh | ⟨hh, -⟩
      · have ho := held_ok hm (by omega : (0 : Int) ≤ P) p1 c0 c1
        exact blkPg_none (by rw [hh, ho.2.1]; decide) (by rw [hh, ho.2.1]; decide)
      · exact blkPg_none (by rw [hh, pgK_zero]; decide) (by rw [hh, pgK_zero]; decide)
    rw [h1, h2]
    exact ⟨[], [], _, rfl, rfl, rfl, by simp, by simp⟩
theorem SX.out {e : Option Int} {P n : Nat} (hm : may s.p s.c s.m = true) (hP : (P : Int) = pg) (p1 : pg < s.p) (hn : P < n) (hn2 : (n : Int) ≤ s.p) (hk : pgK s pg (pgAt s ws0 pg) = 2) (hA : pgA s pg (pgAt s ws0 pg) = A) (s0 : 0 ≤ sl) (s1 : sl < slots A) (c0 : 0 ≤ c) (c1 : c < s.c) (ht : slAt s ws0 pg sl = taken A)
    (h : SX s ws0 pg sl A c x e ws) : Out (blks s ws0 n) (blks s ws n) (pg * 64 + sl * size A) := by
  have hb := (may_iff _ _ _).1 hm
  subst hP
  have hAs := Gv.ok_super (pgK_ne (s := s) (q := P) (x := pgAt s ws0 P) (by rw [hk]; decide)) hk
  rw [hA] at hAs
  have hs4 := slots_four hAs.1 hAs.2.1
  have tn := taken_ne A hAs.1 (by omega)
  have wn := way_ne c c0 (by omega)
  have on := opn_ne A hAs.1 (by omega)
  obtain ⟨j, rfl⟩ : ∃ j : Nat, sl = j := ⟨sl.toNat, by omega⟩
  refine page_out (p := P) hn (fun q hq hne => ?_) ?_
  · have hq2 := h.pg' q (by omega) (by omega)
    exact blkPg_congr (by rw [hq2]) (fun _ => by rw [hq2]) fun _ i hi => by rw [h.sl' q i (by omega) (by omega) (by omega) (by omega) (by omega)]
  · obtain ⟨R, h1, h2, h3⟩ := blkSl_split (s := s) (ws := ws0) (p := P) (A := A) j (slots A).toNat (by omega)
    have e1 : blkPg s ws0 P = blkSl s ws0 P A (slots A).toNat := by unfold blkPg; rw [if_neg (by rw [hk]; decide), if_pos hk, hA]
    have e2 : blkPg s ws P = blkSl s ws P A (slots A).toNat := by
      have hq := h.pg' P (by omega) p1
      unfold blkPg; rw [hq, if_neg (by rw [hk]; decide), if_pos hk, hA]
    have h4 := h3 ws (fun i hi hne => by rw [h.sl' P i (by omega) p1 (by omega) (by omega) (by omega)]) (by
      rw [h.at']
      rcases h.xx with hx | ⟨hx, -⟩
      · rw [hx, wn.2.1]; decide
      · rw [hx, on.2.1]; decide)
    rw [ht, tn.2.1, if_pos rfl] at h2
    rw [e1, e2, h2, h4]
    have mono : ∀ u v : Int, u < v → (P : Int) * 64 + u * size A ≠ P * 64 + v * size A := fun u v huv => by
      have := Int.mul_le_mul_of_nonneg_right (by omega : u + 1 ≤ v) (by omega : 0 ≤ size A)
      rw [Int.add_mul] at this
      omega
    refine ⟨blkSl s ws0 P A j, R, _, rfl, rfl, rfl, fun z hz => ?_, fun z hz => ?_⟩
    · obtain ⟨i, hi, -, rfl⟩ := blkSl_mem.1 hz
      exact mono i j (by omega)
    · obtain ⟨i, hi, hi2, rfl⟩ := h1 z hz
      exact fun e => mono j i (by omega) e.symm
end
end Go.Ma
