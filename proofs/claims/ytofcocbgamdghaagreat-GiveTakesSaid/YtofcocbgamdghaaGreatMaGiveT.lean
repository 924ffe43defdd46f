/-
One that gives the only block, one that looks for one, at the same time: what is there at each step, and at the end. Conditions: none.
One that gives the only block, one that looks for one: what the document counts at the end. Conditions: none.
-/
import Derived.Test.YtofcocbgamdghaaGreatOwnA
import Derived.Test.YtofcocbgamdghaaGreatMaRenew
set_option linter.unusedVariables false
set_option linter.unusedSectionVars false
set_option linter.unusedSimpArgs false
namespace Go.Ma
open Go.Pl
/-- No status is otherwise, no word is made that is of a block. -/
def Wn (s : Sh) (ws ws' : Nat → Int) : Prop := ∀ j : Nat, ws' j = ws j ∨ (s.c ≤ (j : Int) ∧ ws' j % 16 ≠ 3)
theorem Wn.refl (s : Sh) (ws : Nat → Int) : Wn s ws ws := fun _ => .inl rfl
theorem Wn.up {s : Sh} {ws : Nat → Int} {a y : Int} (h0 : 0 ≤ s.c) (ha : s.c ≤ a) (hy : y % 16 ≠ 3) : Wn s ws (upW ws a y) := fun j => by
  unfold upW
  split
  · rename_i e; exact .inr ⟨by omega, hy⟩
  · exact .inl rfl
theorem n3_pg {k a b : Int} (h : k ≠ 3) : putPg k a b % 16 ≠ 3 := by unfold putPg; split <;> omega
theorem n3_sl {k a : Int} (h : k ≠ 3) : putSl k a % 16 ≠ 3 := by unfold putSl; split <;> omega
theorem n3_en {p i k : Int} : putEn p i k % 16 ≠ 3 := by unfold putEn; split <;> omega
section
variable {s : Sh} {w : Wd}
theorem pg_ge (hm : may s.p s.c s.m = true) {q : Int} (q0 : 0 ≤ q) (q1 : q < s.p) : 0 ≤ s.c ∧ s.c ≤ page s.p s.c s.m q := by
  have := (may_iff _ _ _).1 hm
  rw [page_yes hm q0 q1]; omega
theorem sl_ge (hm : may s.p s.c s.m = true) {q i : Int} (q0 : 0 ≤ q) (q1 : q < s.p) (i0 : 0 ≤ i) (i1 : i < 16) : 0 ≤ s.c ∧ s.c ≤ slot s.p s.c s.m q i := by
  have := (may_iff _ _ _).1 hm
  rw [slot_yes hm q0 q1 i0 i1]; omega
theorem mg_ge (hm : may s.p s.c s.m = true) {c i : Int} (c0 : 0 ≤ c) (c1 : c < s.c) (i0 : 0 ≤ i) (i1 : i < s.m) : 0 ≤ s.c ∧ s.c ≤ mag s.p s.c s.m c i := by
  have := (may_iff _ _ _).1 hm
  have h2 : 0 ≤ c * s.m := Int.mul_nonneg c0 (by omega)
  rw [mag_yes hm c0 c1 i0 i1]; omega
theorem Tk.wn {t : Tk} (ht : t.wf) (hs : t.s = s) : Wn s w.ws (t.step w).2.ws := by
  cases hd : t.dn
  · obtain ⟨hm, c0, c1, i0, i1⟩ := ht.of hd
    rw [hs] at hm c1 i1
    unfold Tk.step
    rw [if_neg (by rw [hd]; decide)]
    split
    · rw [store_ws]; unfold Tk.at'; rw [hs]
      obtain ⟨g0, g1⟩ := mg_ge hm c0 c1 i0 i1
      exact Wn.up g0 g1 (by decide)
    · split <;> exact Wn.refl _ _
  · unfold Tk.step; rw [if_pos hd]; exact Wn.refl _ _
theorem Sc.wn {t : Sc} (ht : t.wf) (hs : t.s = s) : Wn s w.ws (t.step w).2.ws := by
  cases hd : t.dn
  · obtain ⟨hm, c0, c1, f0, f1, m0, m1, i0, i1, -⟩ := ht.of hd
    rw [hs] at hm f1 m1
    have hb := slots_bd t.k
    have hq : 0 ≤ t.pg ∧ t.pg < s.p := by unfold Sc.pg; rw [hs]; exact mod_bd (by omega)
    unfold Sc.step
    rw [if_neg (by rw [hd]; decide)]
    split
    · exact Wn.refl _ _
    · split
      · exact Wn.refl _ _
      · show Wn s w.ws (w.swap t.c t.at' (opn t.k) (way t.c)).ws
        by_cases e : w.get t.at' = opn t.k
        · rw [swap_yes e]; unfold Sc.at'; rw [hs]
          obtain ⟨g0, g1⟩ := sl_ge hm hq.1 hq.2 i0 (by omega : t.i < 16)
          exact Wn.up g0 g1 (n3_sl (by decide))
        · rw [swap_no e]; exact Wn.refl _ _
  · unfold Sc.step; rw [if_pos hd]; exact Wn.refl _ _
theorem Pc.wn {t : Pc} (ht : t.wf) (hs : t.s = s) : Wn s w.ws (t.step w).2.ws := by
  cases hd : t.dn
  · obtain ⟨hm, c0, c1, f0, f1, m0, m1⟩ := ht.of hd
    rw [hs] at hm f1 m1
    have hq : 0 ≤ t.pg ∧ t.pg < s.p := by unfold Pc.pg; rw [hs]; exact mod_bd (by omega)
    unfold Pc.step
    rw [if_neg (by rw [hd]; decide)]
    split
    · show Wn s w.ws (w.swap t.c t.at' 0 (held t.c)).ws
      by_cases e : w.get t.at' = 0
      · rw [swap_yes e]; unfold Pc.at'; rw [hs]
        obtain ⟨g0, g1⟩ := pg_ge hm hq.1 hq.2
        exact Wn.up g0 g1 (n3_pg (by decide))
      · rw [swap_no e]; exact Wn.refl _ _
    · exact Wn.refl _ _
  · unfold Pc.step; rw [if_pos hd]; exact Wn.refl _ _
theorem St.wn {t : St} (ht : t.wf) (hs : t.s = s) : Wn s w.ws (t.step w).2.ws := by
  cases hd : t.dn
  · obtain ⟨hm, c0, c1, p0, p1, k0, i0, i1, hb⟩ := ht.of hd
    rw [hs] at hm p1
    have hsl := slots_bd t.k
    unfold St.step
    rw [if_neg (by rw [hd]; decide)]
    split
    · rename_i e
      have := hb e
      rw [store_ws]; unfold St.at'; rw [hs]
      obtain ⟨g0, g1⟩ := sl_ge hm p0 p1 (by omega : 0 ≤ t.i - 1) (by omega : t.i - 1 < 16)
      exact Wn.up g0 g1 (n3_sl (by decide))
    · split
      · rw [store_ws]; unfold St.pat; rw [hs]
        obtain ⟨g0, g1⟩ := pg_ge hm p0 p1
        exact Wn.up g0 g1 (n3_pg (by decide))
      · rename_i e0
        show Wn s w.ws (w.swap t.c (t.at' t.i) (opn t.k) (way t.c)).ws
        by_cases e : w.get (t.at' t.i) = opn t.k
        · rw [swap_yes e]; unfold St.at'; rw [hs]
          obtain ⟨g0, g1⟩ := sl_ge hm p0 p1 i0 (by omega : t.i < 16)
          exact Wn.up g0 g1 (n3_sl (by decide))
        · rw [swap_no e]; exact Wn.refl _ _
  · unfold St.step; rw [if_pos hd]; exact Wn.refl _ _
theorem Bi.wn {t : Bi} (ht : t.wf) (hs : t.s = s) : Wn s w.ws (t.step w).2.ws := by
  cases hd : t.dn
  · obtain ⟨hm, c0, c1, p0, p1, k0, i0, i1, hb⟩ := ht.of hd
    rw [hs] at hm p1
    have hsl := slots_bd t.k
    unfold Bi.step
    rw [if_neg (by rw [hd]; decide)]
    split
    · rename_i e
      have := hb e
      rw [store_ws]; unfold Bi.at'; rw [hs]
      obtain ⟨g0, g1⟩ := sl_ge hm p0 p1 i0 (by omega : t.i < 16)
      exact Wn.up g0 g1 (n3_sl (by decide))
    · split
      · rw [store_ws]; unfold Bi.pat; rw [hs]
        obtain ⟨g0, g1⟩ := pg_ge hm p0 p1
        exact Wn.up g0 g1 (n3_pg (by decide))
      · rename_i e0
        rw [store_ws]; unfold Bi.at'; rw [hs]
        obtain ⟨g0, g1⟩ := sl_ge hm p0 p1 i0 (by omega : t.i < 16)
        refine Wn.up g0 g1 ?_
        split
        · exact n3_sl (by decide)
        · decide
  · unfold Bi.step; rw [if_pos hd]; exact Wn.refl _ _
theorem Sk.wn {t : Sk} (ht : t.wf) (hs : t.s = s) : Wn s w.ws (t.step w).2.ws := by
  rcases step_cases t w with ⟨hd, e⟩ | ⟨hd, hc⟩
  · rw [e]; exact Wn.refl _ _
  obtain ⟨ok, nd⟩ := ht.nw hd
  rcases hc with ⟨m, en, e⟩ | ⟨m, en, e⟩ | ⟨m, en, e⟩ | ⟨en, e⟩ | ⟨m, en, e⟩ | ⟨m, en, e⟩ <;> rw [e] <;> (try rw [en] at ok)
  · exact Tk.wn ok.1 (ok.2.1.trans hs)
  · exact Sc.wn ok.1 (ok.2.1.trans hs)
  · exact Pc.wn ok.1 (ok.2.1.trans hs)
  · exact Wn.refl _ _
  · exact St.wn ok.1 (ok.2.1.trans hs)
  · exact Bi.wn ok.1 (ok.2.1.trans hs)
theorem Rn.wn {t : Rn} (ht : t.wf) (hs : t.s = s) : Wn s w.ws (t.step w).2.ws := by
  rcases step_cases ht w with ⟨hd, e⟩ | ⟨hd, hc⟩
  · rw [e]; exact Wn.refl _ _
  obtain ⟨hm, hfd, ar⟩ := ht.of hd
  unfold Ar at ar
  rw [hs] at ar hm
  obtain ⟨-, -, n1, n8, h0, h1, a0, x0, x5, ar4, ar3, ar4', ar5⟩ := ar
  rcases hc with ⟨hn, e⟩ | ⟨hn, e⟩ | ⟨hn, q, hq, hqw, hqd, hqs, hqc, hqp, e⟩ | ⟨hn, e⟩ | ⟨hn, e⟩ | ⟨hn, e⟩ <;> rw [e]
  · exact Wn.refl _ _
  · have a1 := ar4 (by omega)
    show Wn s w.ws (w.swap t.c t.pat 0 (held t.c)).ws
    by_cases e2 : w.get t.pat = 0
    · rw [swap_yes e2]; unfold pat; rw [hs]
      obtain ⟨g0, g1⟩ := pg_ge hm (by omega : 0 ≤ t.at') (by omega)
      exact Wn.up g0 g1 (n3_pg (by decide))
    · rw [swap_no e2]; exact Wn.refl _ _
  · exact St.wn hqw (hqs.trans hs)
  · have a1 := ar4 (by omega)
    obtain ⟨i0, i1⟩ := ar3 hn
    show Wn s w.ws (w.store t.c t.sat 0).ws
    rw [store_ws]; unfold sat; rw [hs]
    obtain ⟨g0, g1⟩ := sl_ge hm (by omega : 0 ≤ t.at') (by omega) i0 i1
    exact Wn.up g0 g1 (by decide)
  · have a1 := ar4 (by omega)
    obtain ⟨i0, i1, -⟩ := ar4' hn
    show Wn s w.ws (w.store t.c t.bat 0).ws
    rw [store_ws]; unfold bat; rw [hs]
    obtain ⟨g0, g1⟩ := pg_ge hm (by omega : 0 ≤ t.i - 1) (by omega)
    exact Wn.up g0 g1 (by decide)
  · obtain ⟨e5, i0, i1⟩ := ar5 hn
    show Wn s w.ws (w.store t.c t.iat (putPg 4 t.hd 0)).ws
    rw [store_ws]; unfold iat; rw [hs]
    obtain ⟨g0, g1⟩ := pg_ge hm (by omega : 0 ≤ t.i) (by omega)
    exact Wn.up g0 g1 (n3_pg (by decide))
theorem Rv.wn {c : Int} {t : Rv} (ht : t.wf) (hs : t.of s c) : Wn s w.ws (t.step w).2.ws := by
  cases t with
  | sk t => exact Sk.wn ht hs.1
  | rn t => exact Rn.wn ht hs.1
  | no => exact Wn.refl _ _
theorem Pu.wn {t : Pu} (ht : t.wf) (hs : t.s = s) : Wn s w.ws (t.step w).2.ws := by
  cases hd : t.dn
  · obtain ⟨hm, c0, c1, i0, i1⟩ := ht.of hd
    rw [hs] at hm c1 i1
    unfold Pu.step
    rw [if_neg (by rw [hd]; decide)]
    split
    · rw [store_ws]; unfold Pu.at'; rw [hs]
      obtain ⟨g0, g1⟩ := mg_ge hm c0 c1 i0 i1
      exact Wn.up g0 g1 n3_en
    · split <;> exact Wn.refl _ _
  · unfold Pu.step; rw [if_pos hd]; exact Wn.refl _ _
theorem Gv.wn {t : Gv} (ht : t.wf) (hs : t.s = s) : Wn s w.ws (t.step w).2.ws := by
  rcases step_cases ht w with ⟨-, e⟩ | ⟨hd, hc⟩
  · rw [e]; exact Wn.refl _ _
  obtain ⟨hm, c0, c1, p0, p1, -⟩ := ht.of hd
  rw [hs] at hm c1 p1
  have hbl : t.nx ≠ 0 → t.blk := fun g => (ht.bl hd g).2.1
  have hsg : t.pK = 2 → t.nx ≠ 0 → 0 ≤ t.sl ∧ t.sl < 16 := fun g1 g2 => by
    have hb := slots_bd t.pA
    rcases hbl g2 with ⟨g, -⟩ | ⟨-, s0, s1, -⟩ <;> omega
  rcases hc with ⟨-, e⟩ | ⟨hn, hk, e⟩ | ⟨hn, hk, e⟩ | ⟨hn, p, hp, pw, -, -, ps, -, e⟩ | ⟨hn, e⟩ | ⟨hn, hi, e⟩ | ⟨hn, hi, e⟩ <;> rw [e]
  · exact Wn.refl _ _
  · show Wn s w.ws (w.swap t.c t.pat t.wd (held t.c)).ws
    by_cases g : w.get t.pat = t.wd
    · rw [swap_yes g]; unfold pat; rw [hs]
      obtain ⟨g0, g1⟩ := pg_ge hm p0 p1
      exact Wn.up g0 g1 (n3_pg (by decide))
    · rw [swap_no g]; exact Wn.refl _ _
  · obtain ⟨s0, s1⟩ := hsg hk (by omega)
    show Wn s w.ws (w.swap t.c t.sat (taken t.pA) (way t.c)).ws
    by_cases g : w.get t.sat = taken t.pA
    · rw [swap_yes g]; unfold sat; rw [hs]
      obtain ⟨g0, g1⟩ := sl_ge hm p0 p1 s0 s1
      exact Wn.up g0 g1 (n3_sl (by decide))
    · rw [swap_no g]; exact Wn.refl _ _
  · exact Pu.wn pw (ps.trans hs)
  · obtain ⟨s0, s1⟩ := hsg (ht.n3 hd hn) (by omega)
    rw [store_ws]; unfold sat; rw [hs]
    obtain ⟨g0, g1⟩ := sl_ge hm p0 p1 s0 s1
    exact Wn.up g0 g1 (n3_sl (by decide))
  · rw [store_ws]; unfold pat; rw [hs]
    obtain ⟨g0, g1⟩ := pg_ge hm p0 p1
    exact Wn.up g0 g1 (by decide)
  · obtain ⟨k3, i0, i1⟩ := ht.n4 hd hn
    rcases hbl (by omega) with ⟨-, a1, a8, aq, -⟩ | ⟨g, -⟩
    · rw [hs] at aq
      rw [store_ws]; rw [hs]
      obtain ⟨g0, g1⟩ := pg_ge hm (by omega : 0 ≤ t.pg + t.i + 1) (by omega)
      exact Wn.up g0 g1 (by decide)
    · omega
end
namespace Rv
def ho : Rv → Ow.Ho
  | .sk t => t.ho
  | .rn t => t.ho
  | .no => Ow.nil
def In (s : Sh) (c : Int) (t : Rv) (ws : Nat → Int) : Prop := match t with
  | .sk t => Sk.In s c t ws
  | .rn t => Rn.In s c t ws
  | .no => Ow.Own s ws c Ow.nil
section
variable {s : Sh} {c : Int} {t : Rv} {w : Wd} {ws ws' : Nat → Int}
theorem In.wf (h : In s c t ws) : t.wf ∧ t.of s c := by
  cases t with
  | sk t => exact ⟨Sk.In.wf h, Sk.In.es h, Sk.In.ec h⟩
  | rn t => exact ⟨Rn.In.wf h, Rn.In.es h, Rn.In.ec h⟩
  | no => exact ⟨trivial, trivial⟩
theorem In.own (h : In s c t ws) : Ow.Own s ws c t.ho := by
  cases t with
  | sk t => exact Sk.In.ow h
  | rn t => exact Rn.In.ow h
  | no => exact h
theorem In.step (h : In s c t w.ws) (hB : Ow.Bs s w.ws) : Ow.Nx s c w.ws (t.step w).2.ws (t.step w).1.ho ∧ In s c (t.step w).1 (t.step w).2.ws := by
  cases t with
  | sk t => exact Sk.In.step h hB
  | rn t => exact Rn.In.step h hB
  | no => exact ⟨Ow.Nx.id hB h, h⟩
theorem In.rel (h : In s c t ws) (r : Ow.Rel s c ws ws') : In s c t ws' := by
  cases t with
  | sk t => exact Sk.In.rel h r
  | rn t => exact Rn.In.rel h r
  | no => exact Ow.Own.rel h r
theorem In.new (hm : may s.p s.c s.m = true) (c0 : 0 ≤ c) (c1 : c < s.c) (n f : Int) (ow : Ow.Own s ws c Ow.nil) : In s c (Rv.new s c n f) ws := by
  unfold Rv.new
  split
  · exact Sk.In.new hm c0 c1 _ _ ow
  · split
    · exact Rn.In.new hm c0 c1 _ ow
    · exact ow
/-- Who found something holds something. -/
theorem In.fd (h : In s c t ws) (hf : t.fd = true) (hd : t.dn = true) : (∃ q, 0 ≤ q ∧ q < s.p ∧ pgAt s ws q = 1 + 16 * c) ∨ ∃ q k, 0 ≤ q ∧ q < s.p ∧ Ow.Sup s k (pgAt s ws q) := by
  cases t with
  | sk t =>
    obtain ⟨p0, p1, -, -, hs, -⟩ := Sk.In.fin h hd hf
    exact .inr ⟨_, _, p0, p1, hs⟩
  | rn t =>
    have h1 : t.ho.hp t.hd := by rw [Rn.ho_f hd hf]; exact .inl rfl
    obtain ⟨p0, p1⟩ := Rn.In.hp h _ h1
    exact .inl ⟨_, p0, p1, ((Rn.In.ow h).pg _ p0 p1).2 h1⟩
  | no => cases hf
theorem fd_dn (h : t.wf) (hf : t.fd = true) : t.dn = true := by
  cases t with
  | sk t =>
    cases hd : t.dn
    · have := h.fd hd
      have hf : t.fd = true := hf
      rw [this] at hf; cases hf
    · exact hd
  | rn t =>
    cases hd : t.dn
    · have := (h.of hd).2.1
      have hf : t.fd = true := hf
      rw [this] at hf; cases hf
    · exact hd
  | no => cases hf
end
end Rv
namespace Gt
def sh (m : Int) : Sh := ⟨m, 2, 0⟩
/-- A heap that is one block of m pages. -/
def one (m : Int) (j : Nat) : Int := if (j : Int) = 2 then 3 + 16 * m else if 2 < (j : Int) ∧ (j : Int) < 2 + m then 4 else 0
structure Inv (m : Int) (k : Gv) (t : Rv) (w : Wd) : Prop where
  of : w.of (sh m)
  bs : Ow.Bs (sh m) w.ws
  ik : Gv.In (sh m) 0 k w.ws
  it : Rv.In (sh m) 1 t w.ws
  st : ∀ j : Nat, (j : Int) < 2 → w.ws j = 0
  n3 : ∀ j : Nat, w.ws j % 16 = 3 → j = 2
  ng : k.gv = false → Kj (sh m) (one m) w.ws ∧ t.Nf (sh m) (one m) ∧ k.dn = false ∧ (k.nx = 0 ∨ (k.nx = 1 ∧ k.pK = 3 ∧ k.wd = 3 + 16 * m))
  g3 : k.gv = true → w.ws 2 % 16 ≠ 3
  ka : k.pg = 0 ∧ k.off = 0
section
variable {m : Int} {k : Gv} {t : Rv} {w : Wd}
theorem may_ok (m1 : 1 ≤ m) (m4 : m ≤ 4) : may (sh m).p (sh m).c (sh m).m = true := (may_iff _ _ _).2 ⟨m1, by show m ≤ 64; omega, by show (1 : Int) ≤ 2; decide, by show (2 : Int) ≤ 12; decide, by show (0 : Int) ≤ 0; decide, by show (0 : Int) ≤ 8; decide⟩
theorem pg_at {q : Int} (m1 : 1 ≤ m) (m4 : m ≤ 4) (q0 : 0 ≤ q) (q1 : q < m) (ws : Nat → Int) : pgAt (sh m) ws q = ws (2 + q).toNat := by
  unfold pgAt; rw [page_yes (may_ok m1 m4) q0 q1]; rfl
theorem one_pg {q : Int} (m1 : 1 ≤ m) (m4 : m ≤ 4) (q0 : 0 ≤ q) (q1 : q < m) : pgAt (sh m) (one m) q = if q = 0 then 3 + 16 * m else 4 := by
  rw [pg_at m1 m4 q0 q1]
  unfold one
  by_cases e : q = 0
  · rw [if_pos (by omega), if_pos e]
  · rw [if_neg (by omega), if_pos (by omega), if_neg e]
theorem one_lb {q : Int} (m1 : 1 ≤ m) (m4 : m ≤ 4) (q0 : 0 ≤ q) (q1 : q < m) : ¬ Nb (sh m) (one m) q := by
  have hm := may_ok m1 m4
  intro h
  refine h ?_
  rw [one_pg m1 m4 q0 q1]
  by_cases e : q = 0
  · rw [if_pos e]
    obtain ⟨r1, r2, -⟩ := Ow.rd_l (s := sh m) hm q0 q1 m1 (by omega) (by show q + m ≤ m; omega)
    exact ⟨r1, .inl r2⟩
  · rw [if_neg e]
    obtain ⟨r1, r2, -⟩ := Ow.rd_b (s := sh m) (q := q) (h := 0) hm q1 (by decide) (by omega) (by omega)
    exact ⟨r1, .inr r2⟩
/-- Not given: nobody has found anything, all is as it was. -/
theorem Inv.nf (m1 : 1 ≤ m) (m4 : m ≤ 4) (h : Inv m k t w) (hg : k.gv = false) : t.fd = false := by
  obtain ⟨hj, -, -, -⟩ := h.ng hg
  cases hf : t.fd
  · rfl
  exfalso
  have hp : ∀ q, 0 ≤ q → q < m → pgAt (sh m) w.ws q % 16 = 3 ∨ pgAt (sh m) w.ws q % 16 = 4 := fun q q0 q1 => by
    rw [hj.pg q q0 q1 (one_lb m1 m4 q0 q1), one_pg m1 m4 q0 q1]; split <;> omega
  rcases h.it.fd hf (Rv.fd_dn h.it.wf.1 hf) with ⟨q, q0, q1, e⟩ | ⟨q, k', q0, q1, e⟩
  · have := hp q q0 q1; omega
  · have := hp q q0 q1; have := e.mod; omega
theorem n3_step {ws ws' : Nat → Int} (hn : ∀ j : Nat, ws j % 16 = 3 → j = 2) (h : Wn (sh m) ws ws') : ∀ j : Nat, ws' j % 16 = 3 → j = 2 := fun j e => by
  rcases h j with g | ⟨-, g⟩
  · rw [g] at e; exact hn j e
  · exact absurd e g
theorem st_step {ws ws' : Nat → Int} (hn : ∀ j : Nat, (j : Int) < 2 → ws j = 0) (h : Wn (sh m) ws ws') : ∀ j : Nat, (j : Int) < 2 → ws' j = 0 := fun j e => by
  rcases h j with g | ⟨g, -⟩
  · rw [g]; exact hn j e
  · have g : (2 : Int) ≤ j := g
    omega
/-- The one who looks does a step. -/
theorem Inv.tk (h : Inv m k t w) : Inv m k (t.step w).1 (t.step w).2 := by
  obtain ⟨wf, of⟩ := h.it.wf
  obtain ⟨nx, ni⟩ := h.it.step h.bs
  have wn : Wn (sh m) w.ws (t.step w).2.ws := Rv.wn wf of
  refine ⟨Rv.step_of wf h.of, nx.bs, h.ik.rel (nx.re 0 (by decide) (by show (0 : Int) < 2; decide) (by decide)), ni, st_step h.st wn, n3_step h.n3 wn, fun g => ?_, fun g => ?_, h.ka⟩
  · obtain ⟨g1, g2, g3⟩ := h.ng g
    obtain ⟨k1, k2⟩ := Rv.kj wf of g1 g2
    exact ⟨k1, k2, g3⟩
  · rcases wn 2 with e | ⟨-, e⟩
    · rw [e]; exact h.g3 g
    · exact e
/-- The one who gives does a step. -/
theorem Inv.gk (m1 : 1 ≤ m) (m4 : m ≤ 4) (h : Inv m k t w) : Inv m (k.step w).1 t (k.step w).2 := by
  have hm := may_ok m1 m4
  have wf := h.ik.wf
  have es := h.ik.es
  obtain ⟨nx, ni⟩ := h.ik.step h.of h.bs
  have wn : Wn (sh m) w.ws (k.step w).2.ws := Gv.wn wf es
  have hkp : (k.step w).1.pg = 0 ∧ (k.step w).1.off = 0 := by
    have hk := Gv.step_keeps (w := w) wf
    refine ⟨?_, ?_⟩
    · rw [← h.ka.1]; exact hk.2.2.2
    · rw [← h.ka.2]; unfold Gv.off; rw [hk.1, hk.2.2.1]
  have ho : (k.step w).2.of (sh m) := by have ho := h.of; rw [← es] at ho ⊢; exact Gv.step_of wf ho
  refine ⟨ho, nx.bs, ni, h.it.rel (nx.re 1 (by decide) (by show (1 : Int) < 2; decide) (by decide)), st_step h.st wn, n3_step h.n3 wn, fun g => ?_, fun g => ?_, hkp⟩
  · have g0 : k.gv = false := by
      cases e : k.gv
      · rfl
      · rw [Gv.gv_stay wf e] at g; cases g
    obtain ⟨g1, g2, g3, g4⟩ := h.ng g0
    rw [Gv.none wf g]
    refine ⟨g1, g2, ?_⟩
    have hpat : k.pat = 2 := by unfold Gv.pat; rw [es, h.ka.1, page_yes hm (by decide) (by show (0 : Int) < m; omega)]; rfl
    have hw : w.get k.pat = 3 + 16 * m := by
      have := g1.pg 0 (by decide) (by show (0 : Int) < m; omega) (one_lb m1 m4 (by decide) (by omega))
      rw [one_pg m1 m4 (by decide) (by omega), pg_at m1 m4 (by decide) (by omega)] at this
      rw [hpat]; exact this
    rcases g4 with g4 | ⟨g4, g5, g6⟩
    · rw [Gv.step_0 g3 g4]
      obtain ⟨r1, r2, r3⟩ := Ow.rd_l (s := sh m) (q := 0) hm (by decide) (by show (0 : Int) < m; omega) m1 (by omega) (by show 0 + m ≤ m; omega)
      have hl : k.isL w = true := by unfold Gv.isL; rw [hw, es, h.ka.1, h.ka.2, r1, r2]; rfl
      show (k.look w).dn = false ∧ _
      unfold Gv.look
      rw [if_pos hl]
      refine ⟨g3, .inr ⟨rfl, ?_, hw⟩⟩
      show pgK k.s k.pg (w.get k.pat) = 3
      rw [hw, es, h.ka.1]; exact r2
    · rw [Gv.step_1L g3 g4 g5] at g
      have g : decide (w.get k.pat = k.wd) = false := g
      rw [hw, g6] at g
      simp at g
  · cases e : k.gv
    · obtain ⟨g1, g2, g3, g4⟩ := h.ng e
      rcases g4 with g4 | ⟨g4, g5, g6⟩
      · rw [Gv.step_0 g3 g4] at g
        have : (k.look w).gv = k.gv := by unfold Gv.look; split; rfl; split <;> rfl
        have g : (k.look w).gv = true := g
        rw [this, e] at g; cases g
      · rw [Gv.step_1L g3 g4 g5] at g ⊢
        have g : decide (w.get k.pat = k.wd) = true := g
        have g := of_decide_eq_true g
        have hpat : k.pat = 2 := by unfold Gv.pat; rw [es, h.ka.1, page_yes hm (by decide) (by show (0 : Int) < m; omega)]; rfl
        show (w.swap k.c k.pat k.wd (held k.c)).ws 2 % 16 ≠ 3
        rw [swap_yes g, hpat]
        show (if (2 : Nat) = (2 : Int).toNat then held k.c else w.ws 2) % 16 ≠ 3
        rw [if_pos (by decide)]; exact n3_pg (by decide)
    · rcases wn 2 with e2 | ⟨-, e2⟩
      · rw [e2]; exact h.g3 e
      · exact e2
end
end Gt
end Go.Ma
set_option linter.unusedVariables false
set_option linter.unusedSectionVars false
set_option linter.unusedSimpArgs false
namespace Go.Ma
open Go.Pl
namespace Gt
/-- Words that the one who looks has, of the first q pages. -/
def T (t : Rv) (q : Int) : Int := match t with
  | .sk t => if t.fd then (if t.pg < q then size t.k else 0) else 0
  | .rn t => if t.fd then 64 * max 0 (min (q - t.hd) t.n) else 0
  | .no => 0
structure Fs (m : Int) (t : Rv) (ws : Nat → Int) : Prop where
  h : ∀ q, 0 ≤ q → q < m → pgAt (sh m) ws q = 17 → T t (q + 1) = T t q + 64
  b : ∀ q h, 0 ≤ q → q < m → 0 ≤ h → h < m → pgAt (sh m) ws q = 4 + 16 * h → pgAt (sh m) ws h = 17 → T t (q + 1) = T t q + 64
  e : ∀ q, 0 ≤ q → q < m → pgAt (sh m) ws q = 0 → T t (q + 1) = T t q
  s : ∀ q k, 0 ≤ q → q < m → Ow.Sup (sh m) k (pgAt (sh m) ws q) → (∃ j, 0 ≤ j ∧ j < slots k ∧ T t (q + 1) = T t q + size k ∧ ∀ i, 0 ≤ i → i < 16 → (slAt (sh m) ws q i = 18 ↔ i = j)) ∨ (T t (q + 1) = T t q ∧ ∀ i, 0 ≤ i → i < 16 → slAt (sh m) ws q i ≠ 18)
section
variable {m : Int} {t : Rv} {ws : Nat → Int}
theorem noM {c q i : Int} : ¬ Ow.InM (sh m) ws c q i := fun ⟨j, k, j0, j1, _⟩ => by
  have j1 : j < 0 := j1
  omega
/-- Who has nothing. -/
theorem Fs.nil (ow : Ow.Own (sh m) ws 1 Ow.nil) (hT : ∀ q, T t q = 0) : Fs m t ws := by
  have hp : ∀ q, 0 ≤ q → q < m → pgAt (sh m) ws q ≠ 17 := fun q a b e => (ow.pg q a b).1 e
  refine ⟨fun q a b e => absurd e (hp q a b), fun q h _ _ a b _ e => absurd e (hp h a b), fun q _ _ _ => by rw [hT, hT], fun q k a b hk => .inr ⟨by rw [hT, hT], fun i i0 i1 e => ?_⟩⟩
  rcases (ow.sl q i a b i0 i1).1 ⟨⟨k, hk⟩, e⟩ with g | g
  · exact g
  · exact noM g
theorem Fs.of (m1 : 1 ≤ m) (m4 : m ≤ 4) (h : Rv.In (sh m) 1 t ws) (hd : t.dn = true) : Fs m t ws := by
  cases t with
  | no => exact Fs.nil h fun _ => rfl
  | sk t =>
    have ow := Sk.In.ow h
    cases hf : t.fd
    · have e : t.ho = Ow.nil := by unfold Sk.ho; rw [show t.dn = true from hd, hf]; rfl
      rw [e] at ow
      exact Fs.nil ow fun q => by unfold T; simp only [hf, Bool.false_eq_true, if_false]
    · have e : t.ho = Ow.one t.pg t.sl := by unfold Sk.ho; rw [show t.dn = true from hd, hf]; rfl
      rw [e] at ow
      obtain ⟨p0, p1, s0, s1, hs, hw⟩ := Sk.In.fin h hd hf
      have hT : ∀ q, T (.sk t) q = if t.pg < q then size t.k else 0 := fun q => by unfold T; simp only [hf, if_true]
      have hp : ∀ q, 0 ≤ q → q < m → pgAt (sh m) ws q ≠ 17 := fun q a b e => (ow.pg q a b).1 e
      have same : ∀ q, q ≠ t.pg → T (.sk t) (q + 1) = T (.sk t) q := fun q hne => by
        rw [hT, hT]
        by_cases g : t.pg < q
        · rw [if_pos (by omega), if_pos g]
        · rw [if_neg (by omega), if_neg g]
      refine ⟨fun q a b e => absurd e (hp q a b), fun q h _ _ a b _ e => absurd e (hp h a b), fun q a b e => same q fun g => ?_, fun q k a b hk => ?_⟩
      · rw [g] at e; have := hs.mod; omega
      · have sl := fun i i0 i1 => ow.sl q i a b i0 i1
        by_cases g : q = t.pg
        · subst g
          have hkk := Ow.Sup.inj (by show (2 : Int) ≤ 12; decide) hk hs
          subst hkk
          refine .inl ⟨t.sl, s0, s1, ?_, fun i i0 i1 => ⟨fun e => ?_, fun e => ?_⟩⟩
          · rw [hT, hT, if_pos (by omega), if_neg (by omega)]; omega
          · rcases (sl i i0 i1).1 ⟨⟨_, hk⟩, e⟩ with g | g
            · exact g.2
            · exact (noM g).elim
          · rw [e]; exact hw
        · refine .inr ⟨same q g, fun i i0 i1 e => ?_⟩
          rcases (sl i i0 i1).1 ⟨⟨_, hk⟩, e⟩ with g2 | g2
          · exact g g2.1
          · exact noM g2
  | rn t =>
    have ow := Rn.In.ow h
    cases hf : t.fd
    · rw [Rn.ho_n hd hf] at ow
      exact Fs.nil ow fun q => by unfold T; simp only [hf, Bool.false_eq_true, if_false]
    · rw [Rn.ho_f hd hf] at ow
      obtain ⟨h0, n1, n8, hn⟩ := Rn.In.fb h hf
      have hn : t.hd + t.n ≤ m := hn
      have hT : ∀ q, T (.rn t) q = 64 * max 0 (min (q - t.hd) t.n) := fun q => by unfold T; simp only [hf, if_true]
      have hh : pgAt (sh m) ws t.hd = 17 := (ow.pg t.hd h0 (by show t.hd < m; omega)).2 (.inl rfl)
      have out : ∀ q, 0 ≤ q → q < m → pgAt (sh m) ws q % 16 ≠ 1 → pgAt (sh m) ws q % 16 ≠ 4 → T (.rn t) (q + 1) = T (.rn t) q := fun q a b g1 g4 => by
        have : ¬ (t.hd ≤ q ∧ q < t.hd + t.n) := fun ⟨x, y⟩ => by
          by_cases e : q = t.hd
          · rw [e, hh] at g1; omega
          · have := ((ow.bd q t.hd a b h0 (by show t.hd < m; omega)).2 ⟨rfl, by omega, by omega⟩).1
            omega
        rw [hT, hT]; omega
      refine ⟨fun q a b e => ?_, fun q h a b a' b' e e2 => ?_, fun q a b e => out q a b (by omega) (by omega), fun q k a b hk => .inr ⟨out q a b (by have := hk.mod; omega) (by have := hk.mod; omega), fun i i0 i1 e => ?_⟩⟩
      · have g : q = t.hd ∨ (t.hd + t.n ≤ q ∧ q < t.hd + t.n) := (ow.pg q a b).1 e
        rw [hT, hT]; omega
      · have g : h = t.hd ∧ t.hd < q ∧ q < t.hd + t.n := (ow.bd q h a b a' b').1 ⟨e, e2⟩
        rw [hT, hT]; omega
      · rcases (ow.sl q i a b i0 i1).1 ⟨⟨k, hk⟩, e⟩ with g | g
        · exact g
        · exact noM g
theorem slots_size {k : Int} (k0 : 0 ≤ k) (k3 : k ≤ 3) : slots k * size k = 64 := by
  have : k = 0 ∨ k = 1 ∨ k = 2 ∨ k = 3 := by omega
  rcases this with rfl | rfl | rfl | rfl <;> decide
/-- The slots of a page: open, or one that is its. -/
theorem slots_sum {q k : Int} {n0 : Cn} (k0 : 0 ≤ k) (k3 : k ≤ 3) (z : ∀ i, 0 ≤ i → i < slots k → slAt (sh m) ws q i = 1 + 16 * k ∨ slAt (sh m) ws q i = 18) (J : Int → Int) (hJ0 : J 0 = 0) (hJ : ∀ i, 0 ≤ i → i < slots k → J (i + 1) = if slAt (sh m) ws q i = 18 then J i + size k else J i) :
    ∀ i : Nat, (i : Int) ≤ slots k → Cn.slots (fun _ => false) (sh m) ws q k n0 i = ⟨n0.fr + (size k * i - J i), n0.ta, n0.li, n0.lo + J i⟩
  | 0, _ => by
    show n0 = _
    rw [show ((0 : Nat) : Int) = 0 from rfl, hJ0]
    simp
  | i + 1, hi => by
    have ih := slots_sum (n0 := n0) k0 k3 z J hJ0 hJ i (by omega)
    have hji := hJ i (by omega) (by omega)
    show Cn.slot (fun _ => false) k (slAt (sh m) ws q i) (Cn.slots (fun _ => false) (sh m) ws q k n0 i) = _
    rw [ih, show (((i + 1 : Nat)) : Int) = (i : Int) + 1 by omega, hji]
    have hmul : size k * ((i : Int) + 1) = size k * i + size k := by rw [Int.mul_add, Int.mul_one]
    rw [hmul]
    obtain ⟨r1, -⟩ := Ow.rd_sl (k := 1) (a := k) (by decide) (by decide) k0 (by omega)
    obtain ⟨r2, -⟩ := Ow.rd_sl (k := 2) (a := 1) (by decide) (by decide) (by decide) (by decide)
    have r2 : slK 18 = 2 := r2
    unfold Cn.slot
    rcases z i (by omega) (by omega) with g | g
    · rw [g, r1, if_pos rfl, if_neg (by omega)]
      simp only [Cn.mk.injEq, and_true, true_and]; omega
    · rw [g, r2, if_neg (by decide), if_neg (by decide), if_neg (by simp), if_pos rfl]
      simp only [Cn.mk.injEq, and_true, true_and]; omega
end
section
variable {m : Int} {k : Gv} {t : Rv} {w : Wd}
theorem Inv.page (m1 : 1 ≤ m) (m4 : m ≤ 4) (h : Inv m k t w) (hg : k.gv = true) (hkd : k.dn = true) (htd : t.dn = true) {q : Int} (q0 : 0 ≤ q) (q1 : q < m) (n0 : Cn) :
    Cn.page (fun _ => false) (sh m) w.ws q n0 = ⟨n0.fr + (64 - (T t (q + 1) - T t q)), n0.ta, n0.li, n0.lo + (T t (q + 1) - T t q)⟩ := by
  have hm := may_ok m1 m4
  have fs := Fs.of m1 m4 h.it htd
  have o0 := h.ik.ow
  rw [Gv.ho_d hkd] at o0
  have n3 : ∀ j : Nat, w.ws j % 16 ≠ 3 := fun j e => by
    have := h.n3 j e
    subst this
    exact h.g3 hg e
  have no0 : ∀ p, 0 ≤ p → p < m → pgAt (sh m) w.ws p ≠ 1 + 16 * 0 := fun p a b e => (o0.pg p a b).1 e
  have cc : ∀ c p, 0 ≤ c → c < (sh m).c → 0 ≤ p → p < m → pgAt (sh m) w.ws p = 1 + 16 * c → pgAt (sh m) w.ws p = 17 := fun c p c0 c1 a b e => by
    have c1 : c < 2 := c1
    have : c = 0 ∨ c = 1 := by omega
    rcases this with rfl | rfl
    · exact absurd e (no0 p a b)
    · exact e
  have hp16 : pgAt (sh m) w.ws q % 16 ≠ 3 := n3 _
  unfold Cn.page
  cases h.bs.pg q q0 q1 with
  | e he z =>
    obtain ⟨r1, r2, -⟩ := Ow.rd_0 (s := sh m) hm q0 q1
    rw [he, if_pos ⟨r1, r2⟩, fs.e q q0 q1 he]
    simp only [Cn.mk.injEq, and_true, true_and]; omega
  | h c c0 c1 he z =>
    have he := cc c q c0 c1 q0 q1 he
    obtain ⟨r1, r2, -⟩ := Ow.rd_h (s := sh m) (c := 1) hm q0 q1 (by decide) (by show (1 : Int) < 2; decide)
    have r1 : okPg (sh m) q 17 = true := r1
    have r2 : pgK (sh m) q 17 = 1 := r2
    have ha : Cn.at' (sh m) w.ws q = q := by unfold Cn.at'; rw [he, r2]; rfl
    have hh : Cn.held (sh m) w.ws q = true := by unfold Cn.held; rw [ha, he, r2]; rfl
    rw [he, r1, r2, if_neg (by simp), if_neg (by simp), if_pos (.inl hh), fs.h q q0 q1 he]
    simp only [Cn.mk.injEq, and_true, true_and]; omega
  | s k' hs z =>
    obtain ⟨r1, r2, r3⟩ := Ow.rd_s hm q0 q1 hs
    have hb := hs.bd
    have sb := slots_bd k'
    have ha : Cn.at' (sh m) w.ws q = q := by unfold Cn.at'; rw [r2]; rfl
    have hh : Cn.held (sh m) w.ws q = false := by unfold Cn.held; rw [ha, r2]; rfl
    rw [r1, r2, r3, if_neg (by simp), if_neg (by simp), if_neg (by simp [hh]), if_pos rfl]
    have hz : ∀ i, 0 ≤ i → i < slots k' → slAt (sh m) w.ws q i = 1 + 16 * k' ∨ slAt (sh m) w.ws q i = 18 := fun i i0 i1 => by
      rcases z i i0 (by omega) with ⟨-, g | g | ⟨c, c0, c1, g⟩⟩ | ⟨g, -⟩
      · exact .inl g
      · have : slAt (sh m) w.ws q i % 16 ≠ 3 := n3 _
        omega
      · have c1 : c < 2 := c1
        have : c = 0 ∨ c = 1 := by omega
        rcases this with rfl | rfl
        · rcases (o0.sl q i q0 q1 i0 (by omega)).1 ⟨⟨k', hs⟩, g⟩ with g2 | g2
          · exact g2.elim
          · exact (noM g2).elim
        · exact .inr g
      · omega
    have hss := slots_size hb.1 hb.2
    have hcm : size k' * slots k' = 64 := by rw [Int.mul_comm]; exact hss
    rcases fs.s q k' q0 q1 hs with ⟨j, j0, j1, e, hj⟩ | ⟨e, hj⟩
    · rw [slots_sum hb.1 hb.2 hz (fun i => if j < i then size k' else 0) (by simp; omega) (fun i i0 i1 => by
        show (if j < i + 1 then size k' else 0) = if _ then (if j < i then size k' else 0) + size k' else if j < i then size k' else 0
        by_cases g : i = j
        · rw [if_pos (by omega), if_pos ((hj i i0 (by omega)).2 g), if_neg (by omega)]; omega
        · rw [if_neg fun g2 => g ((hj i i0 (by omega)).1 g2)]
          by_cases g3 : j < i
          · rw [if_pos (by omega), if_pos g3]
          · rw [if_neg (by omega), if_neg g3]) _ (by omega)]
      have hnn : (((slots k').toNat : Nat) : Int) = slots k' := by omega
      rw [hnn, if_pos j1, hcm, e]
      simp only [Cn.mk.injEq, and_true, true_and]; omega
    · rw [slots_sum hb.1 hb.2 hz (fun _ => 0) rfl (fun i i0 i1 => by rw [if_neg (hj i i0 (by omega))]) _ (by omega)]
      have hnn : (((slots k').toNat : Nat) : Int) = slots k' := by omega
      rw [hnn, hcm, e]
      simp only [Cn.mk.injEq, and_true, true_and]; omega
  | l n n1 n8 nq he z b => omega
  | b hd h0 h1 h2 he z ww =>
    obtain ⟨r1, r2, r3⟩ := Ow.rd_b (s := sh m) hm q1 h0 h1 h2
    have hw : pgAt (sh m) w.ws hd = 17 := by
      rcases ww with ⟨c, c0, c1, g⟩ | ⟨n, n1, n8, nq, g⟩
      · exact cc c hd c0 c1 h0 (by omega) g
      · have : pgAt (sh m) w.ws hd % 16 ≠ 3 := n3 _
        omega
    obtain ⟨-, s2, -⟩ := Ow.rd_h (s := sh m) (c := 1) (q := hd) hm h0 (by show hd < m; omega) (by decide) (by show (1 : Int) < 2; decide)
    have s2 : pgK (sh m) hd 17 = 1 := s2
    have ha : Cn.at' (sh m) w.ws q = hd := by unfold Cn.at'; rw [he, r2, r3]; rfl
    have hh : Cn.held (sh m) w.ws q = true := by unfold Cn.held; rw [ha, hw, s2]; rfl
    rw [he, r1, r2, if_neg (by simp), if_neg (by simp), if_pos (.inl hh), fs.b q hd q0 q1 h0 (by omega) he hw]
    simp only [Cn.mk.injEq, and_true, true_and]; omega
theorem T_0 (t : Rv) (h : Rv.In (sh m) 1 t w.ws) (hd : t.dn = true) : T t 0 = 0 := by
  cases t with
  | no => rfl
  | sk t =>
    cases hf : t.fd
    · unfold T; simp only [hf, Bool.false_eq_true, if_false]
    · obtain ⟨p0, -⟩ := Sk.In.fin h hd hf
      unfold T; simp only [hf, if_true]; rw [if_neg (by omega)]
  | rn t =>
    cases hf : t.fd
    · unfold T; simp only [hf, Bool.false_eq_true, if_false]
    · obtain ⟨h0, n1, -⟩ := Rn.In.fb h hf
      unfold T; simp only [hf, if_true]; omega
/-- The count at the end. -/
theorem Inv.audit (m1 : 1 ≤ m) (m4 : m ≤ 4) (h : Inv m k t w) (hg : k.gv = true) (hkd : k.dn = true) (htd : t.dn = true) :
    ∀ q : Nat, (q : Int) ≤ m → Cn.all (fun _ => false) (sh m) w.ws q = ⟨64 * q - T t q, 0, 0, T t q⟩
  | 0, _ => by
    show Cn.z = _
    rw [show ((0 : Nat) : Int) = 0 from rfl, T_0 t h.it htd]; rfl
  | q + 1, hq => by
    have ih := Inv.audit m1 m4 h hg hkd htd q (by omega)
    show Cn.page (fun _ => false) (sh m) w.ws q (Cn.all (fun _ => false) (sh m) w.ws q) = _
    rw [h.page m1 m4 hg hkd htd (by omega) (by omega), ih, show (((q + 1 : Nat)) : Int) = (q : Int) + 1 by omega]
    simp only [Cn.mk.injEq, true_and, and_true]
    omega
/-- All that it has. -/
theorem T_all (h : Rv.In (sh m) 1 t w.ws) (hd : t.dn = true) : T t m = if t.fd then t.bk.len else 0 := by
  cases t with
  | no => rfl
  | sk t =>
    show (if t.fd then _ else _ : Int) = if t.fd then (if t.fd then (⟨false, t.pg, t.sl, t.k, 0⟩ : Bk) else Bk.zero).len else 0
    cases hf : t.fd
    · simp
    · obtain ⟨p0, p1, -⟩ := Sk.In.fin h hd hf
      have p1 : t.pg < m := p1
      simp only [if_true]; rw [if_pos p1]; rfl
  | rn t =>
    show (if t.fd then _ else _ : Int) = if t.fd then (if t.fd then (⟨true, t.hd, 0, 0, t.n⟩ : Bk) else Bk.zero).len else 0
    cases hf : t.fd
    · simp
    · obtain ⟨h0, n1, n8, hn⟩ := Rn.In.fb h hf
      have hn : t.hd + t.n ≤ m := hn
      simp only [if_true]
      show _ = t.n * 64
      omega
end
section
variable {m : Int}
theorem one_sl {q i : Int} (q0 : 0 ≤ q) (i0 : 0 ≤ i) (m1 : 1 ≤ m) : slAt (sh m) (one m) q i = 0 := by
  show one m ((2 : Int) + m + q * 16 + i).toNat = 0
  unfold one
  rw [if_neg (by omega), if_neg (by omega)]
theorem one_own {c : Int} (m1 : 1 ≤ m) (m4 : m ≤ 4) (c0 : 0 ≤ c) : Ow.Own (sh m) (one m) c Ow.nil := by
  have hp : ∀ q, 0 ≤ q → q < m → pgAt (sh m) (one m) q % 16 = 3 ∨ pgAt (sh m) (one m) q % 16 = 4 := fun q a b => by
    rw [one_pg m1 m4 a b]; split <;> omega
  refine ⟨fun q a b => ⟨fun e => ?_, fun g => g.elim⟩, fun q h a b a' b' => ⟨fun ⟨_, e⟩ => ?_, fun g => g.elim⟩, fun q i a b i0 i1 => ⟨fun ⟨⟨k, e⟩, _⟩ => ?_, fun g => ?_⟩, fun q i _ _ _ _ g => g.elim⟩
  · have := hp q a b; omega
  · have := hp h a' b'; omega
  · have := hp q a b; have := e.mod; omega
  · rcases g with g | g
    · exact g.elim
    · exact (noM g).elim
theorem one_bs (m1 : 1 ≤ m) (m4 : m ≤ 4) : Ow.Bs (sh m) (one m) := by
  refine ⟨fun q a b => ?_, fun c j _ _ j0 j1 => ?_, fun c j j' _ _ j0 j1 => ?_⟩
  · have b : q < m := b
    by_cases e : q = 0
    · subst e
      refine .l m m1 (by omega) (by show 0 + m ≤ m; omega) (by rw [one_pg m1 m4 a b]; rfl) (fun i i0 i1 => one_sl a i0 m1) fun j j1 jn => ?_
      rw [one_pg m1 m4 (by omega) (by omega), if_neg (by omega)]; omega
    · refine .b 0 (by decide) (by omega) (by omega) (by rw [one_pg m1 m4 a b, if_neg e]; rfl) (fun i i0 i1 => one_sl a i0 m1) (.inr ⟨m, m1, by omega, by omega, ?_⟩)
      rw [one_pg m1 m4 (by decide) (by omega)]; rfl
  · have j1 : j < 0 := j1
    omega
  · have j1 : j < 0 := j1
    omega
theorem Inv.init {w : Wd} (m1 : 1 ≤ m) (m4 : m ≤ 4) (ho : w.of (sh m)) (hw : w.ws = one m) (n : Int) : Inv m (Gv.new (sh m) 0 0) (Rv.new (sh m) 1 n 0) w := by
  have hm := may_ok m1 m4
  have hth : there (sh m).p (sh m).c (sh m).m 0 = true := by unfold there; rw [hm, (win_iff 0 0 _).2 ⟨by decide, by show (0 : Int) ≤ m * 64 - 1; omega⟩]; rfl
  have hst : status (sh m).p (sh m).c (sh m).m 0 = 0 := status_yes hm (by decide) (by show (0 : Int) < 2; decide)
  refine ⟨ho, by rw [hw]; exact one_bs m1 m4, Gv.In.new hm (by decide) (by show (0 : Int) < 2; decide) 0 (by rw [hw]; exact one_own m1 m4 (by decide)), Rv.In.new hm (by decide) (by show (1 : Int) < 2; decide) n 0 (by rw [hw]; exact one_own m1 m4 (by decide)), fun j hj => ?_, fun j hj => ?_, fun _ => ⟨by rw [hw]; exact Kj.refl _ _, Rv.nf_new _ _ _, ?_, .inl rfl⟩, fun g => (by cases g), ?_, ?_⟩
  · rw [hw]; unfold one; rw [if_neg (by omega), if_neg (by omega)]
  · rw [hw] at hj
    unfold one at hj
    split at hj
    · omega
    · split at hj <;> omega
  · show (!there (sh m).p (sh m).c (sh m).m 0 || decide (status (sh m).p (sh m).c (sh m).m 0 < 0)) = false
    rw [hth, hst]; rfl
  · show sp (sh m).p (sh m).c (sh m).m 0 = 0
    unfold sp; rw [if_pos hth]; rfl
  · show so (sh m).p (sh m).c (sh m).m 0 = 0
    unfold so; rw [if_pos hth]; rfl
end
end Gt
end Go.Ma
