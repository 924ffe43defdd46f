/-
One that gives the only block, one that looks for one, at the same time: what is there at each step, and at the end. Conditions: none.
Among many: what one does that looks for something, or undoes, leaves each block. Conditions: none.
Two that renew the only block, among two: what each has at each step. Conditions: none.
Two that renew the only block: at each step it is there, or one gave it; at the end there is just one. Conditions: none.
Two that renew the only block: the one block at the end. Conditions: none.
-/
import Derived.Test.YtjmlapagmbldoaaGreatOwnA
import Derived.Test.YtjmlapagmbldoaaGreatMaRenew
set_option linter.unusedVariables false
set_option linter.unusedSectionVars false
set_option linter.unusedSimpArgs false
namespace Go.Ma
open Go.Pl
/-- No status is otherwise, no word is made that is of a block. -/
def Wn (s : Sh) (ws ws' : Nat → Int) : Prop := ∀ j : Nat, ws' j = ws j ∨ (s.c ≤ (j : Int) ∧ ws' j % 16 ≠ 3)
theorem Wn.refl (s : Sh) (ws : Nat → Int) : Wn s ws ws := fun _ => .inl rfl
theorem Wn.up {s : Sh} {ws : Nat → Int} {a y : Int} (h0 : 0 ≤ s.c) (ha : s.c ≤ a) (hy : y % 16 ≠ 3) : Wn s ws (upW ws a y) := fun j => by
  unfold upW
  split
  · rename_i e; exact .inr ⟨by omega, hy⟩
  · exact .inl rfl
theorem n3_pg {k a b : Int} (h : k ≠ 3) : putPg k a b % 16 ≠ 3 := by unfold putPg; split <;> omega
theorem n3_sl {k a : Int} (h : k ≠ 3) : putSl k a % 16 ≠ 3 := by unfold putSl; split <;> omega
section
variable {s : Sh} {w : Wd}
theorem pg_ge (hm : may s.p s.c s.m = true) {q : Int} (q0 : 0 ≤ q) (q1 : q < s.p) : 0 ≤ s.c ∧ s.c ≤ page s.p s.c s.m q := by
  have := (may_iff _ _ _).1 hm
  rw [page_yes hm q0 q1]; omega
theorem sl_ge (hm : may s.p s.c s.m = true) {q i : Int} (q0 : 0 ≤ q) (q1 : q < s.p) (i0 : 0 ≤ i) (i1 : i < 16) : 0 ≤ s.c ∧ s.c ≤ slot s.p s.c s.m q i := by
  have := (may_iff _ _ _).1 hm
  rw [slot_yes hm q0 q1 i0 i1]; omega
theorem mg_ge (hm : may s.p s.c s.m = true) {c i : Int} (c0 : 0 ≤ c) (c1 : c < s.c) (i0 : 0 ≤ i) (i1 : i < s.m) : 0 ≤ s.c ∧ s.c ≤ mag s.p s.c s.m c i := by
  have := (may_iff _ _ _).1 hm
  have h2 : 0 ≤ c * s.m := Int.mul_nonneg c0 (by omega)
  rw [mag_yes hm c0 c1 i0 i1]; omega
theorem Tk.wn {t : Tk} (ht : t.wf) (hs : t.s = s) : Wn s w.ws (t.step w).2.ws := by
  cases hd : t.dn
  · obtain ⟨hm, c0, c1, i0, i1⟩ := ht.of hd
    rw [hs] at hm c1 i1
    unfold Tk.step
    rw [if_neg (by rw [hd]; decide)]
    split
    · rw [store_ws]; unfold Tk.at'; rw [hs]
      obtain ⟨g0, g1⟩ := mg_ge hm c0 c1 i0 i1
      exact Wn.up g0 g1 (by decide)
    · split <;> exact Wn.refl _ _
  · unfold Tk.step; rw [if_pos hd]; exact Wn.refl _ _
theorem Sc.wn {t : Sc} (ht : t.wf) (hs : t.s = s) : Wn s w.ws (t.step w).2.ws := by
  cases hd : t.dn
  · obtain ⟨hm, c0, c1, f0, f1, m0, m1, i0, i1, -⟩ := ht.of hd
    rw [hs] at hm f1 m1
    have hb := slots_bd t.k
    have hq : 0 ≤ t.pg ∧ t.pg < s.p := by unfold Sc.pg; rw [hs]; exact mod_bd (by omega)
    unfold Sc.step
    rw [if_neg (by rw [hd]; decide)]
    split
    · exact Wn.refl _ _
    · split
      · exact Wn.refl _ _
      · show Wn s w.ws (w.swap t.c t.at' (opn t.k) (way t.c)).ws
        by_cases e : w.get t.at' = opn t.k
        · rw [swap_yes e]; unfold Sc.at'; rw [hs]
          obtain ⟨g0, g1⟩ := sl_ge hm hq.1 hq.2 i0 (by omega : t.i < 16)
          exact Wn.up g0 g1 (n3_sl (by decide))
        · rw [swap_no e]; exact Wn.refl _ _
  · unfold Sc.step; rw [if_pos hd]; exact Wn.refl _ _
theorem Pc.wn {t : Pc} (ht : t.wf) (hs : t.s = s) : Wn s w.ws (t.step w).2.ws := by
  cases hd : t.dn
  · obtain ⟨hm, c0, c1, f0, f1, m0, m1⟩ := ht.of hd
    rw [hs] at hm f1 m1
    have hq : 0 ≤ t.pg ∧ t.pg < s.p := by unfold Pc.pg; rw [hs]; exact mod_bd (by omega)
    unfold Pc.step
    rw [if_neg (by rw [hd]; decide)]
    split
    · show Wn s w.ws (w.swap t.c t.at' 0 (held t.c)).ws
      by_cases e : w.get t.at' = 0
      · rw [swap_yes e]; unfold Pc.at'; rw [hs]
        obtain ⟨g0, g1⟩ := pg_ge hm hq.1 hq.2
        exact Wn.up g0 g1 (n3_pg (by decide))
      · rw [swap_no e]; exact Wn.refl _ _
    · exact Wn.refl _ _
  · unfold Pc.step; rw [if_pos hd]; exact Wn.refl _ _
theorem St.wn {t : St} (ht : t.wf) (hs : t.s = s) : Wn s w.ws (t.step w).2.ws := by
  cases hd : t.dn
  · obtain ⟨hm, c0, c1, p0, p1, k0, i0, i1, hb⟩ := ht.of hd
    rw [hs] at hm p1
    have hsl := slots_bd t.k
    unfold St.step
    rw [if_neg (by rw [hd]; decide)]
    split
    · rename_i e
      have := hb e
      rw [store_ws]; unfold St.at'; rw [hs]
      obtain ⟨g0, g1⟩ := sl_ge hm p0 p1 (by omega : 0 ≤ t.i - 1) (by omega : t.i - 1 < 16)
      exact Wn.up g0 g1 (n3_sl (by decide))
    · split
      · rw [store_ws]; unfold St.pat; rw [hs]
        obtain ⟨g0, g1⟩ := pg_ge hm p0 p1
        exact Wn.up g0 g1 (n3_pg (by decide))
      · rename_i e0
        show Wn s w.ws (w.swap t.c (t.at' t.i) (opn t.k) (way t.c)).ws
        by_cases e : w.get (t.at' t.i) = opn t.k
        · rw [swap_yes e]; unfold St.at'; rw [hs]
          obtain ⟨g0, g1⟩ := sl_ge hm p0 p1 i0 (by omega : t.i < 16)
          exact Wn.up g0 g1 (n3_sl (by decide))
        · rw [swap_no e]; exact Wn.refl _ _
  · unfold St.step; rw [if_pos hd]; exact Wn.refl _ _
theorem Bi.wn {t : Bi} (ht : t.wf) (hs : t.s = s) : Wn s w.ws (t.step w).2.ws := by
  cases hd : t.dn
  · obtain ⟨hm, c0, c1, p0, p1, k0, i0, i1, hb⟩ := ht.of hd
    rw [hs] at hm p1
    have hsl := slots_bd t.k
    unfold Bi.step
    rw [if_neg (by rw [hd]; decide)]
    split
    · rename_i e
      have := hb e
      rw [store_ws]; unfold Bi.at'; rw [hs]
      obtain ⟨g0, g1⟩ := sl_ge hm p0 p1 i0 (by omega : t.i < 16)
      exact Wn.up g0 g1 (n3_sl (by decide))
    · split
      · rw [store_ws]; unfold Bi.pat; rw [hs]
        obtain ⟨g0, g1⟩ := pg_ge hm p0 p1
        exact Wn.up g0 g1 (n3_pg (by decide))
      · rename_i e0
        rw [store_ws]; unfold Bi.at'; rw [hs]
        obtain ⟨g0, g1⟩ := sl_ge hm p0 p1 i0 (by omega : t.i < 16)
        refine Wn.up g0 g1 ?_
        split
        · exact n3_sl (by decide)
        · decide
  · unfold Bi.step; rw [if_pos hd]; exact Wn.refl _ _
theorem Sk.wn {t : Sk} (ht : t.wf) (hs : t.s = s) : Wn s w.ws (t.step w).2.ws := by
  rcases step_cases t w with ⟨hd, e⟩ | ⟨hd, hc⟩
  · rw [e]; exact Wn.refl _ _
  obtain ⟨ok, nd⟩ := ht.nw hd
  rcases hc with ⟨m, en, e⟩ | ⟨m, en, e⟩ | ⟨m, en, e⟩ | ⟨en, e⟩ | ⟨m, en, e⟩ | ⟨m, en, e⟩ <;> rw [e] <;> (try rw [en] at ok)
  · exact Tk.wn ok.1 (ok.2.1.trans hs)
  · exact Sc.wn ok.1 (ok.2.1.trans hs)
  · exact Pc.wn ok.1 (ok.2.1.trans hs)
  · exact Wn.refl _ _
  · exact St.wn ok.1 (ok.2.1.trans hs)
  · exact Bi.wn ok.1 (ok.2.1.trans hs)
theorem Rn.wn {t : Rn} (ht : t.wf) (hs : t.s = s) : Wn s w.ws (t.step w).2.ws := by
  rcases step_cases ht w with ⟨hd, e⟩ | ⟨hd, hc⟩
  · rw [e]; exact Wn.refl _ _
  obtain ⟨hm, hfd, ar⟩ := ht.of hd
  unfold Ar at ar
  rw [hs] at ar hm
  obtain ⟨-, -, n1, n8, h0, h1, a0, x0, x5, ar4, ar3, ar4', ar5⟩ := ar
  rcases hc with ⟨hn, e⟩ | ⟨hn, e⟩ | ⟨hn, q, hq, hqw, hqd, hqs, hqc, hqp, e⟩ | ⟨hn, e⟩ | ⟨hn, e⟩ | ⟨hn, e⟩ <;> rw [e]
  · exact Wn.refl _ _
  · have a1 := ar4 (by omega)
    show Wn s w.ws (w.swap t.c t.pat 0 (held t.c)).ws
    by_cases e2 : w.get t.pat = 0
    · rw [swap_yes e2]; unfold pat; rw [hs]
      obtain ⟨g0, g1⟩ := pg_ge hm (by omega : 0 ≤ t.at') (by omega)
      exact Wn.up g0 g1 (n3_pg (by decide))
    · rw [swap_no e2]; exact Wn.refl _ _
  · exact St.wn hqw (hqs.trans hs)
  · have a1 := ar4 (by omega)
    obtain ⟨i0, i1⟩ := ar3 hn
    show Wn s w.ws (w.store t.c t.sat 0).ws
    rw [store_ws]; unfold sat; rw [hs]
    obtain ⟨g0, g1⟩ := sl_ge hm (by omega : 0 ≤ t.at') (by omega) i0 i1
    exact Wn.up g0 g1 (by decide)
  · have a1 := ar4 (by omega)
    obtain ⟨i0, i1, -⟩ := ar4' hn
    show Wn s w.ws (w.store t.c t.bat 0).ws
    rw [store_ws]; unfold bat; rw [hs]
    obtain ⟨g0, g1⟩ := pg_ge hm (by omega : 0 ≤ t.i - 1) (by omega)
    exact Wn.up g0 g1 (by decide)
  · obtain ⟨e5, i0, i1⟩ := ar5 hn
    show Wn s w.ws (w.store t.c t.iat (putPg 4 t.hd 0)).ws
    rw [store_ws]; unfold iat; rw [hs]
    obtain ⟨g0, g1⟩ := pg_ge hm (by omega : 0 ≤ t.i) (by omega)
    exact Wn.up g0 g1 (n3_pg (by decide))
theorem Rv.wn {c : Int} {t : Rv} (ht : t.wf) (hs : t.of s c) : Wn s w.ws (t.step w).2.ws := by
  cases t with
  | sk t => exact Sk.wn ht hs.1
  | rn t => exact Rn.wn ht hs.1
  | no => exact Wn.refl _ _
end
namespace Rv
def ho : Rv → Ow.Ho
  | .sk t => t.ho
  | .rn t => t.ho
  | .no => Ow.nil
def In (s : Sh) (c : Int) (t : Rv) (ws : Nat → Int) : Prop := match t with
  | .sk t => Sk.In s c t ws
  | .rn t => Rn.In s c t ws
  | .no => Ow.Own s ws c Ow.nil
section
variable {s : Sh} {c : Int} {t : Rv} {w : Wd} {ws ws' : Nat → Int}
theorem In.wf (h : In s c t ws) : t.wf ∧ t.of s c := by
  cases t with
  | sk t => exact ⟨Sk.In.wf h, Sk.In.es h, Sk.In.ec h⟩
  | rn t => exact ⟨Rn.In.wf h, Rn.In.es h, Rn.In.ec h⟩
  | no => exact ⟨trivial, trivial⟩
theorem In.step (h : In s c t w.ws) (hB : Ow.Bs s w.ws) : Ow.Nx s c w.ws (t.step w).2.ws (t.step w).1.ho ∧ In s c (t.step w).1 (t.step w).2.ws := by
  cases t with
  | sk t => exact Sk.In.step h hB
  | rn t => exact Rn.In.step h hB
  | no => exact ⟨Ow.Nx.id hB h, h⟩
theorem In.rel (h : In s c t ws) (r : Ow.Rel s c ws ws') : In s c t ws' := by
  cases t with
  | sk t => exact Sk.In.rel h r
  | rn t => exact Rn.In.rel h r
  | no => exact Ow.Own.rel h r
theorem In.new (hm : may s.p s.c s.m = true) (c0 : 0 ≤ c) (c1 : c < s.c) (n f : Int) (ow : Ow.Own s ws c Ow.nil) : In s c (Rv.new s c n f) ws := by
  unfold Rv.new
  split
  · exact Sk.In.new hm c0 c1 _ _ ow
  · split
    · exact Rn.In.new hm c0 c1 _ ow
    · exact ow
end
end Rv
namespace Gt
def sh (m : Int) : Sh := ⟨m, 2, 0⟩
/-- A heap that is one block of m pages. -/
def one (m : Int) (j : Nat) : Int := if (j : Int) = 2 then 3 + 16 * m else if 2 < (j : Int) ∧ (j : Int) < 2 + m then 4 else 0
structure Inv (m : Int) (k : Gv) (t : Rv) (w : Wd) : Prop where
  of : w.of (sh m)
  bs : Ow.Bs (sh m) w.ws
  ik : Gv.In (sh m) 0 k w.ws
  it : Rv.In (sh m) 1 t w.ws
  st : ∀ j : Nat, (j : Int) < 2 → w.ws j = 0
  n3 : ∀ j : Nat, w.ws j % 16 = 3 → j = 2
  ng : k.gv = false → Kj (sh m) (one m) w.ws ∧ t.Nf (sh m) (one m) ∧ k.dn = false ∧ (k.nx = 0 ∨ (k.nx = 1 ∧ k.pK = 3 ∧ k.wd = 3 + 16 * m))
  g3 : k.gv = true → w.ws 2 % 16 ≠ 3
  ka : k.pg = 0 ∧ k.off = 0
section
variable {m : Int} {k : Gv} {t : Rv} {w : Wd}
end
end Gt
end Go.Ma
set_option linter.unusedVariables false
set_option linter.unusedSectionVars false
set_option linter.unusedSimpArgs false
namespace Go.Ma
open Go.Pl
open Ow
/-- No word that is of a block is otherwise. -/
def Ks (ws ws' : Nat → Int) : Prop := ∀ j : Nat, ws j % 16 = 3 → ws' j = ws j
theorem Ks.refl (ws : Nat → Int) : Ks ws ws := fun _ _ => rfl
theorem Ks.up {ws : Nat → Int} {a y : Int} (h : ws a.toNat % 16 ≠ 3) : Ks ws (upW ws a y) := fun j hj => by
  unfold upW
  split
  · rename_i e; rw [e] at hj; exact absurd hj h
  · rfl
section
variable {s : Sh} {w : Wd} {c : Int}
theorem held_sl {q i : Int} (hc : s.c ≤ 12) {ws : Nat → Int} (h : Pg s ws q) (hq : pgAt s ws q = 1 + 16 * c) (c0 : 0 ≤ c) (i0 : 0 ≤ i) (i1 : i < 16) : slAt s ws q i % 16 ≠ 3 := by
  cases h with
  | e h z => omega
  | h c' c0' c1' h z => have := z i i0 i1; omega
  | s k h z => have := h.mod; omega
  | l n n1 n8 nq h z b => omega
  | b h h0 h1 h2 e z ww => omega
theorem sl_up (hm : may s.p s.c s.m = true) {q i y : Int} {ws : Nat → Int} (q0 : 0 ≤ q) (q1 : q < s.p) (i0 : 0 ≤ i) (i1 : i < 16) (h : slAt s ws q i % 16 ≠ 3) : Ks ws (upW ws (slot s.p s.c s.m q i) y) := by
  refine Ks.up ?_
  rw [slot_yes hm q0 q1 i0 i1]; exact h
theorem pg_up {q y : Int} {ws : Nat → Int} (h : pgAt s ws q % 16 ≠ 3) : Ks ws (upW ws (page s.p s.c s.m q) y) := Ks.up h
theorem St.ks {t : St} {A : Int → Prop} {B : Int → Int → Prop} (hs' : t.s = s) (hc' : t.c = c) (wf : t.wf) (hd : t.dn = false) (hh : t.hd = false) (ho : Own s w.ws c ⟨fun q => A q ∨ t.hp q, B, t.hs⟩) (hk : 0 < t.i → Sup s t.k (pgAt s w.ws t.p)) : Ks w.ws (t.step w).2.ws := by
  obtain ⟨hm, c0, c1, p0, p1, k0, i0, i1, hbk⟩ := wf.of hd
  rw [hs'] at hm p1
  have hsl := slots_bd t.k
  obtain ⟨kk0, kk3⟩ := slots_k k0
  unfold St.step
  rw [if_neg (by rw [hd]; decide)]
  split
  · rename_i e
    have := hbk e
    have g := (ho.sl t.p (t.i - 1) p0 p1 (by omega) (by omega)).2 (.inl ⟨hh, rfl, by omega, by omega⟩)
    rw [store_ws]; unfold St.at'; rw [hs']
    exact sl_up hm p0 p1 (by omega) (by omega) (by rw [g.2]; omega)
  · split
    · have := (hk (by omega)).mod
      rw [store_ws]; unfold St.pat; rw [hs']
      exact pg_up (by omega)
    · show Ks w.ws (w.swap t.c (t.at' t.i) (opn t.k) (way t.c)).ws
      by_cases e : w.get (t.at' t.i) = opn t.k
      · rw [swap_yes e]
        refine Ks.up ?_
        have e : w.ws (t.at' t.i).toNat = opn t.k := e
        rw [e, opn_v kk0 (by omega)]; omega
      · rw [swap_no e]; exact Ks.refl _
theorem Bi.ks {t : Bi} (hs' : t.s = s) (hc' : t.c = c) (wf : t.wf) (hd : t.dn = false) (hB : Bs s w.ws) (ho : Own s w.ws c t.ho) : Ks w.ws (t.step w).2.ws := by
  obtain ⟨hm, c0, c1, p0, p1, k0, i0, i1, hbd⟩ := wf.of hd
  rw [hs'] at hm p1
  have hb := (may_iff _ _ _).1 hm
  rw [hc'] at c0
  have hsl := slots_bd t.k
  unfold Bi.step
  rw [if_neg (by rw [hd]; decide)]
  split
  · rename_i e
    have := hbd e
    have g := (ho.sl t.p t.i p0 p1 (by omega) (by omega)).2 (.inl ⟨e, rfl, by omega, Int.le_refl _⟩)
    rw [store_ws]; unfold Bi.at'; rw [hs']
    exact sl_up hm p0 p1 (by omega) (by omega) (by rw [g.2]; omega)
  · rename_i e
    have hh := (ho.pg t.p p0 p1).2 ⟨by simpa using e, rfl⟩
    split
    · rw [store_ws]; unfold Bi.pat; rw [hs']
      exact pg_up (by rw [hh]; omega)
    · rw [store_ws]; unfold Bi.at'; rw [hs']
      exact sl_up hm p0 p1 i0 (by omega) (held_sl (by omega) (hB.pg _ p0 p1) hh c0 i0 (by omega))
theorem Sk.In.ks {t : Sk} (h : Sk.In s c t w.ws) (hB : Bs s w.ws) : Ks w.ws (t.step w).2.ws := by
  have hm := h.m
  have hb := (may_iff _ _ _).1 hm
  have c0 := h.c0
  have hts := h.es
  have htc := h.ec
  have ow := h.ow
  have ft := h.ft
  rcases step_cases t w with ⟨hd, e⟩ | ⟨hd, hc⟩
  · rw [e]; exact Ks.refl _
  obtain ⟨ok, nd⟩ := h.wf.nw hd
  rcases hc with ⟨m, en, e⟩ | ⟨m, en, e⟩ | ⟨m, en, e⟩ | ⟨en, e⟩ | ⟨m, en, e⟩ | ⟨m, en, e⟩ <;> rw [e] <;> (try rw [en] at ok nd)
  · have nd : m.dn = false := nd
    obtain ⟨o1, o2, o3, o4, -, -⟩ := ok
    obtain ⟨-, -, d1, i0, i1⟩ := o1.of nd
    rw [o2, hts] at i1
    show Ks w.ws (m.step w).2.ws
    unfold Tk.step
    rw [if_neg (by rw [nd]; decide)]
    split
    · rw [store_ws]
      refine Ks.up ?_
      have hat : w.ws m.at'.toNat = mgAt s w.ws c m.i := by
        unfold Tk.at' mgAt; rw [o2, hts, o3, htc, mag_yes hm c0 h.c1 i0 i1]
      rw [hat]
      by_cases hz : mgAt s w.ws c m.i = 0
      · rw [hz]; decide
      · obtain ⟨p, i, k, -, -, -, -, e, -⟩ := hB.mg c m.i c0 h.c1 i0 i1 hz
        omega
    · split <;> exact Ks.refl _
  · have nd : m.dn = false := nd
    obtain ⟨o1, o2, o3, o4, -⟩ := ok
    obtain ⟨-, -, -, -, -, -, -, j0, j1, -⟩ := o1.of nd
    obtain ⟨kk0, kk3⟩ := slots_k (k := m.k) (by omega)
    show Ks w.ws (m.step w).2.ws
    unfold Sc.step
    rw [if_neg (by rw [nd]; decide)]
    split
    · exact Ks.refl _
    · split
      · exact Ks.refl _
      · show Ks w.ws (w.swap m.c m.at' (opn m.k) (way m.c)).ws
        by_cases e : w.get m.at' = opn m.k
        · rw [swap_yes e]
          refine Ks.up ?_
          have e : w.ws m.at'.toNat = opn m.k := e
          rw [e, opn_v kk0 (by omega)]; omega
        · rw [swap_no e]; exact Ks.refl _
  · have nd : m.dn = false := nd
    show Ks w.ws (m.step w).2.ws
    unfold Pc.step
    rw [if_neg (by rw [nd]; decide)]
    split
    · show Ks w.ws (w.swap m.c m.at' 0 (held m.c)).ws
      by_cases e : w.get m.at' = 0
      · rw [swap_yes e]
        refine Ks.up ?_
        have e : w.ws m.at'.toNat = 0 := e
        rw [e]; decide
      · rw [swap_no e]; exact Ks.refl _
    · exact Ks.refl _
  · exact Ks.refl _
  · have nd : m.dn = false := nd
    obtain ⟨o1, o2, o3, o4, o5⟩ := ok
    rw [ho_st hd en] at ow
    rw [Ft_of hd en] at ft
    exact St.ks (A := fun _ => False) (B := fun _ _ => False) (o2.trans hts) (o3.trans htc) o1 nd ft.1 (ow.congr (fun q => ⟨fun g => g.resolve_left id, .inr⟩) (fun _ _ => Iff.rfl) fun _ _ => Iff.rfl) ft.2
  · have nd : m.dn = false := nd
    obtain ⟨o1, o2, o3, -⟩ := ok
    rw [ho_bi hd en] at ow
    exact Bi.ks (o2.trans hts) (o3.trans htc) o1 nd hB ow
theorem Rn.In.ks {t : Rn} (h : Rn.In s c t w.ws) (hB : Bs s w.ws) : Ks w.ws (t.step w).2.ws := by
  have hm := h.m
  have hb := (may_iff _ _ _).1 hm
  have c0 := h.c0
  have hts := h.es
  have htc := h.ec
  have ow := h.ow
  rcases step_cases h.wf w with ⟨hd, e⟩ | ⟨hd, hc⟩
  · rw [e]; exact Ks.refl _
  obtain ⟨-, hfd, ar⟩ := h.wf.of hd
  unfold Ar at ar
  rw [hts] at ar
  obtain ⟨-, -, n1, n8, h0, h1, a0, x0, x5, ar4, ar3, ar4', ar5⟩ := ar
  rcases hc with ⟨hn, e⟩ | ⟨hn, e⟩ | ⟨hn, q, hq, hqw, hqd, hqs, hqc, hqp, e⟩ | ⟨hn, e⟩ | ⟨hn, e⟩ | ⟨hn, e⟩ <;> rw [e]
  · exact Ks.refl _
  · show Ks w.ws (w.swap t.c t.pat 0 (held t.c)).ws
    by_cases e2 : w.get t.pat = 0
    · rw [swap_yes e2]
      refine Ks.up ?_
      have e2 : w.ws t.pat.toNat = 0 := e2
      rw [e2]; decide
    · rw [swap_no e2]; exact Ks.refl _
  · rw [ho_2 hd hn hq] at ow
    have hqh : q.hd = false := by
      obtain ⟨q', e', -, -, -, -, -, g⟩ := h.wf.q hd hn
      rw [hq] at e'; injection e' with e'; rw [e']; exact g
    exact St.ks (A := fun q => t.hd ≤ q ∧ q < t.at') (B := fun _ _ => False) (hqs.trans hts) (hqc.trans htc) hqw hqd hqh (ow.congr (fun x => ⟨fun g => (by rcases g with g | ⟨g, -⟩; exact g; rw [hqh] at g; cases g), .inl⟩) (fun _ _ => Iff.rfl) fun _ _ => Iff.rfl) (h.ft.st hd hn q hq)
  · have a1 := ar4 (by omega)
    obtain ⟨i0, i1⟩ := ar3 hn
    rw [ho_3 hd hn] at ow
    have hh := (ow.pg t.at' (by omega) (by omega)).2 ⟨a0, by omega⟩
    show Ks w.ws (w.store t.c t.sat 0).ws
    rw [store_ws]; unfold sat; rw [hts]
    exact sl_up hm (by omega) (by omega) i0 i1 (held_sl (by omega) (hB.pg _ (by omega) (by omega)) hh c0 i0 i1)
  · have a1 := ar4 (by omega)
    obtain ⟨i0, i1, -⟩ := ar4' hn
    rw [ho_4 hd hn] at ow
    have hh := (ow.pg (t.i - 1) (by omega) (by omega)).2 ⟨by omega, by omega⟩
    show Ks w.ws (w.store t.c t.bat 0).ws
    rw [store_ws]; unfold bat; rw [hts]
    exact pg_up (by rw [hh]; omega)
  · obtain ⟨e5, i0, i1⟩ := ar5 hn
    rw [ho_5 hd hn] at ow
    have hh := (ow.pg t.i (by omega) (by omega)).2 (.inr ⟨Int.le_refl _, i1⟩)
    show Ks w.ws (w.store t.c t.iat (putPg 4 t.hd 0)).ws
    rw [store_ws]; unfold iat; rw [hts]
    exact pg_up (by rw [hh]; omega)
theorem Uo.In.ks {t : Uo} (h : Uo.In s c t w.ws) (hB : Bs s w.ws) : Ks w.ws (Uo.step t w).2.ws := by
  have ow := h.ow
  have hts := h.es
  have htc := h.ec
  cases hd : t.dn
  rotate_left
  · have e : Uo.step t w = (t, w) := by unfold Uo.step; rw [if_pos hd]
    rw [e]; exact Ks.refl _
  obtain ⟨⟨hm, c0, c1, p0, p1, fl, fs⟩, fi⟩ := h.wf hd
  rw [hts] at hm p1 fl
  rw [htc] at c0
  have hb := (may_iff _ _ _).1 hm
  cases hl : t.b.lg
  · have e : Uo.step t w = ({ t with dn := true }, w.store t.c t.sat (putSl 1 t.b.k)) := by unfold Uo.step; rw [hd, hl]; rfl
    have e2 : t.ho = one t.b.p t.b.i := by unfold Uo.ho; rw [hd, hl]; rfl
    rw [e2] at ow
    obtain ⟨i0, i1⟩ := fs hl
    have hs := slots_bd t.b.k
    have g := (ow.sl t.b.p t.b.i p0 p1 i0 (by omega)).2 (.inl ⟨rfl, rfl⟩)
    rw [e]
    show Ks w.ws (w.store t.c t.sat (putSl 1 t.b.k)).ws
    rw [store_ws]; unfold sat; rw [hts]
    exact sl_up hm p0 p1 i0 (by omega) (by rw [g.2]; omega)
  obtain ⟨n1, n8, nq⟩ := fl hl
  obtain ⟨i0, i1⟩ := fi hl
  have e2 : t.ho = rw6 t.b.p t.i t.b.n := by unfold Uo.ho; rw [hd, hl]; rfl
  rw [e2] at ow
  by_cases hi : t.i = t.b.n - 1
  · have e : Uo.step t w = ({ t with dn := true }, w.store t.c t.pat 0) := by unfold Uo.step; rw [hd, hl, if_neg (by decide), if_pos rfl, if_pos hi]
    have g := (ow.pg t.b.p p0 p1).2 rfl
    rw [e]
    show Ks w.ws (w.store t.c t.pat 0).ws
    rw [store_ws]; unfold pat; rw [hts]
    exact pg_up (by rw [g]; omega)
  · have e : Uo.step t w = ({ t with i := t.i + 1 }, w.store t.c t.iat 0) := by unfold Uo.step; rw [hd, hl, if_neg (by decide), if_pos rfl, if_neg hi]
    have g := (ow.bd (t.b.p + t.i + 1) t.b.p (by omega) (by omega) p0 p1).2 ⟨rfl, by omega, by omega⟩
    rw [e]
    show Ks w.ws (w.store t.c t.iat 0).ws
    rw [store_ws]; unfold iat; rw [hts]
    exact pg_up (by rw [g.1]; omega)
theorem Uo.wn {t : Uo} (wf : t.wf) (hs : t.s = s) : ∀ j : Nat, (Uo.step t w).2.ws j = w.ws j ∨ (s.c ≤ (j : Int) ∧ (Uo.step t w).2.ws j % 16 ≠ 3) := by
  cases hd : t.dn
  rotate_left
  · have e : Uo.step t w = (t, w) := by unfold Uo.step; rw [if_pos hd]
    rw [e]; exact fun _ => .inl rfl
  obtain ⟨⟨hm, c0, c1, p0, p1, fl, fs⟩, fi⟩ := wf hd
  rw [hs] at hm p1 fl
  have hb := (may_iff _ _ _).1 hm
  have up : ∀ (a y : Int), s.c ≤ a → y % 16 ≠ 3 → ∀ j : Nat, upW w.ws a y j = w.ws j ∨ (s.c ≤ (j : Int) ∧ upW w.ws a y j % 16 ≠ 3) := fun a y ha hy j => by
    unfold upW
    split
    · exact .inr ⟨by omega, hy⟩
    · exact .inl rfl
  cases hl : t.b.lg
  · have e : Uo.step t w = ({ t with dn := true }, w.store t.c t.sat (putSl 1 t.b.k)) := by unfold Uo.step; rw [hd, hl]; rfl
    obtain ⟨i0, i1⟩ := fs hl
    have hsl := slots_bd t.b.k
    rw [e]
    show ∀ j : Nat, (w.store t.c t.sat (putSl 1 t.b.k)).ws j = w.ws j ∨ _
    rw [store_ws]; unfold sat; rw [hs, slot_yes hm p0 p1 i0 (by omega)]
    exact up _ _ (by omega) (by unfold putSl; split <;> omega)
  obtain ⟨n1, n8, nq⟩ := fl hl
  obtain ⟨i0, i1⟩ := fi hl
  by_cases hi : t.i = t.b.n - 1
  · have e : Uo.step t w = ({ t with dn := true }, w.store t.c t.pat 0) := by unfold Uo.step; rw [hd, hl, if_neg (by decide), if_pos rfl, if_pos hi]
    rw [e]
    show ∀ j : Nat, (w.store t.c t.pat 0).ws j = w.ws j ∨ _
    rw [store_ws]; unfold pat; rw [hs, page_yes hm p0 p1]
    exact up _ _ (by omega) (by decide)
  · have e : Uo.step t w = ({ t with i := t.i + 1 }, w.store t.c t.iat 0) := by unfold Uo.step; rw [hd, hl, if_neg (by decide), if_pos rfl, if_neg hi]
    rw [e]
    show ∀ j : Nat, (w.store t.c t.iat 0).ws j = w.ws j ∨ _
    rw [store_ws]; unfold iat; rw [hs, page_yes hm (by omega) (by omega)]
    exact up _ _ (by omega) (by decide)
end
end Go.Ma
set_option linter.unusedVariables false
set_option linter.unusedSectionVars false
set_option linter.unusedSimpArgs false
namespace Go.Ma
open Go.Pl
open Ow
namespace R2
def sh (m : Int) : Sh := ⟨m, 2, 1⟩
/-- With page 0 besides. -/
def and0 (o : Ho) : Ho := ⟨fun q => o.hp q ∨ q = 0, o.hb, o.hs⟩
/-- What is known of one's giver, while it is at it: it is of the block at page 0. -/
def Gs (g : Gv) : Prop := g.nx = 0 ∨ (g.nx = 1 ∧ g.pK = 3 ∧ g.pA = 1 ∧ g.wd = 19) ∨ (g.nx = 1 ∧ g.pK = 2 ∧ g.sl = 0) ∨ (g.nx = 4 ∧ g.pK = 3 ∧ g.pA = 1 ∧ g.i = 0)
inductive Ph (m c : Int) (t : Re) (ws : Nat → Int) : Prop
  | rv (hd : t.dn = false) (e : t.md = .no) (hr : t.rv.dn = false) (h : Rv.In (sh m) c t.rv ws) (gd : t.gv.dn = false) (gx : t.gv.nx = 0)
  | gv (hd : t.dn = false) (e : t.md = .no) (hr : t.rv.dn = true) (hf : t.rv.fd = true) (b : t.rv.bk.Fit (sh m) c) (ft : FtB (sh m) t.rv.bk ws) (gd : t.gv.dn = false) (g : Gs t.gv) (ow : Own (sh m) ws c (if t.gv.nx = 4 then and0 (ofB t.rv.bk) else ofB t.rv.bk))
      (z : t.gv.nx = 4 → t.rv.bk.p ≠ 0 ∧ ∀ i, 0 ≤ i → i < 16 → slAt (sh m) ws 0 i = 0)
  | uo (u : Uo) (hd : t.dn = false) (e : t.md = .uo u) (h : Uo.In (sh m) c u ws)
  | cm (u : Cm) (hd : t.dn = false) (e : t.md = .cm u) (h : Cm.In (sh m) c u ws) (eb : u.b = t.rv.bk) (ud : u.dn = false) (p : t.rv.bk.p ≠ 0)
  | fn (hd : t.dn = true) (ow : Own (sh m) ws c nil) (er : (t.er = 3 ∧ t.rv.fd = false ∧ t.gv.gv = false) ∨ (t.er = 1 ∧ t.gv.gv = false) ∨ (t.er = 0 ∧ t.gv.gv = true ∧ t.rv.fd = true ∧ t.rv.bk.Fit (sh m) c ∧ t.rv.bk.p ≠ 0))
structure In (m c : Int) (t : Re) (ws : Nat → Int) : Prop where
  wf : t.wf
  on : t.on = true
  es : t.s = sh m
  ec : t.c = c
  g0 : t.gv.pg = 0 ∧ t.gv.off = 0
  ph : Ph m c t ws
section
variable {m c : Int} {t : Re} {w : Wd}
theorem may_ok (m1 : 1 ≤ m) (m6 : m ≤ 6) : may (sh m).p (sh m).c (sh m).m = true := (may_iff _ _ _).2 ⟨m1, by show m ≤ 64; omega, by show (1 : Int) ≤ 2; decide, by show (2 : Int) ≤ 12; decide, by show (0 : Int) ≤ 1; decide, by show (1 : Int) ≤ 8; decide⟩
/-- A block that was found. -/
theorem found (h : Rv.In (sh m) c t.rv w.ws) (hd : t.rv.dn = true) (hf : t.rv.fd = true) : t.rv.bk.Fit (sh m) c ∧ FtB (sh m) t.rv.bk w.ws ∧ Own (sh m) w.ws c (ofB t.rv.bk) := by
  cases hv : t.rv with
  | no => rw [hv] at hf; cases hf
  | sk q =>
    rw [hv] at h hd hf
    have h : Sk.In (sh m) c q w.ws := h
    have hf : q.fd = true := hf
    have hd : q.dn = true := hd
    have e : (Rv.sk q).bk = ⟨false, q.pg, q.sl, q.k, 0⟩ := by unfold Rv.bk; simp only [hf, if_true]
    rw [e]
    obtain ⟨p0, p1, s0, s1, hs, hw⟩ := h.fin hd hf
    have ow := h.ow
    rw [Sk.ho_bk hd hf] at ow
    exact ⟨⟨h.m, h.c0, h.c1, p0, p1, fun g => (by cases g), fun _ => ⟨s0, s1⟩⟩, ⟨fun g => (by cases g), fun _ => hs⟩, ow⟩
  | rn q =>
    rw [hv] at h hd hf
    have h : Rn.In (sh m) c q w.ws := h
    have hf : q.fd = true := hf
    have hd : q.dn = true := hd
    have e : (Rv.rn q).bk = ⟨true, q.hd, 0, 0, q.n⟩ := by unfold Rv.bk; simp only [hf, if_true]
    rw [e]
    obtain ⟨h0, n1, n8, hn⟩ := h.fb hf
    have hbk := Rn.ho_bk hd hf
    have ow := h.ow.congr hbk.p hbk.b hbk.s
    have hp : q.ho.hp q.hd := by rw [Rn.ho_f hd hf]; exact .inl rfl
    exact ⟨⟨h.m, h.c0, h.c1, h0, by show q.hd < (sh m).p; omega, fun _ => ⟨n1, n8, hn⟩, fun g => (by cases g)⟩, ⟨fun _ i i0 i1 => h.ft.z q.hd i i0 i1 hp fun g => (by rw [hd] at g; cases g), fun g => (by cases g)⟩, ow⟩
/-- Nothing found: it has nothing. -/
theorem none (h : Rv.In (sh m) c t.rv w.ws) (hd : t.rv.dn = true) (hf : t.rv.fd = false) : Own (sh m) w.ws c nil := by
  cases hv : t.rv with
  | no => rw [hv] at h; exact h
  | sk q =>
    rw [hv] at h hd hf
    have ow := Sk.In.ow h
    have e : q.ho = nil := by unfold Sk.ho; rw [show q.dn = true from hd, show q.fd = false from hf]; rfl
    rw [e] at ow; exact ow
  | rn q =>
    rw [hv] at h hd hf
    have ow := Rn.In.ow h
    rw [Rn.ho_n hd hf] at ow; exact ow
theorem of_uo {s : Sh} {ws : Nat → Int} {b : Bk} (b1 : b.Fit s c) (ft : FtB s b ws) (ow : Own s ws c (ofB b)) : Uo.In s c (Uo.new s c b) ws := by
  have hd : (Uo.new s c b).dn = false := by show (!b.fits s c) = false; rw [Bk.of_fits b1]; rfl
  refine ⟨Uo.new_wf _ _ _, rfl, rfl, ?_, fun _ => ft⟩
  have e : (Uo.new s c b).ho = ofB b := by unfold Uo.ho ofB; rw [hd]; rfl
  rw [e]; exact ow
theorem of_cm {s : Sh} {ws : Nat → Int} {b : Bk} (b1 : b.Fit s c) (ft : FtB s b ws) (ow : Own s ws c (ofB b)) : Cm.In s c (Cm.new s c b) ws ∧ (Cm.new s c b).dn = false := by
  have hd : (Cm.new s c b).dn = false := by show (!b.fits s c) = false; rw [Bk.of_fits b1]; rfl
  refine ⟨⟨Cm.new_wf _ _ _, rfl, rfl, ?_, fun _ => ft⟩, hd⟩
  have e : (Cm.new s c b).ho = ofB b := by unfold Cm.ho; rw [hd]; rfl
  rw [e]; exact ow
/-- What another one does leaves what is known. -/
theorem ft_rel {s : Sh} {ws ws' : Nat → Int} {b : Bk} {o : Ho} (hb : b.Fit s c) (ow : Own s ws c o) (h1 : b.lg = true → o.hp b.p) (h2 : b.lg = false → o.hs b.p b.i) (r : Rel s c ws ws') (h : FtB s b ws) : FtB s b ws' := by
  have hsl := slots_bd b.k
  refine ⟨fun g i i0 i1 => ?_, fun g => ?_⟩
  · rw [r.hs b.p i hb.p0 hb.p1 i0 i1 ((ow.pg b.p hb.p0 hb.p1).2 (h1 g))]; exact h.1 g i i0 i1
  · obtain ⟨i0, i1⟩ := hb.s g
    obtain ⟨g1, g2⟩ := (ow.sl b.p b.i hb.p0 hb.p1 i0 (by omega)).2 (.inl (h2 g))
    rw [r.sp b.p b.i hb.p0 hb.p1 i0 (by omega) g1 g2]; exact h.2 g
theorem In.rel {ws ws' : Nat → Int} (m1 : 1 ≤ m) (h : In m c t ws) (r : Rel (sh m) c ws ws') : In m c t ws' := by
  refine ⟨h.wf, h.on, h.es, h.ec, h.g0, ?_⟩
  cases h.ph with
  | rv hd e hr hi gd gx => exact .rv hd e hr (hi.rel r) gd gx
  | gv hd e hr hf b ft gd g ow z =>
    refine .gv hd e hr hf b ?_ gd g (ow.rel r) fun hx => ⟨(z hx).1, fun i i0 i1 => ?_⟩
    · refine ft_rel b ow (fun g => ?_) (fun g => ?_) r ft
      · split
        · exact .inl (by unfold ofB; rw [if_pos g]; rfl)
        · unfold ofB; rw [if_pos g]; rfl
      · split
        · show (ofB t.rv.bk).hs _ _; unfold ofB; rw [if_neg (by rw [g]; decide)]; exact ⟨rfl, rfl⟩
        · unfold ofB; rw [if_neg (by rw [g]; decide)]; exact ⟨rfl, rfl⟩
    · rw [if_pos hx] at ow
      rw [r.hs 0 i (by decide) (by show (0 : Int) < m; omega) i0 i1 ((ow.pg 0 (by decide) (by show (0 : Int) < m; omega)).2 (.inr rfl))]
      exact (z hx).2 i i0 i1
  | uo u hd e hi => exact .uo u hd e (hi.rel r)
  | cm u hd e hi eb ud p => exact .cm u hd e (hi.rel r) eb ud p
  | fn hd ow er => exact .fn hd (ow.rel r) er
/-- Behind a step of c: all is so, the others see no more than they may, and it has what it has. -/
structure Nt (m c : Int) (t' : Re) (ws ws' : Nat → Int) : Prop where
  bs : Bs (sh m) ws'
  re : ∀ c', 0 ≤ c' → c' < 2 → c' ≠ c → Rel (sh m) c' ws ws'
  ni : In m c t' ws'
theorem In.step (m1 : 1 ≤ m) (m6 : m ≤ 6) (c0 : 0 ≤ c) (c1 : c < 2) (h : In m c t w.ws) (hB : Bs (sh m) w.ws) (ho : w.of (sh m))
    (ja : pgAt (sh m) w.ws 0 % 16 = 3 → pgAt (sh m) w.ws 0 = 19) (jb : ∀ i, 0 ≤ i → i < 16 → slAt (sh m) w.ws 0 i % 16 ≠ 3) : Nt m c (t.step w).1 w.ws (t.step w).2.ws := by
  have hm := may_ok m1 m6
  have wf := h.wf
  have es := h.es
  have ec := h.ec
  have q1 : (0 : Int) < (sh m).p := by show (0 : Int) < m; omega
  have wf2 : (t.step w).1.wf := Re.step_wf wf fun _ => by rw [es]; exact ho
  have sk := Re.step_k (t := t) (w := w)
  have same : ∀ c', 0 ≤ c' → c' < 2 → c' ≠ c → Rel (sh m) c' w.ws w.ws := fun c' _ _ _ => Rel.refl _ _ _
  have gk : ∀ g : Gv, g = t.gv ∨ (∃ w, g = (t.gv.step w).1) → g.pg = 0 ∧ g.off = 0 := fun g hg => by
    rcases hg with rfl | ⟨w, rfl⟩
    · exact h.g0
    · have hk := Gv.step_keeps (w := w) wf.gw
      refine ⟨hk.2.2.2.trans h.g0.1, ?_⟩
      rw [← h.g0.2]; unfold Gv.off; rw [hk.1, hk.2.2.1]
  -- the end of the proof, from what follows
  have fin : ∀ (t2 : Re) (ws2 : Nat → Int), t.step w = (t2, (t.step w).2) → (t.step w).2.ws = ws2 → t2.gv = t.gv ∨ (∃ w, t2.gv = (t.gv.step w).1) → Bs (sh m) ws2 → (∀ c', 0 ≤ c' → c' < 2 → c' ≠ c → Rel (sh m) c' w.ws ws2) → Ph m c t2 ws2 → Nt m c (t.step w).1 w.ws (t.step w).2.ws := fun t2 ws2 e1 e2 hg b r p => by
    have e3 : (t.step w).1 = t2 := by rw [e1]
    rw [e2]
    refine ⟨b, r, ⟨wf2, sk.2.2.trans h.on, sk.1.trans es, sk.2.1.trans ec, ?_, ?_⟩⟩
    · rw [e3]; exact gk _ hg
    · rw [e3]; exact p
  have estep : t.dn = false → ∀ (t1 : Re) (w1 : Wd), t.acc w = (t1, w1) → t.step w = (t1.go, w1) := fun hd t1 w1 e => by unfold Re.step; rw [hd, e]; rfl
  cases h.ph with
  | fn hd ow er =>
    rw [Re.step_dn hd]
    exact ⟨hB, same, h⟩
  | rv hd e hr hi gd gx =>
    obtain ⟨nx, ni⟩ := hi.step hB
    have ea : t.acc w = ({ t with rv := (t.rv.step w).1 }, (t.rv.step w).2) := by unfold Re.acc; rw [if_neg (by rw [hr]; decide)]
    have e1 := estep hd _ _ ea
    have re : ∀ c', 0 ≤ c' → c' < 2 → c' ≠ c → Rel (sh m) c' w.ws (t.rv.step w).2.ws := fun c' a b d => nx.re c' a b d
    have ego : ({ t with rv := (t.rv.step w).1 } : Re).go = if (t.rv.step w).1.dn then (if (t.rv.step w).1.fd then { t with rv := (t.rv.step w).1 } else ({ t with rv := (t.rv.step w).1 } : Re).fin 3) else { t with rv := (t.rv.step w).1 } := by
      unfold Re.go
      simp only [e, gd, Bool.false_eq_true, if_false]
    rw [ego] at e1
    have e2 : (t.step w).2.ws = (t.rv.step w).2.ws := by rw [e1]
    cases hd' : (t.rv.step w).1.dn
    · rw [hd', if_neg (by decide)] at e1
      exact fin { t with rv := (t.rv.step w).1 } _ (by rw [e1]) e2 (.inl rfl) nx.bs re (.rv hd e hd' ni gd gx)
    · rw [hd', if_pos rfl] at e1
      cases hf : (t.rv.step w).1.fd
      · rw [hf, if_neg (by decide)] at e1
        refine fin (({ t with rv := (t.rv.step w).1 } : Re).fin 3) _ (by rw [e1]) e2 (.inl rfl) nx.bs re (.fn rfl (none (t := { t with rv := (t.rv.step w).1 }) ni hd' hf) (.inl ⟨rfl, hf, wf.g0 hr⟩))
      · rw [hf, if_pos rfl] at e1
        obtain ⟨b1, b2, b3⟩ := found (t := { t with rv := (t.rv.step w).1 }) ni hd' hf
        exact fin { t with rv := (t.rv.step w).1 } _ (by rw [e1]) e2 (.inl rfl) nx.bs re (.gv hd e hd' hf b1 b2 gd (.inl gx) (by rw [if_neg (by show t.gv.nx ≠ 4; omega)]; exact b3) fun g => by have g : t.gv.nx = 4 := g; omega)
  | uo u hd e hi =>
    obtain ⟨nx, ni⟩ := hi.step hB
    obtain ⟨-, -, -, d1, d2, d3, d4⟩ := wf.uo u e
    have ea : t.acc w = ({ t with md := .uo (Uo.step u w).1 }, (Uo.step u w).2) := by unfold Re.acc; rw [if_pos d1, if_pos d3, e]
    have e1 := estep hd _ _ ea
    have re : ∀ c', 0 ≤ c' → c' < 2 → c' ≠ c → Rel (sh m) c' w.ws (Uo.step u w).2.ws := fun c' a b d => nx.re c' a b d
    have ego : ({ t with md := .uo (Uo.step u w).1 } : Re).go = if (Uo.step u w).1.dn then ({ t with md := .uo (Uo.step u w).1 } : Re).fin 1 else { t with md := .uo (Uo.step u w).1 } := rfl
    rw [ego] at e1
    have e2 : (t.step w).2.ws = (Uo.step u w).2.ws := by rw [e1]
    cases hd' : (Uo.step u w).1.dn
    · rw [hd', if_neg (by decide)] at e1
      exact fin { t with md := .uo (Uo.step u w).1 } _ (by rw [e1]) e2 (.inl rfl) nx.bs re (.uo _ hd rfl ni)
    · rw [hd', if_pos rfl] at e1
      refine fin (({ t with md := .uo (Uo.step u w).1 } : Re).fin 1) _ (by rw [e1]) e2 (.inl rfl) nx.bs re (.fn rfl ?_ (.inr (.inl ⟨rfl, d4⟩)))
      have := nx.ow
      have e5 : (Uo.step u w).1.ho = nil := by unfold Uo.ho; rw [if_pos hd']
      rw [e5] at this; exact this
  | cm u hd e hi eb ud p =>
    obtain ⟨nx, ni, nd⟩ := hi.step hB
    obtain ⟨cw, cs, cc, d1, d2, d3, d4⟩ := wf.cm u e
    have ea : t.acc w = ({ t with md := .cm (Cm.step u w).1 }, (Cm.step u w).2) := by unfold Re.acc; rw [if_pos d1, if_pos d3, e]
    have e1 := estep hd _ _ ea
    have re : ∀ c', 0 ≤ c' → c' < 2 → c' ≠ c → Rel (sh m) c' w.ws (Cm.step u w).2.ws := fun c' a b d => nx.re c' a b d
    have ego : ({ t with md := .cm (Cm.step u w).1 } : Re).go = if (Cm.step u w).1.dn then ({ t with md := .cm (Cm.step u w).1 } : Re).fin 0 else { t with md := .cm (Cm.step u w).1 } := rfl
    rw [ego, nd, if_pos rfl] at e1
    have e2 : (t.step w).2.ws = (Cm.step u w).2.ws := by rw [e1]
    refine fin (({ t with md := .cm (Cm.step u w).1 } : Re).fin 0) _ (by rw [e1]) e2 (.inl rfl) nx.bs re (.fn rfl ?_ (.inr (.inr ⟨rfl, d4, d2, ?_, p⟩)))
    · have := nx.ow
      have e5 : (Cm.step u w).1.ho = nil := by unfold Cm.ho; rw [if_pos nd]
      rw [e5] at this; exact this
    · have := cw ud
      rw [cs, es, cc, ec, eb] at this; exact this
  | gv hd e hr hf b ft gd g ow z =>
    have gs := wf.gs
    rw [es] at gs
    rw [ec] at gs
    have ea : t.acc w = ({ t with gv := (t.gv.step w).1 }, (t.gv.step w).2) := by unfold Re.acc; rw [if_pos hr, if_neg (by rw [gd]; decide)]
    have e1 := estep hd _ _ ea
    have ego : ({ t with gv := (t.gv.step w).1 } : Re).go = if (t.gv.step w).1.dn then (if (t.gv.step w).1.gv then { t with gv := (t.gv.step w).1, md := .cm (Cm.new t.s t.c t.rv.bk) } else { t with gv := (t.gv.step w).1, md := .uo (Uo.new t.s t.c t.rv.bk) }) else { t with gv := (t.gv.step w).1 } := by
      unfold Re.go
      simp only [e, hr, hf, if_true]
    rw [ego] at e1
    have e2 : (t.step w).2.ws = (t.gv.step w).2.ws := by rw [e1]
    -- nothing given, words as they were: undone
    have undo : (t.gv.step w).1.dn = true → (t.gv.step w).1.gv = false → (t.gv.step w).2.ws = w.ws → t.gv.nx ≠ 4 → Nt m c (t.step w).1 w.ws (t.step w).2.ws := fun a1 a2 a3 a4 => by
      rw [a1, if_pos rfl, a2, if_neg (by decide)] at e1
      rw [a3] at e2
      rw [if_neg a4] at ow
      refine fin { t with gv := (t.gv.step w).1, md := .uo (Uo.new t.s t.c t.rv.bk) } _ (by rw [e1]) e2 (.inr ⟨w, rfl⟩) hB same (.uo _ hd rfl ?_)
      rw [es, ec]; exact of_uo b ft ow
    have keep : ∀ ws2, (t.gv.step w).1.dn = false → (t.gv.step w).2.ws = ws2 → Bs (sh m) ws2 → (∀ c', 0 ≤ c' → c' < 2 → c' ≠ c → Rel (sh m) c' w.ws ws2) → FtB (sh m) t.rv.bk ws2 → Gs (t.gv.step w).1 → Own (sh m) ws2 c (if (t.gv.step w).1.nx = 4 then and0 (ofB t.rv.bk) else ofB t.rv.bk) → ((t.gv.step w).1.nx = 4 → t.rv.bk.p ≠ 0 ∧ ∀ i, 0 ≤ i → i < 16 → slAt (sh m) ws2 0 i = 0) → Nt m c (t.step w).1 w.ws (t.step w).2.ws := fun ws2 a1 a2 a3 a4 a5 a6 a7 a8 => by
      rw [a1, if_neg (by decide)] at e1
      rw [a2] at e2
      exact fin { t with gv := (t.gv.step w).1 } _ (by rw [e1]) e2 (.inr ⟨w, rfl⟩) a3 a4 (.gv hd e hr hf b a5 a1 a6 a7 a8)
    have hpat : t.gv.pat = page (sh m).p (sh m).c (sh m).m 0 := by unfold Gv.pat; rw [gs.1, h.g0.1]
    have hw : w.get t.gv.pat = pgAt (sh m) w.ws 0 := by rw [hpat]; rfl
    rcases g with gx | ⟨gx, gK, gA, gW⟩ | ⟨gx, gK, gS⟩ | ⟨gx, gK, gA, gI⟩
    · rw [Gv.step_0 gd gx] at undo keep
      rw [if_neg (by omega)] at ow
      have gv0 := (wf.gw.n01 (.inl gx)).2.1
      cases hl : t.gv.isL w
      · cases hs : t.gv.isS w
        · have e5 : t.gv.look w = { t.gv.read w with dn := true } := by unfold Gv.look; rw [hl, hs]; rfl
          exact undo (by show (t.gv.look w).dn = true; rw [e5]) (by show (t.gv.look w).gv = false; rw [e5]; exact gv0) rfl (by omega)
        · have e5 : t.gv.look w = { t.gv.read w with sl := t.gv.off / size (pgA t.gv.s t.gv.pg (w.get t.gv.pat)), ms := true } := by unfold Gv.look; rw [hl, hs]; rfl
          have hs2 := hs
          unfold Gv.isS at hs2
          simp only [Bool.and_eq_true, decide_eq_true_eq] at hs2
          refine keep w.ws (by show (t.gv.look w).dn = false; rw [e5]; exact gd) rfl hB same ft (.inr (.inr (.inl ⟨?_, ?_, ?_⟩))) ?_ fun g => ?_
          · show (t.gv.look w).nx = 1; rw [e5]; rfl
          · show (t.gv.look w).pK = 2; rw [e5]; exact hs2.2.1
          · show (t.gv.look w).sl = 0; rw [e5]; show t.gv.off / _ = 0; rw [h.g0.2]; exact Int.zero_ediv _
          · rw [if_neg (by show (t.gv.look w).nx ≠ 4; rw [e5]; show (1 : Int) ≠ 4; decide)]; exact ow
          · have g : (t.gv.look w).nx = 4 := g
            rw [e5] at g; cases g
      · have e5 : t.gv.look w = { t.gv.read w with ms := true } := by unfold Gv.look; rw [hl]; rfl
        have hl2 := hl
        unfold Gv.isL at hl2
        simp only [Bool.and_eq_true, decide_eq_true_eq] at hl2
        rw [gs.1, h.g0.1, hw] at hl2
        have h3 : pgAt (sh m) w.ws 0 % 16 = 3 := by
          have := hl2.2.1
          unfold pgK at this; rw [if_pos hl2.1] at this; exact this
        have h19 := ja h3
        have hA : pgA (sh m) 0 19 = 1 := (rd_l (s := sh m) (n := 1) hm (by decide) q1 (by decide) (by decide) (by show (0 : Int) + 1 ≤ m; omega)).2.2
        refine keep w.ws (by show (t.gv.look w).dn = false; rw [e5]; exact gd) rfl hB same ft (.inr (.inl ⟨?_, ?_, ?_, ?_⟩)) ?_ fun g => ?_
        · show (t.gv.look w).nx = 1; rw [e5]; rfl
        · show (t.gv.look w).pK = 3; rw [e5]; show pgK t.gv.s t.gv.pg (w.get t.gv.pat) = 3; rw [gs.1, h.g0.1, hw]; exact hl2.2.1
        · show (t.gv.look w).pA = 1; rw [e5]; show pgA t.gv.s t.gv.pg (w.get t.gv.pat) = 1; rw [gs.1, h.g0.1, hw, h19]; exact hA
        · show (t.gv.look w).wd = 19; rw [e5]; show w.get t.gv.pat = 19; rw [hw, h19]
        · rw [if_neg (by show (t.gv.look w).nx ≠ 4; rw [e5]; show (1 : Int) ≠ 4; decide)]; exact ow
        · have g : (t.gv.look w).nx = 4 := g
          rw [e5] at g; cases g
    · rw [Gv.step_1L gd gx gK] at undo keep
      rw [if_neg (by omega)] at ow
      by_cases hx : w.get t.gv.pat = t.gv.wd
      · have hx2 : pgAt (sh m) w.ws 0 = 3 + 16 * 1 := by rw [← hw, hx, gW]; rfl
        have hp0 : t.rv.bk.p ≠ 0 := fun g0 => by
          cases hl : t.rv.bk.lg
          · have := (ft.2 hl).mod; rw [g0] at this; omega
          · have : (ofB t.rv.bk).hp t.rv.bk.p := by unfold ofB; rw [if_pos hl]; rfl
            have := (ow.pg _ b.p0 b.p1).2 this
            rw [g0] at this; omega
        have hz : ∀ i, 0 ≤ i → i < 16 → slAt (sh m) w.ws 0 i = 0 := by
          cases hB.pg 0 (by decide) q1 with
          | e h z => omega
          | h c c0 c1 h z => omega
          | s k h z => have := h.mod; omega
          | l n n1 n8 nq h z b => exact z
          | b h h0 h1 h2 e z w => omega
        have ew : (w.swap t.gv.c t.gv.pat t.gv.wd (held t.gv.c)).ws = upW w.ws (page (sh m).p (sh m).c (sh m).m 0) (1 + 16 * c) := by
          rw [swap_yes hx, hpat, gs.2, held_v c0 (by omega)]
        have nx := claimL (n := 1) (o' := and0 (ofB t.rv.bk)) hm hB ow c0 (by show c < (2 : Int); exact c1) (by decide : (0 : Int) ≤ 0) q1 hx2 (fun x => Iff.rfl) (fun x h' => ⟨.inl, fun g => g.elim id fun g => by omega⟩) rfl
        refine keep _ (by show (!decide (w.get t.gv.pat = t.gv.wd)) = false; rw [decide_eq_true hx]; rfl) ew nx.bs (fun c' a b d => nx.re c' a b d) ⟨fun g i i0 i1 => ?_, fun g => ?_⟩ (.inr (.inr (.inr ⟨rfl, gK, gA, (wf.gw.n01 (.inr gx)).2.2⟩))) ?_ fun _ => ⟨hp0, fun i i0 i1 => ?_⟩
        · rw [sl_pg hm (by decide) q1 b.p0 i0]; exact ft.1 g i i0 i1
        · rw [pg_pg hm (by decide) q1 b.p0 b.p1, if_neg hp0]; exact ft.2 g
        · rw [if_pos (by show (4 : Int) = 4; rfl)]; exact nx.ow
        · rw [sl_pg hm (by decide) q1 (by decide) i0]; exact hz i i0 i1
      · exact undo (by show (!decide (w.get t.gv.pat = t.gv.wd)) = true; rw [decide_eq_false hx]; rfl) (decide_eq_false hx) (swap_no hx) (by omega)
    · rw [Gv.step_1S gd gx gK] at undo keep
      have hbl := (wf.gw.bl gd (by omega)).2.1
      have hsat : t.gv.sat = slot (sh m).p (sh m).c (sh m).m 0 0 := by unfold Gv.sat; rw [gs.1, h.g0.1, gS]
      have hx : w.get t.gv.sat ≠ taken t.gv.pA := fun g => by
        have g2 : slAt (sh m) w.ws 0 0 = taken t.gv.pA := by
          rw [← g, hsat, slot_yes hm (by decide) q1 (by decide) (by decide)]; rfl
        rcases hbl with g3 | ⟨-, -, -, k0, k3, -⟩
        · omega
        · have := jb 0 (by decide) (by decide)
          rw [g2, taken_v k0 (by omega)] at this; omega
      have hd9 : (t.gv.claimS w).dn = true ∧ (t.gv.claimS w).gv = false := by
        unfold Gv.claimS
        split <;> exact ⟨by show (!decide _) = true; rw [decide_eq_false hx]; rfl, decide_eq_false hx⟩
      exact undo hd9.1 hd9.2 (swap_no hx) (by omega)
    · have hpi : t.gv.i = t.gv.pA - 1 := by omega
      rw [Gv.step_4l gd gx hpi] at e1 e2
      rw [if_pos gx] at ow
      obtain ⟨hp0, hz⟩ := z gx
      have ggv := wf.gw.n23 gd (.inr (.inr gx))
      have e1 : t.step w = ({ t with gv := { t.gv with dn := true }, md := .cm (Cm.new t.s t.c t.rv.bk) }, w.store t.gv.c t.gv.pat 0) := by
        rw [e1]
        show (if true = true then (if t.gv.gv = true then _ else _) else _, _) = _
        rw [if_pos rfl, if_pos ggv]
      have ew : (w.store t.gv.c t.gv.pat 0).ws = upW w.ws (page (sh m).p (sh m).c (sh m).m 0) 0 := by rw [store_ws, hpat]
      have nx := free (o' := ofB t.rv.bk) hm hB ow c0 (by show c < (2 : Int); exact c1) (by decide : (0 : Int) ≤ 0) q1 (.inr rfl) hz (fun x _ _ g => ?_) (fun x => ?_) rfl rfl
      · rw [← ew] at nx
        have ft2 : FtB (sh m) t.rv.bk (w.store t.gv.c t.gv.pat 0).ws := by
          rw [ew]
          refine ⟨fun g i i0 i1 => ?_, fun g => ?_⟩
          · rw [sl_pg hm (by decide) q1 b.p0 i0]; exact ft.1 g i i0 i1
          · rw [pg_pg hm (by decide) q1 b.p0 b.p1, if_neg hp0]; exact ft.2 g
        obtain ⟨k1, k2⟩ := of_cm b ft2 nx.ow
        refine fin { t with gv := { t.gv with dn := true }, md := .cm (Cm.new t.s t.c t.rv.bk) } _ (by rw [e1]) (by rw [e1]) (.inr ⟨w, by rw [Gv.step_4l gd gx hpi]⟩) nx.bs (fun c' a b d => nx.re c' a b d) (.cm (Cm.new t.s t.c t.rv.bk) hd rfl ?_ rfl ?_ hp0)
        · rw [es, ec]; exact k1
        · rw [es, ec]; exact k2
      · cases hl : t.rv.bk.lg
        · have g : (ofB t.rv.bk).hb x 0 := g
          unfold ofB at g; rw [if_neg (by rw [hl]; decide)] at g; exact g
        · have g : (ofB t.rv.bk).hb x 0 := g
          unfold ofB at g; rw [if_pos hl] at g
          exact hp0 g.1.symm
      · show (ofB t.rv.bk).hp x ↔ ((ofB t.rv.bk).hp x ∨ x = 0) ∧ x ≠ 0
        constructor
        · intro g
          refine ⟨.inl g, fun e0 => ?_⟩
          cases hl : t.rv.bk.lg
          · unfold ofB at g; rw [if_neg (by rw [hl]; decide)] at g; exact g
          · unfold ofB at g; rw [if_pos hl] at g
            have g : x = t.rv.bk.p := g
            omega
        · exact fun g => g.1.resolve_right g.2
end
end R2
end Go.Ma
set_option linter.unusedVariables false
set_option linter.unusedSectionVars false
set_option linter.unusedSimpArgs false
namespace Go.Ma
open Go.Pl
open Ow
namespace R2
/-- The word of a block. -/
def adr (m : Int) (b : Bk) : Int := if b.lg then 2 + b.p else 2 + m + b.p * 16 + b.i
def val (b : Bk) : Int := if b.lg then 3 + 16 * b.n else 3 + 16 * b.k
/-- It has committed. -/
def Cd (t : Re) : Prop := t.dn = true ∧ t.er = 0
/-- What a step does to the words of blocks. -/
inductive Wk (m : Int) (t t' : Re) (ws ws' : Nat → Int) : Prop
  | q (a : ∀ j : Nat, ws' j = ws j ∨ ws' j % 16 ≠ 3) (b : Ks ws ws') (g : t'.gv.gv = t.gv.gv) (c : Cd t' ↔ Cd t) (k : Cd t → t'.rv = t.rv)
  | g (a : ∀ j : Nat, ws' j = ws j ∨ (j = 2 ∧ ws' j % 16 ≠ 3)) (x : ws' 2 % 16 ≠ 3) (y : ws 2 = 19) (g : t'.gv.gv = true) (g0 : t.gv.gv = false) (c : ¬ Cd t' ∧ ¬ Cd t)
  | c (nn : 0 ≤ adr m t.rv.bk) (a : ∀ j : Nat, ws' j = if (j : Int) = adr m t.rv.bk then val t.rv.bk else ws j) (x : ws (adr m t.rv.bk).toNat % 16 ≠ 3) (g : t'.gv.gv = true) (g0 : t.gv.gv = true) (c : Cd t' ∧ ¬ Cd t) (k : t'.rv = t.rv)
section
variable {m c : Int} {t : Re} {w : Wd}
theorem adr_ne {b : Bk} (hb : b.Fit (sh m) c) (hp : b.p ≠ 0) (i : Int) (i0 : 0 ≤ i) (i1 : i < 16) (m1 : 1 ≤ m) : adr m b ≠ 2 ∧ adr m b ≠ 2 + m + i ∧ 2 ≤ adr m b := by
  have p0 := hb.p0
  have p1 : b.p < m := hb.p1
  unfold adr
  cases hl : b.lg
  · obtain ⟨j0, j1⟩ := hb.s hl
    simp only [Bool.false_eq_true, if_false]
    omega
  · simp only [if_true]; omega
theorem In.wk (m1 : 1 ≤ m) (m6 : m ≤ 6) (c0 : 0 ≤ c) (c1 : c < 2) (h : In m c t w.ws) (hB : Bs (sh m) w.ws) (ho : w.of (sh m)) (jb : ∀ i, 0 ≤ i → i < 16 → slAt (sh m) w.ws 0 i % 16 ≠ 3) : Wk m t (t.step w).1 w.ws (t.step w).2.ws := by
  have hm := may_ok m1 m6
  have wf := h.wf
  have es := h.es
  have ec := h.ec
  have q1 : (0 : Int) < (sh m).p := by show (0 : Int) < m; omega
  have ncd : t.dn = false → ¬ Cd t := fun hd g => by have := g.1; rw [hd] at this; cases this
  have estep : t.dn = false → ∀ (t1 : Re) (w1 : Wd), t.acc w = (t1, w1) → t.step w = (t1.go, w1) := fun hd t1 w1 e => by unfold Re.step; rw [hd, e]; rfl
  have gk : ∀ t1 : Re, t1.go.gv = t1.gv := fun t1 => Re.go_k.2.2.2.2
  cases h.ph with
  | fn hd ow er => rw [Re.step_dn hd]; exact .q (fun _ => .inl rfl) (Ks.refl _) rfl Iff.rfl fun _ => rfl
  | rv hd e hr hi gd gx =>
    have ea : t.acc w = ({ t with rv := (t.rv.step w).1 }, (t.rv.step w).2) := by unfold Re.acc; rw [if_neg (by rw [hr]; decide)]
    have e1 := estep hd _ _ ea
    have ks : Ks w.ws (t.rv.step w).2.ws := by
      cases hv : t.rv with
      | no => exact Ks.refl _
      | sk q => rw [hv] at hi; exact Sk.In.ks hi hB
      | rn q => rw [hv] at hi; exact Rn.In.ks hi hB
    have wn := Rv.wn (w := w) hi.wf.1 hi.wf.2
    have nc : ¬ Cd (t.step w).1 := fun g => by
      have e2 : (t.step w).1 = ({ t with rv := (t.rv.step w).1 } : Re).go := by rw [e1]
      have ego : ({ t with rv := (t.rv.step w).1 } : Re).go = if (t.rv.step w).1.dn then (if (t.rv.step w).1.fd then { t with rv := (t.rv.step w).1 } else ({ t with rv := (t.rv.step w).1 } : Re).fin 3) else { t with rv := (t.rv.step w).1 } := by
        unfold Re.go; simp only [e, gd, Bool.false_eq_true, if_false]
      rw [e2, ego] at g
      revert g
      split
      · split
        · exact fun g => ncd hd g
        · exact fun g => by cases g.2
      · exact fun g => ncd hd g
    refine .q (fun j => ?_) (by rw [e1]; exact ks) (by rw [e1]; exact congrArg Gv.gv (gk _)) ⟨fun g => absurd g nc, fun g => absurd g (ncd hd)⟩ fun g => absurd g (ncd hd)
    rw [e1]
    rcases wn j with g | ⟨-, g⟩
    · exact .inl g
    · exact .inr g
  | uo u hd e hi =>
    obtain ⟨uw, us, -, d1, d2, d3, d4⟩ := wf.uo u e
    have ea : t.acc w = ({ t with md := .uo (Uo.step u w).1 }, (Uo.step u w).2) := by unfold Re.acc; rw [if_pos d1, if_pos d3, e]
    have e1 := estep hd _ _ ea
    have wn := Uo.wn (w := w) uw (us.trans es)
    have nc : ¬ Cd (t.step w).1 := fun g => by
      have e2 : (t.step w).1 = if (Uo.step u w).1.dn then ({ t with md := .uo (Uo.step u w).1 } : Re).fin 1 else { t with md := .uo (Uo.step u w).1 } := by rw [e1]; rfl
      rw [e2] at g
      revert g
      split
      · exact fun g => by cases g.2
      · exact fun g => ncd hd g
    refine .q (fun j => ?_) (by rw [e1]; exact Uo.In.ks hi hB) (by rw [e1]; exact congrArg Gv.gv (gk _)) ⟨fun g => absurd g nc, fun g => absurd g (ncd hd)⟩ fun g => absurd g (ncd hd)
    rw [e1]
    rcases wn j with g | ⟨-, g⟩
    · exact .inl g
    · exact .inr g
  | cm u hd e hi eb ud p =>
    obtain ⟨nx, ni, nd⟩ := hi.step hB
    obtain ⟨cw, cs, cc, d1, d2, d3, d4⟩ := wf.cm u e
    have fit := cw ud
    rw [cs, es, cc, ec, eb] at fit
    have ow := hi.ow
    have e5 : u.ho = ofB t.rv.bk := by unfold Cm.ho; rw [ud, eb]; rfl
    rw [e5] at ow
    have ea : t.acc w = ({ t with md := .cm (Cm.step u w).1 }, (Cm.step u w).2) := by unfold Re.acc; rw [if_pos d1, if_pos d3, e]
    have e1 := estep hd _ _ ea
    have e2 : (t.step w).1 = ({ t with md := .cm (Cm.step u w).1 } : Re).fin 0 := by
      rw [e1]
      show (if (Cm.step u w).1.dn then ({ t with md := .cm (Cm.step u w).1 } : Re).fin 0 else _ : Re) = _
      rw [nd]; rfl
    have e3 : (t.step w).2 = (Cm.step u w).2 := by rw [e1]
    have b0 := fit.p0
    have b1 : t.rv.bk.p < m := fit.p1
    refine .c (by have := adr_ne fit p 0 (by decide) (by decide) m1; omega) (fun j => ?_) ?_ (by rw [e2]; exact d4) d4 ⟨by rw [e2]; exact ⟨rfl, rfl⟩, ncd hd⟩ (by rw [e2]; rfl)
    · rw [e3]
      unfold Cm.step
      rw [if_neg (by rw [ud]; decide), eb]
      cases hl : t.rv.bk.lg
      · obtain ⟨i0, i1⟩ := fit.s hl
        have hsl := slots_bd t.rv.bk.k
        have hk := slots_k (k := t.rv.bk.k) (by omega)
        simp only [Bool.false_eq_true, if_false]
        show (w.store u.c u.sat (putSl 3 t.rv.bk.k)).ws j = _
        have hv : putSl 3 t.rv.bk.k = 3 + 16 * t.rv.bk.k := taken_v hk.1 (by omega)
        have ha : u.sat = 2 + m + t.rv.bk.p * 16 + t.rv.bk.i := by unfold Cm.sat; rw [cs, es, eb, slot_yes hm b0 b1 i0 (by omega)]; rfl
        rw [store_ws, ha, hv]
        unfold adr val upW
        simp only [hl, Bool.false_eq_true, if_false]
        by_cases g : (j : Int) = 2 + m + t.rv.bk.p * 16 + t.rv.bk.i
        · rw [if_pos g, if_pos (by omega)]
        · rw [if_neg g, if_neg (by omega)]
      · obtain ⟨n1, n8, -⟩ := fit.l hl
        simp only [if_true]
        show (w.store u.c u.pat (putPg 3 t.rv.bk.n 0)).ws j = _
        have hv : putPg 3 t.rv.bk.n 0 = 3 + 16 * t.rv.bk.n := large_v (by omega) (by omega)
        have ha : u.pat = 2 + t.rv.bk.p := by unfold Cm.pat; rw [cs, es, eb, page_yes hm b0 b1]; rfl
        rw [store_ws, ha, hv]
        unfold adr val upW
        simp only [hl, if_true]
        by_cases g : (j : Int) = 2 + t.rv.bk.p
        · rw [if_pos g, if_pos (by omega)]
        · rw [if_neg g, if_neg (by omega)]
    · cases hl : t.rv.bk.lg
      · obtain ⟨i0, i1⟩ := fit.s hl
        have hsl := slots_bd t.rv.bk.k
        have hh : (ofB t.rv.bk).hs t.rv.bk.p t.rv.bk.i := by unfold ofB; rw [if_neg (by rw [hl]; decide)]; exact ⟨rfl, rfl⟩
        have := ((ow.sl _ _ b0 b1 i0 (by omega)).2 (.inl hh)).2
        unfold adr; rw [if_neg (by rw [hl]; decide)]
        have e9 : w.ws (2 + m + t.rv.bk.p * 16 + t.rv.bk.i).toNat = 2 + 16 * c := this
        rw [e9]; omega
      · have hh : (ofB t.rv.bk).hp t.rv.bk.p := by unfold ofB; rw [if_pos hl]; rfl
        have := (ow.pg _ b0 b1).2 hh
        unfold pgAt at this; rw [page_yes hm b0 b1] at this
        unfold adr; rw [if_pos hl]
        have e9 : w.ws (2 + t.rv.bk.p).toNat = 1 + 16 * c := this
        rw [e9]; omega
  | gv hd e hr hf b ft gd g ow z =>
    have gs := wf.gs
    rw [es, ec] at gs
    have ea : t.acc w = ({ t with gv := (t.gv.step w).1 }, (t.gv.step w).2) := by unfold Re.acc; rw [if_pos hr, if_neg (by rw [gd]; decide)]
    have e1 := estep hd _ _ ea
    have eg : (t.step w).1.gv = (t.gv.step w).1 := by rw [e1]; exact gk _
    have e3 : (t.step w).2 = (t.gv.step w).2 := by rw [e1]
    have nc : ¬ Cd (t.step w).1 := fun g => by
      have e2 : (t.step w).1 = ({ t with gv := (t.gv.step w).1 } : Re).go := by rw [e1]
      have ego : ({ t with gv := (t.gv.step w).1 } : Re).go = if (t.gv.step w).1.dn then (if (t.gv.step w).1.gv then { t with gv := (t.gv.step w).1, md := .cm (Cm.new t.s t.c t.rv.bk) } else { t with gv := (t.gv.step w).1, md := .uo (Uo.new t.s t.c t.rv.bk) }) else { t with gv := (t.gv.step w).1 } := by
        unfold Re.go; simp only [e, hr, hf, if_true]
      rw [e2, ego] at g
      revert g
      split
      · split <;> exact fun g => ncd hd g
      · exact fun g => ncd hd g
    have hpat : t.gv.pat = 2 := by unfold Gv.pat; rw [gs.1, h.g0.1, page_yes hm (by decide) q1]; rfl
    cases hg' : (t.gv.step w).1.gv
    · have g0 : t.gv.gv = false := by
        cases e9 : t.gv.gv
        · rfl
        · rw [Gv.gv_stay wf.gw e9] at hg'; cases hg'
      have ew := Gv.none wf.gw hg'
      exact .q (fun j => .inl (by rw [e3, ew])) (by rw [e3, ew]; exact Ks.refl _) (by rw [eg, hg', g0]) ⟨fun g => absurd g nc, fun g => absurd g (ncd hd)⟩ fun g => absurd g (ncd hd)
    · rcases g with gx | ⟨gx, gK, gA, gW⟩ | ⟨gx, gK, gS⟩ | ⟨gx, gK, gA, gI⟩
      · have gv0 := (wf.gw.n01 (.inl gx)).2.1
        rw [Gv.step_0 gd gx] at hg'
        have : (t.gv.look w).gv = t.gv.gv := by unfold Gv.look; split; rfl; split <;> rfl
        have hg' : (t.gv.look w).gv = true := hg'
        rw [this, gv0] at hg'; cases hg'
      · have gv0 := (wf.gw.n01 (.inr gx)).2.1
        have hg2 := hg'
        rw [Gv.step_1L gd gx gK] at hg2
        have hx : w.get t.gv.pat = t.gv.wd := of_decide_eq_true hg2
        have hx2 : w.ws 2 = 19 := by rw [hpat, gW] at hx; exact hx
        have ew : (t.step w).2.ws = upW w.ws 2 (held t.gv.c) := by
          rw [e3, Gv.step_1L gd gx gK]
          show (w.swap t.gv.c t.gv.pat t.gv.wd (held t.gv.c)).ws = _
          rw [swap_yes hx, hpat]
        refine .g (fun j => ?_) ?_ hx2 (by rw [eg]; exact hg') gv0 ⟨nc, ncd hd⟩
        · rw [ew]; unfold upW
          by_cases g : j = (2 : Int).toNat
          · rw [if_pos g]; exact .inr ⟨g, n3_pg (by decide)⟩
          · rw [if_neg g]; exact .inl rfl
        · rw [ew]; unfold upW; rw [if_pos (by decide)]; exact n3_pg (by decide)
      · have hbl := (wf.gw.bl gd (by omega)).2.1
        have hsat : t.gv.sat = slot (sh m).p (sh m).c (sh m).m 0 0 := by unfold Gv.sat; rw [gs.1, h.g0.1, gS]
        have hx : w.get t.gv.sat ≠ taken t.gv.pA := fun g => by
          have g2 : slAt (sh m) w.ws 0 0 = taken t.gv.pA := by
            rw [← g, hsat, slot_yes hm (by decide) q1 (by decide) (by decide)]; rfl
          rcases hbl with g3 | ⟨-, -, -, k0, k3, -⟩
          · omega
          · have := jb 0 (by decide) (by decide)
            rw [g2, taken_v k0 (by omega)] at this; omega
        rw [Gv.step_1S gd gx gK] at hg'
        have hg' : (t.gv.claimS w).gv = true := hg'
        have : (t.gv.claimS w).gv = false := by unfold Gv.claimS; split <;> exact decide_eq_false hx
        rw [this] at hg'; cases hg'
      · have ggv := wf.gw.n23 gd (.inr (.inr gx))
        have hpi : t.gv.i = t.gv.pA - 1 := by omega
        rw [if_pos gx] at ow
        have hh := (ow.pg 0 (by decide) q1).2 (.inr rfl)
        unfold pgAt at hh; rw [page_yes hm (by decide) q1] at hh
        have hh : w.ws 2 = 1 + 16 * c := hh
        have ew : (t.step w).2.ws = upW w.ws 2 0 := by
          rw [e3, Gv.step_4l gd gx hpi]
          show (w.store t.gv.c t.gv.pat 0).ws = _
          rw [store_ws, hpat]
        refine .q (fun j => ?_) (by rw [ew]; exact Ks.up (by show w.ws 2 % 16 ≠ 3; rw [hh]; omega)) (by rw [eg, hg', ggv]) ⟨fun g => absurd g nc, fun g => absurd g (ncd hd)⟩ fun g => absurd g (ncd hd)
        rw [ew]; unfold upW
        split
        · exact .inr (by decide)
        · exact .inl rfl
/-- Who has committed gave, and its block is off page 0. -/
theorem In.cd {ws : Nat → Int} (h : In m c t ws) (hc : Cd t) : t.gv.gv = true ∧ t.rv.fd = true ∧ t.rv.bk.Fit (sh m) c ∧ t.rv.bk.p ≠ 0 := by
  cases h.ph with
  | rv hd _ _ _ _ _ => have := hc.1; rw [hd] at this; cases this
  | uo u hd _ _ => have := hc.1; rw [hd] at this; cases this
  | cm u hd _ _ _ _ _ => have := hc.1; rw [hd] at this; cases this
  | gv hd _ _ _ _ _ _ _ _ _ => have := hc.1; rw [hd] at this; cases this
  | fn hd ow er =>
    have := hc.2
    rcases er with ⟨g, -⟩ | ⟨g, -⟩ | ⟨-, g1, g2, g3, g4⟩
    · omega
    · omega
    · exact ⟨g1, g2, g3, g4⟩
theorem val3 (b : Bk) : val b % 16 = 3 := by unfold val; split <;> omega
end
/-- Whose words are of blocks, of two. -/
structure J (m : Int) (x y : Re) (ws : Nat → Int) : Prop where
  a3 : ∀ j : Nat, ws j % 16 = 3 → (j = 2 ∧ ws 2 = 19 ∧ x.gv.gv = false ∧ y.gv.gv = false) ∨ (Cd x ∧ (j : Int) = adr m x.rv.bk) ∨ (Cd y ∧ (j : Int) = adr m y.rv.bk)
  n0 : x.gv.gv = false → y.gv.gv = false → ws 2 = 19
  no : x.gv.gv = true → y.gv.gv = true → False
  ca : Cd x → ws (adr m x.rv.bk).toNat = val x.rv.bk
  cb : Cd y → ws (adr m y.rv.bk).toNat = val y.rv.bk
theorem J.swap {m : Int} {x y : Re} {ws : Nat → Int} (h : J m x y ws) : J m y x ws :=
  ⟨fun j e => by
    rcases h.a3 j e with ⟨g1, g2, g3, g4⟩ | g | g
    · exact .inl ⟨g1, g2, g4, g3⟩
    · exact .inr (.inr g)
    · exact .inr (.inl g), fun a b => h.n0 b a, fun a b => h.no b a, h.cb, h.ca⟩
theorem J.step {m cy : Int} {x x' y : Re} {ws ws' : Nat → Int} (m1 : 1 ≤ m) (h : J m x y ws) (k : Wk m x x' ws ws') (hy : Cd y → y.gv.gv = true ∧ y.rv.bk.Fit (sh m) cy ∧ y.rv.bk.p ≠ 0) : J m x' y ws' := by
  have hy2 : Cd y → (adr m y.rv.bk).toNat ≠ 2 := fun g => by
    obtain ⟨-, g1, g2⟩ := hy g
    have := adr_ne g1 g2 0 (by decide) (by decide) m1
    omega
  cases k with
  | q a b g c k =>
    refine ⟨fun j e => ?_, fun p q => ?_, fun p q => h.no (by rw [← g]; exact p) q, fun p => ?_, fun p => ?_⟩
    · rcases a j with e1 | e1
      · rw [e1] at e
        rcases h.a3 j e with ⟨g1, g2, g3, g4⟩ | ⟨g1, g2⟩ | g1
        · exact .inl ⟨g1, by rw [b 2 (by rw [g2]; decide)]; exact g2, by rw [g]; exact g3, g4⟩
        · exact .inr (.inl ⟨c.2 g1, by rw [k g1]; exact g2⟩)
        · exact .inr (.inr g1)
      · exact absurd e e1
    · have := h.n0 (by rw [← g]; exact p) q
      rw [b 2 (by rw [this]; decide)]; exact this
    · have p2 := c.1 p
      have := h.ca p2
      rw [k p2, b _ (by rw [this]; exact val3 _)]; exact this
    · have := h.cb p
      rw [b _ (by rw [this]; exact val3 _)]; exact this
  | g a x2 y2 g g0 c =>
    have yg : y.gv.gv = false := by
      rcases h.a3 2 (by rw [y2]; decide) with ⟨-, -, -, g4⟩ | ⟨g1, -⟩ | ⟨g1, g2⟩
      · exact g4
      · exact absurd g1 c.2
      · have := hy2 g1; omega
    refine ⟨fun j e => ?_, fun p q => (by rw [g] at p; cases p), fun _ q => (by rw [yg] at q; cases q), fun p => absurd p c.1, fun p => ?_⟩
    · rcases a j with e1 | ⟨-, e1⟩
      · have e2 := e
        rw [e1] at e2
        rcases h.a3 j e2 with ⟨g1, -⟩ | ⟨g1, -⟩ | g1
        · rw [g1] at e; exact absurd e x2
        · exact absurd g1 c.2
        · exact .inr (.inr g1)
      · exact absurd e e1
    · rcases a (adr m y.rv.bk).toNat with e1 | ⟨e1, -⟩
      · rw [e1]; exact h.cb p
      · exact absurd e1 (hy2 p)
  | c nn a x2 g g0 c k =>
    have ncy : ¬ Cd y := fun p => h.no g0 (hy p).1
    refine ⟨fun j e => ?_, fun p q => (by rw [g] at p; cases p), fun _ q => h.no g0 q, fun p => ?_, fun p => absurd p ncy⟩
    · by_cases ej : (j : Int) = adr m x.rv.bk
      · exact .inr (.inl ⟨c.1, by rw [k]; exact ej⟩)
      · rw [a j, if_neg ej] at e
        rcases h.a3 j e with ⟨-, -, g3, -⟩ | ⟨g1, -⟩ | g1
        · rw [g0] at g3; cases g3
        · exact absurd g1 c.2
        · exact .inr (.inr g1)
    · rw [k, a]
      rw [if_pos (by omega)]
/-- Two that renew. -/
structure Inv (m : Int) (A B : Re) (w : Wd) : Prop where
  of : w.of (sh m)
  bs : Bs (sh m) w.ws
  ia : In m 0 A w.ws
  ib : In m 1 B w.ws
  j : J m A B w.ws
section
variable {m : Int} {A B : Re} {w : Wd}
theorem Inv.free0 (m1 : 1 ≤ m) (m6 : m ≤ 6) (h : Inv m A B w) : (pgAt (sh m) w.ws 0 % 16 = 3 → pgAt (sh m) w.ws 0 = 19) ∧ ∀ i, 0 ≤ i → i < 16 → slAt (sh m) w.ws 0 i % 16 ≠ 3 := by
  have hm := may_ok m1 m6
  have e0 : pgAt (sh m) w.ws 0 = w.ws 2 := by unfold pgAt; rw [page_yes hm (by decide) (by show (0 : Int) < m; omega)]; rfl
  have na : ∀ i, 0 ≤ i → i < 16 → Cd A → adr m A.rv.bk ≠ 2 ∧ adr m A.rv.bk ≠ 2 + m + i ∧ 2 ≤ adr m A.rv.bk := fun i i0 i1 g => by
    obtain ⟨-, -, g1, g2⟩ := h.ia.cd g
    exact adr_ne g1 g2 i i0 i1 m1
  have nb : ∀ i, 0 ≤ i → i < 16 → Cd B → adr m B.rv.bk ≠ 2 ∧ adr m B.rv.bk ≠ 2 + m + i ∧ 2 ≤ adr m B.rv.bk := fun i i0 i1 g => by
    obtain ⟨-, -, g1, g2⟩ := h.ib.cd g
    exact adr_ne g1 g2 i i0 i1 m1
  refine ⟨fun e => ?_, fun i i0 i1 e => ?_⟩
  · rw [e0] at e ⊢
    rcases h.j.a3 2 e with ⟨-, g, -⟩ | ⟨g1, g2⟩ | ⟨g1, g2⟩
    · exact g
    · exact absurd g2.symm (na 0 (by decide) (by decide) g1).1
    · exact absurd g2.symm (nb 0 (by decide) (by decide) g1).1
  · have e1 : slAt (sh m) w.ws 0 i = w.ws (2 + m + i).toNat := by
      show w.ws ((2 : Int) + m + 0 * 16 + i).toNat = _
      rw [show (2 : Int) + m + 0 * 16 + i = 2 + m + i by omega]
    rw [e1] at e
    rcases h.j.a3 _ e with ⟨g, -⟩ | ⟨g1, g2⟩ | ⟨g1, g2⟩
    · omega
    · have := (na i i0 i1 g1).2.1; omega
    · have := (nb i i0 i1 g1).2.1; omega
theorem Inv.stepA (m1 : 1 ≤ m) (m6 : m ≤ 6) (h : Inv m A B w) : Inv m (A.step w).1 B (A.step w).2 := by
  obtain ⟨ja, jb⟩ := h.free0 m1 m6
  have n := h.ia.step m1 m6 (by decide) (by decide) h.bs h.of ja jb
  have k := h.ia.wk m1 m6 (by decide) (by decide) h.bs h.of jb
  have ho : (A.step w).2.of (sh m) := by have := Re.step_of h.ia.wf (w := w) (by rw [h.ia.es]; exact h.of); rw [h.ia.es] at this; exact this
  exact ⟨ho, n.bs, n.ni, h.ib.rel m1 (n.re 1 (by decide) (by decide) (by decide)), h.j.step m1 k fun g => by obtain ⟨g1, -, g2, g3⟩ := h.ib.cd g; exact ⟨g1, g2, g3⟩⟩
theorem Inv.stepB (m1 : 1 ≤ m) (m6 : m ≤ 6) (h : Inv m A B w) : Inv m A (B.step w).1 (B.step w).2 := by
  obtain ⟨ja, jb⟩ := h.free0 m1 m6
  have n := h.ib.step m1 m6 (by decide) (by decide) h.bs h.of ja jb
  have k := h.ib.wk m1 m6 (by decide) (by decide) h.bs h.of jb
  have ho : (B.step w).2.of (sh m) := by have := Re.step_of h.ib.wf (w := w) (by rw [h.ib.es]; exact h.of); rw [h.ib.es] at this; exact this
  exact ⟨ho, n.bs, h.ia.rel m1 (n.re 0 (by decide) (by decide) (by decide)), n.ni, (h.j.swap.step m1 k fun g => by obtain ⟨g1, -, g2, g3⟩ := h.ia.cd g; exact ⟨g1, g2, g3⟩).swap⟩
end
end R2
end Go.Ma
set_option linter.unusedVariables false
set_option linter.unusedSectionVars false
set_option linter.unusedSimpArgs false
namespace Go.Ma
open Go.Pl
open Ow
theorem k3_pg {s : Sh} {q x : Int} (h : pgK s q x = 3) : x % 16 = 3 := by
  unfold pgK at h; split at h
  · exact h
  · cases h
theorem k3_sl {y : Int} (h : slK y = 3) : y % 16 = 3 := by
  unfold slK at h; split at h
  · exact h
  · cases h
section
variable {s : Sh} {ws : Nat → Int}
theorem blkSl_one {p A : Int} {j : Nat} : ∀ n : Nat, (∀ i : Nat, i < n → (slK (slAt s ws p i) = 3 ↔ i = j)) → blkSl s ws p A n = if j < n then [(p * 64 + j * size A, size A)] else []
  | 0, _ => rfl
  | n + 1, h => by
    have ih := blkSl_one (p := p) (A := A) n fun i hi => h i (by omega)
    show blkSl s ws p A n ++ (if slK (slAt s ws p n) = 3 then [(p * 64 + n * size A, size A)] else []) = _
    rw [ih]
    by_cases e : n = j
    · subst e
      rw [if_neg (by omega), if_pos ((h n (by omega)).2 rfl), if_pos (by omega)]; rfl
    · rw [if_neg fun g => e ((h n (by omega)).1 g)]
      by_cases g : j < n
      · rw [if_pos g, if_pos (by omega)]; rfl
      · rw [if_neg g, if_neg (by omega)]; rfl
theorem blkSl_nil {p A : Int} : ∀ n : Nat, (∀ i : Nat, i < n → slK (slAt s ws p i) ≠ 3) → blkSl s ws p A n = []
  | 0, _ => rfl
  | n + 1, h => by
    show blkSl s ws p A n ++ (if slK (slAt s ws p n) = 3 then [(p * 64 + n * size A, size A)] else []) = _
    rw [blkSl_nil (p := p) (A := A) n fun i hi => h i (by omega), if_neg (h n (by omega))]; rfl
theorem blkPg_nil {p : Int} (h1 : pgAt s ws p % 16 ≠ 3) (h2 : ∀ i : Nat, i < 16 → slAt s ws p i % 16 ≠ 3) : blkPg s ws p = [] := by
  unfold blkPg
  rw [if_neg fun g => h1 (k3_pg g)]
  split
  · have := slots_bd (pgA s p (pgAt s ws p))
    exact blkSl_nil _ fun i hi g => h2 i (by omega) (k3_sl g)
  · rfl
theorem blks_one {p0 : Nat} {e : Int × Int} : ∀ n : Nat, (∀ p : Nat, p < n → p ≠ p0 → blkPg s ws p = []) → blkPg s ws p0 = [e] → blks s ws n = if p0 < n then [e] else []
  | 0, _, _ => rfl
  | n + 1, h, he => by
    have ih := blks_one n (fun p hp => h p (by omega)) he
    show blks s ws n ++ blkPg s ws n = _
    rw [ih]
    by_cases g : n = p0
    · subst g
      rw [if_neg (by omega), he, if_pos (by omega)]; rfl
    · rw [h n (by omega) g]
      by_cases g2 : p0 < n
      · rw [if_pos g2, if_pos (by omega)]; rfl
      · rw [if_neg g2, if_neg (by omega)]; rfl
end
namespace R2
section
variable {m c : Int} {ws : Nat → Int}
theorem pg_ws (m1 : 1 ≤ m) (m6 : m ≤ 6) {q : Int} (q0 : 0 ≤ q) (q1 : q < m) : pgAt (sh m) ws q = ws (2 + q).toNat := by
  unfold pgAt; rw [page_yes (may_ok m1 m6) q0 q1]; rfl
/-- One block alone. -/
theorem one_blk (m1 : 1 ≤ m) (m6 : m ≤ 6) (hB : Bs (sh m) ws) {b : Bk} (hb : b.Fit (sh m) c) (ha : ws (adr m b).toNat = val b) (h3 : ∀ j : Nat, ws j % 16 = 3 → (j : Int) = adr m b) : blks (sh m) ws m.toNat = [(b.ad, b.len)] := by
  have hm := may_ok m1 m6
  have p0 := hb.p0
  have p1 : b.p < m := hb.p1
  have nil : ∀ p : Nat, p < m.toNat → p ≠ b.p.toNat → blkPg (sh m) ws p = [] := fun p hp hne => by
    refine blkPg_nil (fun g => ?_) fun i hi g => ?_
    · rw [pg_ws m1 m6 (by omega) (by omega)] at g
      have := h3 _ g
      unfold adr at this
      cases hl : b.lg
      · rw [hl] at this; simp at this; have := hb.s hl; omega
      · rw [hl] at this; simp at this; omega
    · have := h3 ((2 : Int) + m + (p : Int) * 16 + i).toNat g
      unfold adr at this
      cases hl : b.lg
      · rw [hl] at this; simp at this; have := hb.s hl; have := slots_bd b.k; omega
      · rw [hl] at this; simp at this; omega
  have hpp : ((b.p.toNat : Nat) : Int) = b.p := by omega
  have e : blkPg (sh m) ws b.p.toNat = [(b.ad, b.len)] := by
    rw [hpp]
    unfold adr val at ha
    unfold Bk.ad Bk.len
    cases hl : b.lg
    · rw [hl] at ha
      simp only [Bool.false_eq_true, if_false] at ha ⊢
      obtain ⟨i0, i1⟩ := hb.s hl
      have sb := slots_bd b.k
      have hk := slots_k (k := b.k) (by omega)
      have hs : slAt (sh m) ws b.p b.i = 3 + 16 * b.k := by
        show ws ((2 : Int) + m + b.p * 16 + b.i).toNat = _; exact ha
      obtain ⟨hsup, -⟩ := (hB.pg b.p p0 p1).open (by show (2 : Int) ≤ 12; decide) hk.1 hk.2 i0 (by omega) (.inr hs)
      obtain ⟨r1, r2, r3⟩ := rd_s hm p0 p1 hsup
      unfold blkPg
      rw [r2, r3, if_neg (by decide), if_pos rfl, blkSl_one (j := b.i.toNat) _ fun i hi => ⟨fun g => ?_, fun g => ?_⟩, if_pos (by omega)]
      · rw [show ((b.i.toNat : Nat) : Int) = b.i by omega]
      · have := h3 ((2 : Int) + m + b.p * 16 + i).toNat (k3_sl g)
        unfold adr at this; rw [hl] at this; simp at this; omega
      · rw [g, show ((b.i.toNat : Nat) : Int) = b.i by omega, hs]
        exact (rd_sl (k := 3) (a := b.k) (by decide) (by decide) hk.1 (by omega)).1
    · rw [hl] at ha
      simp only [if_true] at ha ⊢
      obtain ⟨n1, n8, nq⟩ := hb.l hl
      have hw : pgAt (sh m) ws b.p = 3 + 16 * b.n := by rw [pg_ws m1 m6 p0 p1]; exact ha
      obtain ⟨r1, r2, r3⟩ := rd_l (s := sh m) hm p0 p1 n1 n8 nq
      unfold blkPg
      rw [hw, r2, r3, if_pos rfl]
  rw [blks_one m.toNat nil e, if_pos (by omega)]
theorem first_blk (m1 : 1 ≤ m) (m6 : m ≤ 6) (ha : ws 2 = 19) (h3 : ∀ j : Nat, ws j % 16 = 3 → j = 2) : blks (sh m) ws m.toNat = [(0, 64)] := by
  have hm := may_ok m1 m6
  have nil : ∀ p : Nat, p < m.toNat → p ≠ 0 → blkPg (sh m) ws p = [] := fun p hp hne => by
    refine blkPg_nil (fun g => ?_) fun i hi g => ?_
    · rw [pg_ws m1 m6 (by omega) (by omega)] at g
      have := h3 _ g; omega
    · have := h3 ((2 : Int) + m + (p : Int) * 16 + i).toNat g; omega
  have hw : pgAt (sh m) ws ((0 : Nat) : Int) = 19 := by rw [pg_ws m1 m6 (by omega) (by omega)]; exact ha
  obtain ⟨r1, r2, r3⟩ := rd_l (s := sh m) (q := 0) (n := 1) hm (by decide) (by show (0 : Int) < m; omega) (by decide) (by decide) (by show (0 : Int) + 1 ≤ m; omega)
  have r2 : pgK (sh m) 0 19 = 3 := r2
  have r3 : pgA (sh m) 0 19 = 1 := r3
  have e : blkPg (sh m) ws ((0 : Nat) : Int) = [(0, 64)] := by
    unfold blkPg
    rw [hw]
    show (if pgK (sh m) 0 19 = 3 then _ else _ : List (Int × Int)) = _
    rw [r2, if_pos rfl]
    show [((0 : Int) * 64, pgA (sh m) 0 19 * 64)] = _
    rw [r3]; rfl
  rw [blks_one m.toNat nil e, if_pos (by omega)]
/-- It could not give, or will not. -/
def Bad (t : Re) : Prop := (∃ u, t.md = .uo u) ∨ (t.gv.dn = false ∧ t.gv.nx = 1 ∧ t.gv.pK = 2)
variable {t : Re} {w : Wd}
theorem In.bad (m1 : 1 ≤ m) (m6 : m ≤ 6) (h : In m c t w.ws) (hB : Bad (t.step w).1) : Bad t ∨ w.ws 2 ≠ 19 := by
  have hm := may_ok m1 m6
  have wf := h.wf
  have es := h.es
  have estep : t.dn = false → ∀ (t1 : Re) (w1 : Wd), t.acc w = (t1, w1) → (t.step w).1 = t1.go := fun hd t1 w1 e => by unfold Re.step; rw [hd, e]; rfl
  cases h.ph with
  | fn hd ow er => rw [Re.step_dn hd] at hB; exact .inl hB
  | uo u hd e hi => exact .inl (.inl ⟨u, e⟩)
  | rv hd e hr hi gd gx =>
    have ea : t.acc w = ({ t with rv := (t.rv.step w).1 }, (t.rv.step w).2) := by unfold Re.acc; rw [if_neg (by rw [hr]; decide)]
    have ego : ({ t with rv := (t.rv.step w).1 } : Re).go = if (t.rv.step w).1.dn then (if (t.rv.step w).1.fd then { t with rv := (t.rv.step w).1 } else ({ t with rv := (t.rv.step w).1 } : Re).fin 3) else { t with rv := (t.rv.step w).1 } := by
      unfold Re.go; simp only [e, gd, Bool.false_eq_true, if_false]
    rw [estep hd _ _ ea, ego] at hB
    have no : ∀ t2 : Re, t2.md = t.md → t2.gv = t.gv → Bad t2 → False := fun t2 a b g => by
      rcases g with ⟨u, g⟩ | ⟨-, g, -⟩
      · rw [a, e] at g; cases g
      · rw [b] at g; omega
    exfalso
    revert hB
    split
    · split
      · exact no _ rfl rfl
      · exact no _ rfl rfl
    · exact no _ rfl rfl
  | cm u hd e hi eb ud p =>
    obtain ⟨-, -, -, d1, d2, d3, d4⟩ := wf.cm u e
    have ea : t.acc w = ({ t with md := .cm (Cm.step u w).1 }, (Cm.step u w).2) := by unfold Re.acc; rw [if_pos d1, if_pos d3, e]
    rw [estep hd _ _ ea] at hB
    have hB : Bad (if (Cm.step u w).1.dn then ({ t with md := .cm (Cm.step u w).1 } : Re).fin 0 else { t with md := .cm (Cm.step u w).1 }) := hB
    exfalso
    revert hB
    split <;>
    · rintro (⟨u, g⟩ | ⟨g, -⟩)
      · cases g
      · have g : t.gv.dn = false := g
        rw [d3] at g; cases g
  | gv hd e hr hf b ft gd g ow z =>
    have gs := wf.gs
    rw [es] at gs
    have ea : t.acc w = ({ t with gv := (t.gv.step w).1 }, (t.gv.step w).2) := by unfold Re.acc; rw [if_pos hr, if_neg (by rw [gd]; decide)]
    have ego : ({ t with gv := (t.gv.step w).1 } : Re).go = if (t.gv.step w).1.dn then (if (t.gv.step w).1.gv then { t with gv := (t.gv.step w).1, md := .cm (Cm.new t.s t.c t.rv.bk) } else { t with gv := (t.gv.step w).1, md := .uo (Uo.new t.s t.c t.rv.bk) }) else { t with gv := (t.gv.step w).1 } := by
      unfold Re.go; simp only [e, hr, hf, if_true]
    rw [estep hd _ _ ea, ego] at hB
    have hpat : t.gv.pat = 2 := by unfold Gv.pat; rw [gs.1, h.g0.1, page_yes hm (by decide) (by show (0 : Int) < m; omega)]; rfl
    by_cases h19 : w.ws 2 = 19
    rotate_left
    · exact .inr h19
    have hw : w.get t.gv.pat = 19 := by rw [hpat]; exact h19
    rcases g with gx | ⟨gx, gK, gA, gW⟩ | ⟨gx, gK, gS⟩ | ⟨gx, gK, gA, gI⟩
    · exfalso
      rw [Gv.step_0 gd gx] at hB
      obtain ⟨r1, r2, r3⟩ := rd_l (s := sh m) (q := 0) (n := 1) hm (by decide) (by show (0 : Int) < m; omega) (by decide) (by decide) (by show (0 : Int) + 1 ≤ m; omega)
      have hl : t.gv.isL w = true := by unfold Gv.isL; rw [hw, gs.1, h.g0.1, h.g0.2, show (19 : Int) = 3 + 16 * 1 from rfl, r1, r2]; rfl
      have e5 : t.gv.look w = { t.gv.read w with ms := true } := by unfold Gv.look; rw [if_pos hl]
      have hdn : (t.gv.look w).dn = false := by rw [e5]; exact gd
      have hpk : (t.gv.look w).pK = 3 := by rw [e5]; show pgK t.gv.s t.gv.pg (w.get t.gv.pat) = 3; rw [hw, gs.1, h.g0.1]; exact r2
      have hB : Bad (if (t.gv.look w).dn then _ else { t with gv := t.gv.look w }) := hB
      rw [hdn, if_neg (by decide)] at hB
      rcases hB with ⟨u, g⟩ | ⟨-, -, g⟩
      · have g : t.md = .uo u := g
        rw [e] at g; cases g
      · have g : (t.gv.look w).pK = 2 := g
        omega
    · exfalso
      rw [Gv.step_1L gd gx gK] at hB
      have hx : w.get t.gv.pat = t.gv.wd := by rw [hw, gW]
      have hdn : (t.gv.claimL w).dn = false := by show (!decide (w.get t.gv.pat = t.gv.wd)) = false; rw [decide_eq_true hx]; rfl
      have hB : Bad (if (t.gv.claimL w).dn then _ else { t with gv := t.gv.claimL w }) := hB
      rw [hdn, if_neg (by decide)] at hB
      rcases hB with ⟨u, g⟩ | ⟨-, g, -⟩
      · have g : t.md = .uo u := g
        rw [e] at g; cases g
      · have g : (4 : Int) = 1 := g
        cases g
    · exact .inl (.inr ⟨gd, gx, gK⟩)
    · exfalso
      have ggv := wf.gw.n23 gd (.inr (.inr gx))
      rw [Gv.step_4l gd gx (by omega)] at hB
      have hB : Bad (if true = true then (if t.gv.gv = true then { t with gv := { t.gv with dn := true }, md := .cm (Cm.new t.s t.c t.rv.bk) } else _) else _) := hB
      rw [if_pos rfl, if_pos ggv] at hB
      rcases hB with ⟨u, g⟩ | ⟨g, -⟩
      · cases g
      · cases g
/-- An error of the argument comes of an undoing alone. -/
def Er (t : Re) : Prop := t.dn = true → t.er = 1 → ∃ u, t.md = .uo u
theorem er_go {t1 : Re} (hd : t1.dn = false) : Er t1.go := by
  unfold Re.go
  split
  · rename_i u e
    split
    · exact fun _ _ => ⟨u, e⟩
    · exact fun g => by rw [hd] at g; cases g
  · split
    · exact fun _ g => by cases g
    · exact fun g => by rw [hd] at g; cases g
  · split
    · split
      · split
        · split
          · exact fun g => by have g : t1.dn = true := g; rw [hd] at g; cases g
          · exact fun g => by have g : t1.dn = true := g; rw [hd] at g; cases g
        · exact fun g => by rw [hd] at g; cases g
      · exact fun _ g => by cases g
    · exact fun g => by rw [hd] at g; cases g
theorem Er.step (h : Er t) : Er (t.step w).1 := by
  cases hd : t.dn
  · have e : (t.step w).1 = (t.acc w).1.go := by unfold Re.step; rw [hd]; rfl
    rw [e]
    refine er_go ?_
    unfold Re.acc
    split
    · split
      · split <;> exact hd
      · exact hd
    · exact hd
  · rw [Re.step_dn hd]; exact h
theorem In.bad_gv {ws : Nat → Int} (h : In m c t ws) (hb : Bad t) : t.gv.gv = false := by
  rcases hb with ⟨u, e⟩ | ⟨-, g, -⟩
  · exact (h.wf.uo u e).2.2.2.2.2.2
  · exact (h.wf.gw.n01 (.inr g)).2.1
/-- Two that renew, and why one of them may not. -/
structure Inv2 (m : Int) (A B : Re) (w : Wd) : Prop where
  i : Inv m A B w
  ba : Bad A → B.gv.gv = true
  bb : Bad B → A.gv.gv = true
  ea : Er A
  eb : Er B
end
section
variable {m : Int} {A B : Re} {w : Wd}
theorem gv_stay {t : Re} (h : t.wf) (hg : t.gv.gv = true) : (t.step w).1.gv.gv = true := by
  cases hd : t.dn
  · have e : (t.step w).1 = (t.acc w).1.go := by unfold Re.step; rw [hd]; rfl
    rw [e, Re.go_k.2.2.2.2]
    unfold Re.acc
    split
    · split
      · split <;> exact hg
      · exact Gv.gv_stay h.gw hg
    · exact hg
  · rw [Re.step_dn hd]; exact hg
theorem Inv2.stepA (m1 : 1 ≤ m) (m6 : m ≤ 6) (h : Inv2 m A B w) : Inv2 m (A.step w).1 B (A.step w).2 := by
  have hi := h.i.stepA m1 m6
  refine ⟨hi, fun g => ?_, fun g => gv_stay h.i.ia.wf (h.bb g), h.ea.step, h.eb⟩
  rcases h.i.ia.bad m1 m6 g with g2 | g2
  · exact h.ba g2
  · cases hb : B.gv.gv
    · exfalso
      cases ha : A.gv.gv
      · exact g2 (h.i.j.n0 ha hb)
      · have := gv_stay (w := w) h.i.ia.wf ha
        rw [hi.ia.bad_gv g] at this; cases this
    · rfl
theorem Inv2.stepB (m1 : 1 ≤ m) (m6 : m ≤ 6) (h : Inv2 m A B w) : Inv2 m A (B.step w).1 (B.step w).2 := by
  have hi := h.i.stepB m1 m6
  refine ⟨hi, fun g => gv_stay h.i.ib.wf (h.ba g), fun g => ?_, h.ea, h.eb.step⟩
  rcases h.i.ib.bad m1 m6 g with g2 | g2
  · exact h.bb g2
  · cases ha : A.gv.gv
    · exfalso
      cases hb : B.gv.gv
      · exact g2 (h.i.j.n0 ha hb)
      · have := gv_stay (w := w) h.i.ib.wf hb
        rw [hi.ib.bad_gv g] at this; cases this
    · rfl
/-- The end. -/
theorem Inv2.fin (m1 : 1 ≤ m) (m6 : m ≤ 6) (h : Inv2 m A B w) (ha : A.dn = true) (hb : B.dn = true) :
    (A.fd = true ∧ B.fd = false ∧ blks (sh m) w.ws m.toNat = [(A.bk.ad, A.bk.len)] ∧ A.bk.Fit (sh m) 0 ∧ A.bk.p ≠ 0) ∨
    (A.fd = false ∧ B.fd = true ∧ blks (sh m) w.ws m.toNat = [(B.bk.ad, B.bk.len)] ∧ B.bk.Fit (sh m) 1 ∧ B.bk.p ≠ 0) ∨
    (A.fd = false ∧ B.fd = false ∧ blks (sh m) w.ws m.toNat = [(0, 64)] ∧ A.er = 3 ∧ B.er = 3) := by
  have fdc : ∀ t : Re, t.dn = true → ¬ Cd t → t.fd = false := fun t hd hc => by
    unfold Re.fd
    rw [hd, decide_eq_false fun g => hc ⟨hd, g⟩]; rfl
  have fdy : ∀ t : Re, Cd t → t.rv.fd = true → t.fd = true ∧ t.bk = t.rv.bk := fun t hc hf => by
    unfold Re.fd Re.bk
    rw [hc.1, hc.2, hf]; exact ⟨rfl, rfl⟩
  by_cases ca : Cd A
  · obtain ⟨g1, g2, g3, g4⟩ := h.i.ia.cd ca
    have cb : ¬ Cd B := fun g => h.i.j.no g1 (h.i.ib.cd g).1
    obtain ⟨f1, f2⟩ := fdy A ca g2
    refine .inl ⟨f1, fdc B hb cb, ?_, by rw [f2]; exact g3, by rw [f2]; exact g4⟩
    rw [f2]
    refine one_blk m1 m6 h.i.bs g3 (h.i.j.ca ca) fun j e => ?_
    rcases h.i.j.a3 j e with ⟨-, -, g, -⟩ | ⟨-, g⟩ | ⟨g, -⟩
    · rw [g1] at g; cases g
    · exact g
    · exact absurd g cb
  by_cases cb : Cd B
  · obtain ⟨g1, g2, g3, g4⟩ := h.i.ib.cd cb
    obtain ⟨f1, f2⟩ := fdy B cb g2
    refine .inr (.inl ⟨fdc A ha ca, f1, ?_, by rw [f2]; exact g3, by rw [f2]; exact g4⟩)
    rw [f2]
    refine one_blk m1 m6 h.i.bs g3 (h.i.j.cb cb) fun j e => ?_
    rcases h.i.j.a3 j e with ⟨-, -, -, g⟩ | ⟨g, -⟩ | ⟨-, g⟩
    · rw [g1] at g; cases g
    · exact absurd g ca
    · exact g
  · have ng : ∀ (c : Int) (t : Re), In m c t w.ws → t.dn = true → ¬ Cd t → t.gv.gv = false ∧ (t.er = 3 ∨ t.er = 1) := fun c t hi hd hc => by
      cases hi.ph with
      | rv g => rw [hd] at g; cases g
      | uo u g => rw [hd] at g; cases g
      | cm u g => rw [hd] at g; cases g
      | gv g => rw [hd] at g; cases g
      | fn _ _ er =>
        rcases er with ⟨g1, -, g2⟩ | ⟨g1, g2⟩ | ⟨g1, -⟩
        · exact ⟨g2, .inl g1⟩
        · exact ⟨g2, .inr g1⟩
        · exact absurd ⟨hd, g1⟩ hc
    obtain ⟨a1, a2⟩ := ng 0 A h.i.ia ha ca
    obtain ⟨b1, b2⟩ := ng 1 B h.i.ib hb cb
    refine .inr (.inr ⟨fdc A ha ca, fdc B hb cb, first_blk m1 m6 (h.i.j.n0 a1 b1) fun j e => ?_, a2.resolve_right fun g => ?_, b2.resolve_right fun g => ?_⟩)
    · rcases h.i.j.a3 j e with ⟨g, -⟩ | ⟨g, -⟩ | ⟨g, -⟩
      · exact g
      · exact absurd g ca
      · exact absurd g cb
    · have := h.ba (.inl (h.ea ha g)); rw [b1] at this; cases this
    · have := h.bb (.inl (h.eb hb g)); rw [a1] at this; cases this
/-- The heap at the beginning. -/
def one : Nat → Int := fun j => if j = 2 then 19 else 0
theorem one_pg (m1 : 1 ≤ m) (m6 : m ≤ 6) {q : Int} (q0 : 0 ≤ q) (q1 : q < m) : pgAt (sh m) one q = if q = 0 then 19 else 0 := by
  rw [pg_ws m1 m6 q0 q1]; unfold one
  by_cases e : q = 0
  · rw [if_pos (by omega), if_pos e]
  · rw [if_neg (by omega), if_neg e]
theorem one_own {c : Int} (m1 : 1 ≤ m) (m6 : m ≤ 6) (c0 : 0 ≤ c) (c1 : c < 2) : Own (sh m) one c nil := by
  have hp : ∀ q, 0 ≤ q → q < m → pgAt (sh m) one q = 19 ∨ pgAt (sh m) one q = 0 := fun q a b => by
    rw [one_pg m1 m6 a b]; split <;> simp
  have hM : ∀ q i, 0 ≤ q → 0 ≤ i → ¬ InM (sh m) one c q i := fun q i q0 i0 ⟨j, k, j0, j1, k0, k1, e⟩ => by
    have j1 : j < 1 := j1
    have e2 : mgAt (sh m) one c j = 0 := by
      show one ((2 : Int) + m + m * 16 + c * 1 + j).toNat = 0
      unfold one; rw [if_neg (by omega)]
    omega
  refine ⟨fun q a b => ⟨fun e => ?_, fun g => g.elim⟩, fun q h a b a' b' => ⟨fun ⟨_, e⟩ => ?_, fun g => g.elim⟩, fun q i a b i0 i1 => ⟨fun ⟨⟨k, e⟩, _⟩ => ?_, fun g => ?_⟩, fun q i _ _ _ _ g => g.elim⟩
  · have := hp q a b; omega
  · have := hp h a' b'; omega
  · have := hp q a b; have := e.mod; omega
  · rcases g with g | g
    · exact g.elim
    · exact (hM q i a i0 g).elim
theorem one_bs (m1 : 1 ≤ m) (m6 : m ≤ 6) : Bs (sh m) one := by
  have mz : ∀ c j : Int, 0 ≤ c → 0 ≤ j → mgAt (sh m) one c j = 0 := fun c j c0 j0 => by
    show one ((2 : Int) + m + m * 16 + c * 1 + j).toNat = 0
    unfold one; rw [if_neg (by omega)]
  have sz : ∀ q i : Int, 0 ≤ q → 0 ≤ i → slAt (sh m) one q i = 0 := fun q i q0 i0 => by
    show one ((2 : Int) + m + q * 16 + i).toNat = 0
    unfold one; rw [if_neg (by omega)]
  refine ⟨fun q a b => ?_, fun c j c0 _ j0 _ g => absurd (mz c j c0 j0) g, fun c j j' c0 _ j0 _ _ _ g => absurd (mz c j c0 j0) g⟩
  have b : q < m := b
  by_cases e : q = 0
  · subst e
    exact .l 1 (by decide) (by decide) (by show (0 : Int) + 1 ≤ m; omega) (by rw [one_pg m1 m6 a b]; rfl) (fun i i0 i1 => sz _ i a i0) fun j j1 jn => by omega
  · exact .e (by rw [one_pg m1 m6 a b, if_neg e]) fun i i0 i1 => sz q i a i0
theorem In.init {c x f : Int} (m1 : 1 ≤ m) (m6 : m ≤ 6) (c0 : 0 ≤ c) (c1 : c < 2) (hx : fine x = true) (hw : w.ws = one) : In m c (Re.new (sh m) c 0 x f) w.ws ∧ (Re.new (sh m) c 0 x f).gv.gv = false ∧ ¬ Cd (Re.new (sh m) c 0 x f) ∧ ¬ Bad (Re.new (sh m) c 0 x f) ∧ Er (Re.new (sh m) c 0 x f) := by
  have hm := may_ok m1 m6
  have hth : there (sh m).p (sh m).c (sh m).m 0 = true := by unfold there; rw [hm, (win_iff 0 0 _).2 ⟨by decide, by show (0 : Int) ≤ m * 64 - 1; omega⟩]; rfl
  have hst : status (sh m).p (sh m).c (sh m).m c = c := status_yes hm c0 (by show c < (2 : Int); exact c1)
  have hok : Re.ok (sh m) c 0 x = true := by unfold Re.ok; rw [hth, hx, hst, decide_eq_true c0]; rfl
  have hgd : (Gv.new (sh m) c 0).dn = false := by
    show (!there (sh m).p (sh m).c (sh m).m 0 || decide (status (sh m).p (sh m).c (sh m).m c < 0)) = false
    rw [hth, hst, decide_eq_false (by omega)]; rfl
  have e : Re.new (sh m) c 0 x f = (Re.raw (sh m) c 0 x f).go := by unfold Re.new; rw [if_pos hok]
  have wf := Re.new_wf (sh m) c 0 x f
  have hi := Rv.In.new hm c0 (by show c < (2 : Int); exact c1) x f (ws := w.ws) (by rw [hw]; exact one_own m1 m6 c0 c1)
  have ego : (Re.raw (sh m) c 0 x f).go = if (Rv.new (sh m) c x f).dn then (if (Rv.new (sh m) c x f).fd then Re.raw (sh m) c 0 x f else (Re.raw (sh m) c 0 x f).fin 3) else Re.raw (sh m) c 0 x f := by
    unfold Re.go Re.raw
    simp only [hgd, Bool.false_eq_true, if_false]
  have g0 : (Gv.new (sh m) c 0).pg = 0 ∧ (Gv.new (sh m) c 0).off = 0 := by
    refine ⟨?_, ?_⟩
    · show sp (sh m).p (sh m).c (sh m).m 0 = 0
      unfold sp; rw [if_pos hth]; rfl
    · show so (sh m).p (sh m).c (sh m).m 0 = 0
      unfold so; rw [if_pos hth]; rfl
  have noB : ∀ t : Re, t.md = .no → t.gv = Gv.new (sh m) c 0 → ¬ Bad t := fun t a b g => by
    rcases g with ⟨u, g⟩ | ⟨-, g, -⟩
    · rw [a] at g; cases g
    · rw [b] at g; cases g
  rw [e] at wf ⊢
  refine ⟨?_, ?_, ?_, ?_, er_go rfl⟩
  · refine ⟨wf, Re.go_k.2.2.1, Re.go_k.1, Re.go_k.2.1, by rw [Re.go_k.2.2.2.2]; exact g0, ?_⟩
    rw [ego]
    cases hd : (Rv.new (sh m) c x f).dn
    · rw [if_neg (by decide)]
      exact .rv rfl rfl hd hi hgd rfl
    · rw [if_pos rfl]
      cases hf : (Rv.new (sh m) c x f).fd
      · rw [if_neg (by decide)]
        exact .fn rfl (none (t := Re.raw (sh m) c 0 x f) (w := w) hi hd hf) (.inl ⟨rfl, hf, rfl⟩)
      · rw [if_pos rfl]
        obtain ⟨b1, b2, b3⟩ := found (t := Re.raw (sh m) c 0 x f) (w := w) hi hd hf
        exact .gv rfl rfl hd hf b1 b2 hgd (.inl rfl) b3 fun g => by cases g
  · rw [Re.go_k.2.2.2.2]; rfl
  · rw [ego]
    split
    · split
      · exact fun g => by cases g.1
      · exact fun g => by cases g.2
    · exact fun g => by cases g.1
  · rw [ego]
    split
    · split
      · exact noB _ rfl rfl
      · exact noB _ rfl rfl
    · exact noB _ rfl rfl
theorem Inv2.init {x y : Int} (m1 : 1 ≤ m) (m6 : m ≤ 6) (hx : fine x = true) (hy : fine y = true) (ho : w.of (sh m)) (hw : w.ws = one) : Inv2 m (Re.new (sh m) 0 0 x 0) (Re.new (sh m) 1 0 y 1) w := by
  obtain ⟨a1, a2, a3, a4, a5⟩ := In.init (c := 0) (f := 0) m1 m6 (by decide) (by decide) hx hw
  obtain ⟨b1, b2, b3, b4, b5⟩ := In.init (c := 1) (f := 1) m1 m6 (by decide) (by decide) hy hw
  refine ⟨⟨ho, by rw [hw]; exact one_bs m1 m6, a1, b1, ⟨fun j e => ?_, fun _ _ => by rw [hw]; rfl, fun g => (by rw [a2] at g; cases g), fun g => absurd g a3, fun g => absurd g b3⟩⟩, fun g => absurd g a4, fun g => absurd g b4, a5, b5⟩
  rw [hw] at e ⊢
  unfold one at e
  split at e
  · rename_i g; exact .inl ⟨g, rfl, a2, b2⟩
  · cases e
end
end R2
end Go.Ma
