/-
  Who gives, alone in a sound heap: each step keeps it sound; what is given, and what not. Conditions: none.
-/
import Derived.Test.YtfopnendmcpglaaMaGiveB
set_option linter.unusedVariables false
set_option linter.unusedSectionVars false
set_option linter.unusedSimpArgs false
namespace Go.Ma
open Go.Pl
theorem is_taken {x : Int} (hk : slK x = 3) : x = taken (slA x) := by
  have ho : okSl x = true := by
    cases e : okSl x
    · unfold slK at hk; rw [e] at hk; cases hk
    · rfl
  have h1 : x % 16 = 3 := by unfold slK at hk; rw [if_pos ho] at hk; exact hk
  unfold slA taken
  rw [if_pos ho]
  unfold okSl at ho
  rw [h1] at ho
  exact (of_decide_eq_true ho).symm
namespace Gv
/-- How far it is. -/
inductive Ga (s : Sh) (ws0 : Nat → Int) (c a : Int) (t : Gv) (w : Wd) : Prop
  | a (hd : t.dn = false) (hn : t.nx = 0) (hw : w.ws = ws0)
  | n (hd : t.dn = true) (hg : t.gv = false) (hw : w.ws = ws0) (hno : ∀ n : Nat, (n : Int) ≤ s.p → ∀ z ∈ blks s ws0 n, z.1 ≠ a)
  | l1 (hd : t.dn = false) (hn : t.nx = 1) (hw : w.ws = ws0) (kK : t.pK = 3) (hk : pgK s t.pg (pgAt s ws0 t.pg) = 3) (hA : pgA s t.pg (pgAt s ws0 t.pg) = t.pA) (hwd : t.wd = pgAt s ws0 t.pg) (ha : t.pg * 64 = a)
  | l2 (hd : t.dn = false) (hn : t.nx = 4) (hg : t.gv = true) (hk : pgK s t.pg (pgAt s ws0 t.pg) = 3) (hA : pgA s t.pg (pgAt s ws0 t.pg) = t.pA) (ha : t.pg * 64 = a) (hx : LX s ws0 t.pg t.pA c t.i w.ws)
  | s1 (hd : t.dn = false) (hn : t.nx = 1) (hw : w.ws = ws0) (kK : t.pK = 2) (hk : pgK s t.pg (pgAt s ws0 t.pg) = 2) (hA : pgA s t.pg (pgAt s ws0 t.pg) = t.pA) (s0 : 0 ≤ t.sl) (s1 : t.sl < slots t.pA) (ha : t.pg * 64 + t.sl * size t.pA = a)
  | s2 (p : Pu) (hd : t.dn = false) (hn : t.nx = 2) (hp : t.put = some p) (hg : t.gv = true) (hk : pgK s t.pg (pgAt s ws0 t.pg) = 2) (hA : pgA s t.pg (pgAt s ws0 t.pg) = t.pA) (s0 : 0 ≤ t.sl) (s1 : t.sl < slots t.pA) (ha : t.pg * 64 + t.sl * size t.pA = a) (ht : slAt s ws0 t.pg t.sl = taken t.pA)
      (hpe : p.ep = t.pg ∧ p.es = t.sl ∧ p.ek = t.pA) (hz : p.hit = true → mgAt s w.ws c p.i = 0) (hx : SX s ws0 t.pg t.sl t.pA c (way c) none w.ws)
  | s3 (hd : t.dn = false) (hn : t.nx = 3) (hg : t.gv = true) (hk : pgK s t.pg (pgAt s ws0 t.pg) = 2) (hA : pgA s t.pg (pgAt s ws0 t.pg) = t.pA) (s0 : 0 ≤ t.sl) (s1 : t.sl < slots t.pA) (ha : t.pg * 64 + t.sl * size t.pA = a) (ht : slAt s ws0 t.pg t.sl = taken t.pA) (hx : SX s ws0 t.pg t.sl t.pA c (way c) none w.ws)
  | e (hd : t.dn = true) (hg : t.gv = true) (hp : t.pg < s.p) (hs : Snd s w.ws) (ho : ∀ n : Nat, t.pg < n → (n : Int) ≤ s.p → Out (blks s ws0 n) (blks s w.ws n) a)
structure Al (s : Sh) (ws0 : Nat → Int) (c a : Int) (t : Gv) (w : Wd) : Prop where
  of : w.of s
  ok : may s.p s.c s.m = true
  wf : t.wf ∧ t.s = s ∧ t.c = c ∧ t.a = a
  cb : 0 ≤ c ∧ c < s.c
  pb : t.dn = false → 0 ≤ t.pg ∧ t.pg < s.p
  snd : Snd s ws0
  ph : Ga s ws0 c a t w
variable {s : Sh} {ws0 : Nat → Int} {c a : Int} {t : Gv} {w : Wd}
theorem Al.sound (h : Al s ws0 c a t w) : Snd s w.ws := by
  have hm := h.ok
  have hc := h.cb
  cases h.ph with
  | a hd hn hw => rw [hw]; exact h.snd
  | n hd hg hw => rw [hw]; exact h.snd
  | l1 hd hn hw => rw [hw]; exact h.snd
  | l2 hd hn hg hk hA ha hx =>
    have hp := h.pb hd
    have h4 := (h.wf.1.n4 hd hn).2
    exact hx.snd hm h.snd hp.1 hp.2 hk hA hc.1 hc.2 h4.1 h4.2
  | s1 hd hn hw => rw [hw]; exact h.snd
  | s2 p hd hn hp hg hk hA s0 s1 ha ht hpe hz hx =>
    have hp := h.pb hd
    exact hx.snd hm h.snd hp.1 hp.2 hk hA s0 s1 hc.1 hc.2 ht
  | s3 hd hn hg hk hA s0 s1 ha ht hx =>
    have hp := h.pb hd
    exact hx.snd hm h.snd hp.1 hp.2 hk hA s0 s1 hc.1 hc.2 ht
  | e hd hg hp hs ho => exact hs
theorem Al.step (h : Al s ws0 c a t w) : Al s ws0 c a (t.step w).1 (t.step w).2 := by
  obtain ⟨w1, w2, w3, w4⟩ := h.wf
  have hm := h.ok
  have hb := (may_iff _ _ _).1 hm
  have hc := h.cb
  have hkp := step_keeps (w := w) w1
  have hpb : (t.step w).1.dn = false → 0 ≤ (t.step w).1.pg ∧ (t.step w).1.pg < s.p := fun hd => by
    rw [hkp.2.2.2]
    cases hd0 : t.dn
    · exact h.pb hd0
    · rw [step_dn hd0] at hd
      have hd : t.dn = false := hd
      rw [hd0] at hd; cases hd
  suffices hh : Ga s ws0 c a (t.step w).1 (t.step w).2 from
    ⟨step_of w1 h.of, hm, ⟨step_wf w1 h.of.u, hkp.1.trans w2, hkp.2.1.trans w3, hkp.2.2.1.trans w4⟩, hc, hpb, h.snd, hh⟩
  have hpat : t.pat = page s.p s.c s.m t.pg := by unfold pat; rw [w2]
  have hsat : t.sat = slot s.p s.c s.m t.pg t.sl := by unfold sat; rw [w2]
  have hgp : w.get t.pat = pgAt s w.ws t.pg := by rw [hpat]; rfl
  cases h.ph with
  | a hd hn hw =>
    obtain ⟨p0, p1⟩ := h.pb hd
    obtain ⟨-, -, -, -, -, hth, hpg, -, -⟩ := w1.of hd
    obtain ⟨z1, z2, z3⟩ := w1.n01 (.inl hn)
    have hob := off_bd hth
    rw [w2, w4] at hth hpg
    have hof : t.off = a % 64 := by unfold off so; rw [w2, w4, if_pos hth]
    have hpg2 : t.pg = a / 64 := by rw [hpg]; unfold sp; rw [if_pos hth]
    rw [step_0 hd hn]
    show Ga s ws0 c a (t.look w) (w.load t.c t.pat)
    rw [hw] at hgp
    unfold look
    by_cases hL : t.isL w = true
    · rw [if_pos hL]
      unfold isL at hL
      rw [w2, hgp] at hL
      simp only [Bool.and_eq_true, decide_eq_true_eq] at hL
      exact .l1 hd rfl hw (by show pgK t.s t.pg (w.get t.pat) = 3; rw [w2, hgp]; exact hL.2.1) hL.2.1 (by show pgA s t.pg (pgAt s ws0 t.pg) = pgA t.s t.pg (w.get t.pat); rw [w2, hgp]) hgp (by show t.pg * 64 = a; have := hL.2.2; omega)
    · rw [if_neg hL]
      by_cases hS : t.isS w = true
      · rw [if_pos hS]
        unfold isS at hS
        rw [w2, hgp] at hS
        simp only [Bool.and_eq_true, decide_eq_true_eq] at hS
        have hAs := ok_super hS.1 hS.2.1
        have hs4 := slots_four hAs.1 hAs.2.1
        have hso := slot_of ⟨hAs.1, hAs.2.1⟩ hob
        have hdm := Int.mul_ediv_add_emod t.off (size (pgA s t.pg (pgAt s ws0 t.pg)))
        rw [hS.2.2] at hdm
        refine .s1 hd rfl hw (by show pgK t.s t.pg (w.get t.pat) = 2; rw [w2, hgp]; exact hS.2.1) hS.2.1 (by show pgA s t.pg (pgAt s ws0 t.pg) = pgA t.s t.pg (w.get t.pat); rw [w2, hgp]) ?_ ?_ ?_
        · show 0 ≤ t.off / size (pgA t.s t.pg (w.get t.pat)); rw [w2, hgp]; exact hso.1
        · show t.off / size (pgA t.s t.pg (w.get t.pat)) < slots (pgA t.s t.pg (w.get t.pat)); rw [w2, hgp]; exact hso.2
        · show t.pg * 64 + t.off / size (pgA t.s t.pg (w.get t.pat)) * size (pgA t.s t.pg (w.get t.pat)) = a
          rw [w2, hgp, Int.mul_comm (t.off / _)]; omega
      · rw [if_neg hS]
        refine .n rfl z2 hw fun n hn z hz hza => ?_
        obtain ⟨p, hp, hzp⟩ := blks_mem.1 hz
        have hin := blkPg_in hzp
        have hpp : (p : Int) = t.pg := by omega
        rcases blkPg_mem hzp with ⟨h3, rfl⟩ | ⟨h2, i, hi, -, rfl⟩
        · rw [hpp] at h3 hza
          refine hL ?_
          unfold isL
          rw [w2, hgp, pgK_ne (by rw [h3]; decide), decide_eq_true h3, decide_eq_true (by have : t.pg * 64 = a := hza; omega)]; rfl
        · rw [hpp] at h2 hza
          refine hS ?_
          have hAs := ok_super (pgK_ne (s := s) (q := t.pg) (x := pgAt s ws0 t.pg) (by rw [h2]; decide)) h2
          have hs4 := slots_four hAs.1 hAs.2.1
          have hza : t.pg * 64 + i * size (pgA s t.pg (pgAt s ws0 t.pg)) = a := hza
          have ho : t.off = i * size (pgA s t.pg (pgAt s ws0 t.pg)) := by omega
          unfold isS
          rw [w2, hgp, pgK_ne (by rw [h2]; decide), decide_eq_true h2, ho, Int.mul_emod_left]; rfl
  | n hd hg hw hno => rw [step_dn hd]; exact .n hd hg hw hno
  | l1 hd hn hw kK hk hA hwd ha =>
    obtain ⟨p0, p1⟩ := h.pb hd
    obtain ⟨z1, z2, z3⟩ := w1.n01 (.inr hn)
    have hr := row_bd hm h.snd p0 p1 hk hA
    have hgw : w.get t.pat = t.wd := by rw [hgp, hw, hwd]
    rw [step_1L hd hn kK]
    have hsw : (w.swap t.c t.pat t.wd (held t.c)).ws = upW ws0 (page s.p s.c s.m t.pg) (held c) := by rw [swap_yes hgw, hpat, hw, w3]
    show Ga s ws0 c a (t.claimL w) (w.swap t.c t.pat t.wd (held t.c))
    have hcl : decide (w.get t.pat = t.wd) = true := decide_eq_true hgw
    refine .l2 (by show (!decide (w.get t.pat = t.wd)) = false; rw [hcl]; rfl) rfl hcl hk hA ha ?_
    rw [hsw]
    show LX s ws0 t.pg t.pA c t.i _
    rw [z3]
    refine ⟨.inl ?_, fun j j0 j1 => by omega, fun q q0 q1 hne _ => ?_, fun q j q0 q1 j0 j1 => sl_pg hm p0 p1 q0 j0, fun c' j c0 c1 j0 j1 => mg_pg hm p0 p1 c0 j0⟩
    · rw [pg_pg hm p0 p1 p0 p1, if_pos rfl]
    · rw [pg_pg hm p0 p1 q0 q1, if_neg hne]
  | l2 hd hn hg hk hA ha hx =>
    obtain ⟨p0, p1⟩ := h.pb hd
    have h4 := (w1.n4 hd hn).2
    have hr := row_bd hm h.snd p0 p1 hk hA
    by_cases hi : t.i = t.pA - 1
    · rw [step_4l hd hn hi]
      have hxx : LX s ws0 t.pg t.pA c t.i (upW w.ws (page s.p s.c s.m t.pg) 0) := by
        refine ⟨.inr ⟨by rw [pg_pg hm p0 p1 p0 p1, if_pos rfl], hi⟩, fun j j0 j1 => ?_, fun q q0 q1 hne hno => ?_, fun q j q0 q1 j0 j1 => (sl_pg hm p0 p1 q0 j0).trans (hx.sl q j q0 q1 j0 j1), fun c' j c0 c1 j0 j1 => (mg_pg hm p0 p1 c0 j0).trans (hx.mg c' j c0 c1 j0 j1)⟩
        · rw [pg_pg hm p0 p1 (by omega) (by omega), if_neg (by omega)]; exact hx.em j j0 j1
        · rw [pg_pg hm p0 p1 q0 q1, if_neg hne]; exact hx.ot q q0 q1 hne hno
      have hws : (w.store t.c t.pat 0).ws = upW w.ws (page s.p s.c s.m t.pg) 0 := by rw [store_ws, hpat]
      refine .e rfl hg p1 ?_ fun n hn hn2 => ?_
      · show Snd s (w.store t.c t.pat 0).ws
        rw [hws]; exact hxx.snd hm h.snd p0 p1 hk hA hc.1 hc.2 h4.1 h4.2
      · show Out (blks s ws0 n) (blks s (w.store t.c t.pat 0).ws n) a
        have hn : t.pg < n := hn
        rw [hws, ← ha]
        exact hxx.out (P := t.pg.toNat) hm h.snd (by omega) p1 (by omega) hn2 hk hA hc.1 hc.2 h4.1 h4.2
    · rw [step_4m hd hn hi]
      have hp2 : page t.s.p t.s.c t.s.m (t.pg + t.i + 1) = page s.p s.c s.m (t.pg + t.i + 1) := by rw [w2]
      refine .l2 hd hn hg hk hA ha ?_
      show LX s ws0 t.pg t.pA c (t.i + 1) (w.store t.c (page t.s.p t.s.c t.s.m (t.pg + t.i + 1)) 0).ws
      rw [store_ws, hp2]
      refine ⟨?_, fun j j0 j1 => ?_, fun q q0 q1 hne hno => ?_, fun q j q0 q1 j0 j1 => (sl_pg hm (by omega) (by omega) q0 j0).trans (hx.sl q j q0 q1 j0 j1), fun c' j c0 c1 j0 j1 => (mg_pg hm (by omega) (by omega) c0 j0).trans (hx.mg c' j c0 c1 j0 j1)⟩
      · rw [pg_pg hm (by omega) (by omega) p0 p1, if_neg (by omega)]
        rcases hx.hd with e | ⟨e, e2⟩
        · exact .inl e
        · exact absurd e2 hi
      · rw [pg_pg hm (by omega) (by omega) (by omega) (by omega)]
        split
        · rfl
        · exact hx.em j j0 (by omega)
      · rw [pg_pg hm (by omega) (by omega) q0 q1, if_neg (by omega)]; exact hx.ot q q0 q1 hne (by omega)
  | s1 hd hn hw kK hk hA s0 s1 ha =>
    obtain ⟨p0, p1⟩ := h.pb hd
    have hAs := ok_super (pgK_ne (s := s) (q := t.pg) (x := pgAt s ws0 t.pg) (by rw [hk]; decide)) hk
    rw [hA] at hAs
    have hs4 := slots_four hAs.1 hAs.2.1
    have hgs : w.get t.sat = slAt s ws0 t.pg t.sl := by rw [hsat, slot_at hm p0 p1 s0 (by omega), hw]
    rw [step_1S hd hn kK]
    show Ga s ws0 c a (t.claimS w) (w.swap t.c t.sat (taken t.pA) (way t.c))
    by_cases ht : slAt s ws0 t.pg t.sl = taken t.pA
    · have hgt : w.get t.sat = taken t.pA := hgs.trans ht
      have hws : (w.swap t.c t.sat (taken t.pA) (way t.c)).ws = upW ws0 (slot s.p s.c s.m t.pg t.sl) (way c) := by rw [swap_yes hgt, hsat, hw, w3]
      have hx : SX s ws0 t.pg t.sl t.pA c (way c) none (w.swap t.c t.sat (taken t.pA) (way t.c)).ws := by
        rw [hws]
        refine ⟨.inl rfl, ?_, fun q q0 q1 => pg_sl hm p0 p1 s0 (by omega) q0 q1, fun q j q0 q1 j0 j1 hne => ?_, fun c' j c0 c1 j0 j1 => .inl (mg_sl hm p0 p1 s0 (by omega) c0 j0)⟩
        · rw [sl_sl hm p0 p1 s0 (by omega) p0 s0 (by omega), if_pos ⟨rfl, rfl⟩]
        · rw [sl_sl hm p0 p1 s0 (by omega) q0 j0 j1, if_neg hne]
      have hcl : decide (w.get t.sat = taken t.pA) = true := decide_eq_true hgt
      unfold claimS
      rw [hcl]
      by_cases hB : t.pB = t.c
      · rw [if_pos hB]
        cases hpd : t.pnew.dn
        · exact .s2 t.pnew rfl rfl rfl rfl hk hA s0 s1 ha ht ⟨rfl, rfl, rfl⟩ (fun h => by cases h) hx
        · exact .s3 rfl rfl rfl hk hA s0 s1 ha ht hx
      · rw [if_neg hB]
        exact .s3 rfl rfl rfl hk hA s0 s1 ha ht hx
    · have hgt : w.get t.sat ≠ taken t.pA := by rw [hgs]; exact ht
      have hcl : decide (w.get t.sat = taken t.pA) = false := decide_eq_false hgt
      have hws : (w.swap t.c t.sat (taken t.pA) (way t.c)).ws = ws0 := by rw [swap_no hgt, hw]
      have hno : ∀ n : Nat, (n : Int) ≤ s.p → ∀ z ∈ blks s ws0 n, z.1 ≠ a := fun n hn z hz hza => by
        obtain ⟨p, hp, hzp⟩ := blks_mem.1 hz
        have hin := blkPg_in hzp
        have h64 : 0 ≤ t.sl * size t.pA ∧ t.sl * size t.pA < 64 := by
          have h5 := Int.mul_le_mul_of_nonneg_right (by omega : t.sl + 1 ≤ slots t.pA) (by omega : 0 ≤ size t.pA)
          rw [Int.add_mul] at h5
          have h6 := Int.mul_nonneg s0 (by omega : 0 ≤ size t.pA)
          omega
        have hpp : (p : Int) = t.pg := by omega
        rcases blkPg_mem hzp with ⟨h3, rfl⟩ | ⟨h2, i, hi, hi3, rfl⟩
        · rw [hpp, hk] at h3; cases h3
        · rw [hpp] at hza hi hi3
          have hza : t.pg * 64 + i * size (pgA s t.pg (pgAt s ws0 t.pg)) = a := hza
          rw [hA] at hza hi
          have hisl : (i : Int) = t.sl := by
            rcases Int.lt_trichotomy (i : Int) t.sl with g | g | g
            · have := Int.mul_le_mul_of_nonneg_right (by omega : (i : Int) + 1 ≤ t.sl) (by omega : 0 ≤ size t.pA)
              rw [Int.add_mul] at this; omega
            · exact g
            · have := Int.mul_le_mul_of_nonneg_right (by omega : t.sl + 1 ≤ (i : Int)) (by omega : 0 ≤ size t.pA)
              rw [Int.add_mul] at this; omega
          have hsu := (h.snd.pg t.pg.toNat (by omega)).2.sup (by rw [show ((t.pg.toNat : Nat) : Int) = t.pg by omega]; exact beq_iff_eq.2 hk) i (by omega)
          rw [show ((t.pg.toNat : Nat) : Int) = t.pg by omega, hA] at hsu
          unfold slB at hsu
          rw [decide_eq_true hi, hi3] at hsu
          have hsa : slA (slAt s ws0 t.pg i) = t.pA := by simpa using hsu
          have := is_taken hi3
          rw [hsa, hisl] at this
          exact ht this
      unfold claimS
      rw [hcl]
      by_cases hB : t.pB = t.c
      · rw [if_pos hB]; exact .n rfl rfl hws hno
      · rw [if_neg hB]; exact .n rfl rfl hws hno
  | s2 p hd hn hp hg hk hA s0 s1 ha ht hpe hz hx =>
    obtain ⟨p0, p1⟩ := h.pb hd
    have hAs := ok_super (pgK_ne (s := s) (q := t.pg) (x := pgAt s ws0 t.pg) (by rw [hk]; decide)) hk
    rw [hA] at hAs
    have hs4 := slots_four hAs.1 hAs.2.1
    obtain ⟨-, p', hp', hpw, hpd, hpp, hps, hpc⟩ := w1.n2 hd hn
    rw [hp] at hp'
    injection hp' with hp'
    subst hp'
    rw [w2] at hps
    rw [w3] at hpc
    obtain ⟨-, -, -, i0, i1⟩ := hpw.of hpd
    rw [hps] at i1
    have hat : p.at' = mag s.p s.c s.m c p.i := by unfold Pu.at'; rw [hps, hpc]
    rw [step_2 hd hn hp]
    show Ga s ws0 c a (t.kept (p.step w).1) (p.step w).2
    rcases Pu.step_cases p w with ⟨e, -⟩ | ⟨-, ⟨hh, e⟩ | ⟨hh, hg0, e⟩ | ⟨hh, hg0, e⟩⟩
    · rw [hpd] at e; cases e
    · rw [e]
      have hws : (w.store p.c p.at' (putEn p.ep p.es p.ek)).ws = upW w.ws (mag s.p s.c s.m c p.i) (putEn t.pg t.sl t.pA) := by rw [store_ws, hat, hpe.1, hpe.2.1, hpe.2.2]
      have hxx : SX s ws0 t.pg t.sl t.pA c (way c) (some p.i) (w.store p.c p.at' (putEn p.ep p.es p.ek)).ws := by
        rw [hws]
        refine ⟨.inl rfl, ?_, fun q q0 q1 => (pg_mg hm hc.1 hc.2 i0 i1 q0 q1).trans (hx.pg' q q0 q1), fun q j q0 q1 j0 j1 hne => (sl_mg hm hc.1 hc.2 i0 i1 q0 q1 j0 j1).trans (hx.sl' q j q0 q1 j0 j1 hne), fun c' j c0 c1 j0 j1 => ?_⟩
        · rw [sl_mg hm hc.1 hc.2 i0 i1 p0 p1 s0 (by omega)]; exact hx.at'
        · rw [mg_mg hm hc.1 hc.2 i0 i1 c0 j0 j1]
          have hold : mgAt s w.ws c' j = mgAt s ws0 c' j := by
            rcases hx.mg c' j c0 c1 j0 j1 with g | ⟨-, g, -⟩
            · exact g
            · cases g
          by_cases he : c' = c ∧ j = p.i
          · rw [if_pos he]
            refine .inr ⟨he.1, by rw [he.2], rfl, ?_⟩
            rw [← hold, he.1, he.2]; exact hz hh
          · rw [if_neg he]; exact .inl hold
      show Ga s ws0 c a (t.kept { p with put := true, dn := true }) _
      unfold kept
      rw [if_pos rfl]
      refine .e rfl hg p1 (hxx.snd hm h.snd p0 p1 hk hA s0 s1 hc.1 hc.2 ht) fun n hn hn2 => ?_
      have hn : t.pg < n := hn
      rw [← ha]
      exact hxx.out (P := t.pg.toNat) hm (by omega) p1 (by omega) hn2 hk hA s0 s1 hc.1 hc.2 ht
    · rw [e]
      show Ga s ws0 c a (t.kept { p with hit := true }) _
      unfold kept
      rw [if_neg (by show ¬ p.put = true; rw [hpp]; decide), if_neg (by show ¬ p.dn = true; rw [hpd]; decide)]
      refine .s2 _ hd hn rfl hg hk hA s0 s1 ha ht hpe (fun _ => ?_) hx
      show mgAt s w.ws c p.i = 0
      rw [← mag_at hm hc.1 hc.2 i0 i1, ← hat]; exact hg0
    · rw [e]
      show Ga s ws0 c a (t.kept { p with i := p.i + 1, dn := decide (p.i + 1 = p.s.m) }) _
      unfold kept
      rw [if_neg (by show ¬ p.put = true; rw [hpp]; decide)]
      by_cases hl : p.i + 1 = p.s.m
      · rw [if_pos (by show decide (p.i + 1 = p.s.m) = true; exact decide_eq_true hl)]
        exact .s3 hd rfl hg hk hA s0 s1 ha ht hx
      · rw [if_neg (by show ¬ decide (p.i + 1 = p.s.m) = true; rw [decide_eq_false hl]; decide)]
        exact .s2 _ hd hn rfl hg hk hA s0 s1 ha ht hpe (fun h2 => by have h2 : p.hit = true := h2; rw [hh] at h2; cases h2) hx
  | s3 hd hn hg hk hA s0 s1 ha ht hx =>
    obtain ⟨p0, p1⟩ := h.pb hd
    have hAs := ok_super (pgK_ne (s := s) (q := t.pg) (x := pgAt s ws0 t.pg) (by rw [hk]; decide)) hk
    rw [hA] at hAs
    have hs4 := slots_four hAs.1 hAs.2.1
    rw [step_3 hd hn]
    have hws : (w.store t.c t.sat (opn t.pA)).ws = upW w.ws (slot s.p s.c s.m t.pg t.sl) (opn t.pA) := by rw [store_ws, hsat]
    have hxx : SX s ws0 t.pg t.sl t.pA c (opn t.pA) none (w.store t.c t.sat (opn t.pA)).ws := by
      rw [hws]
      refine ⟨.inr ⟨rfl, rfl⟩, ?_, fun q q0 q1 => (pg_sl hm p0 p1 s0 (by omega) q0 q1).trans (hx.pg' q q0 q1), fun q j q0 q1 j0 j1 hne => ?_, fun c' j c0 c1 j0 j1 => ?_⟩
      · rw [sl_sl hm p0 p1 s0 (by omega) p0 s0 (by omega), if_pos ⟨rfl, rfl⟩]
      · rw [sl_sl hm p0 p1 s0 (by omega) q0 j0 j1, if_neg hne]; exact hx.sl' q j q0 q1 j0 j1 hne
      · rw [mg_sl hm p0 p1 s0 (by omega) c0 j0]
        rcases hx.mg c' j c0 c1 j0 j1 with g | ⟨-, g, -⟩
        · exact .inl g
        · cases g
    refine .e rfl hg p1 (hxx.snd hm h.snd p0 p1 hk hA s0 s1 hc.1 hc.2 ht) fun n hn hn2 => ?_
    have hn : t.pg < n := hn
    rw [← ha]
    exact hxx.out (P := t.pg.toNat) hm (by omega) p1 (by omega) hn2 hk hA s0 s1 hc.1 hc.2 ht
  | e hd hg hp hs ho => rw [step_dn hd]; exact .e hd hg hp hs ho
theorem Al.init (hm : may s.p s.c s.m = true) (ho : w.of s) (c0 : 0 ≤ c) (c1 : c < s.c) (hs : Snd s w.ws) : Al s w.ws c a (new s c a) w := by
  refine ⟨ho, hm, ⟨new_wf .., rfl, rfl, rfl⟩, ⟨c0, c1⟩, fun hd => ?_, hs, ?_⟩
  · have h1 := (new_wf s c a).of hd; exact ⟨h1.2.2.2.1, h1.2.2.2.2.1⟩
  · cases hd : (new s c a).dn
    · exact .a hd rfl rfl
    · refine .n hd rfl rfl fun n hn z hz hza => ?_
      have hd' : (!there s.p s.c s.m a || decide (status s.p s.c s.m c < 0)) = true := hd
      rw [status_yes hm c0 c1, decide_eq_false (by omega)] at hd'
      have hth : there s.p s.c s.m a = false := by simpa using hd'
      obtain ⟨p, hp, hzp⟩ := blks_mem.1 hz
      have hin := blkPg_in hzp
      have : there s.p s.c s.m a = true := (there_iff _ _ _ _).2 ⟨hm, by omega, by omega⟩
      rw [hth] at this; cases this
end Gv
end Go.Ma
