/-
  Two that give the same block of a page: just one does, and where the block is behind that. Conditions: none.
-/
import Derived.Test.YtbehnodllajnjaaMaRemote
set_option linter.unusedVariables false
set_option linter.unusedSimpArgs false
namespace Go.Ma
open Go.Pl
namespace Gv
/-- What a giver of slot i of page 0 is, as long as it goes on. -/
structure Is (m k i B c : Int) (t : Gv) : Prop where
  wf : t.wf
  s : t.s = ⟨1, 2, m⟩
  c : t.c = c
  pg : t.pg = 0
  a : t.a = i * size k
/-- Its block. -/
def Rd (k i B : Int) (t : Gv) : Prop := t.pK = 2 ∧ t.pA = k ∧ t.pB = B ∧ t.sl = i
def Fr (k i B : Int) (t : Gv) : Prop := t.dn = false ∧ t.gv = false ∧ (t.nx = 0 ∨ (t.nx = 1 ∧ Rd k i B t))
def Lo (k i B : Int) (t : Gv) : Prop := Fr k i B t ∨ (t.dn = true ∧ t.gv = false)
/-- It has its block. -/
def Wi (m k i B c : Int) (t : Gv) (w : Wd) : Prop := t.gv = true ∧
  ((t.dn = false ∧ t.nx = 3 ∧ Rd k i B t ∧ (B = c → m = 0) ∧ w.get (3 + i) = way c) ∨
   (t.dn = true ∧ (B = c → m = 0) ∧ w.get (3 + i) = opn k) ∨
   (t.dn = false ∧ t.nx = 2 ∧ B = c ∧ m = 1 ∧ w.get (3 + i) = way c ∧ w.get (19 + c) = 0 ∧ ∃ p, t.put = some p ∧ p.s = ⟨1, 2, m⟩ ∧ p.c = c ∧ p.i = 0 ∧ p.ep = 0 ∧ p.es = i ∧ p.ek = k ∧ p.dn = false ∧ p.put = false) ∨
   (t.dn = true ∧ B = c ∧ m = 1 ∧ w.get (3 + i) = way c ∧ w.get (19 + c) = putEn 0 i k))
structure Dt (m k i B : Int) : Prop where
  dm : m = 0 ∨ m = 1
  dk : 0 ≤ k ∧ k ≤ 3
  di : 0 ≤ i ∧ i < slots k
  dB : B = 0 ∨ B = 1
structure Two (m k i B ca cb : Int) (a b : Gv) (w : Wd) : Prop where
  of : w.of ⟨1, 2, m⟩
  d : Dt m k i B
  ch : (ca = 0 ∧ cb = 1) ∨ (ca = 1 ∧ cb = 0)
  ia : Is m k i B ca a
  ib : Is m k i B cb b
  pg : w.get 2 = super k B
  ph : (w.get (3 + i) = taken k ∧ (∀ c, c = 0 ∨ c = 1 → w.get (19 + c) = 0) ∧ Fr k i B a ∧ Fr k i B b) ∨ (Wi m k i B ca a w ∧ Lo k i B b) ∨ (Wi m k i B cb b w ∧ Lo k i B a)
variable {m k i B ca cb c : Int} {a b t : Gv} {w : Wd}
theorem Two.symm (h : Two m k i B ca cb a b w) : Two m k i B cb ca b a w :=
  ⟨h.of, h.d, h.ch.symm.elim (fun h => .inl ⟨h.2, h.1⟩) (fun h => .inr ⟨h.2, h.1⟩), h.ib, h.ia, h.pg, by
    rcases h.ph with ⟨h1, h2, h3, h4⟩ | h1 | h1
    · exact .inl ⟨h1, h2, h4, h3⟩
    · exact .inr (.inr h1)
    · exact .inr (.inl h1)⟩
theorem Dt.may (h : Dt m k i B) : Go.Pl.may 1 2 m = true := (may_iff _ _ _).2 (by have := h.dm; omega)
theorem Dt.sl (h : Dt m k i B) : 0 ≤ i ∧ i < 16 := by have := slots_bd k; have := h.di; omega
theorem Dt.off (h : Dt m k i B) : 0 ≤ i * size k ∧ i * size k < 64 ∧ (i * size k) % size k = 0 ∧ i * size k / size k = i := by
  obtain ⟨h1, h2⟩ := h.di
  rcases (by have := h.dk; omega : k = 0 ∨ k = 1 ∨ k = 2 ∨ k = 3) with rfl | rfl | rfl | rfl <;> simp only [size, slots] at h1 h2 ⊢ <;> simp at h2 ⊢ <;> omega
theorem Is.keep (h : Is m k i B c t) (hw : ∀ j, U (w.ws j)) : Is m k i B c (t.step w).1 := by
  have hk := step_keeps (w := w) h.wf
  exact ⟨step_wf h.wf hw, hk.1.trans h.s, hk.2.1.trans h.c, hk.2.2.2.trans h.pg, hk.2.2.1.trans h.a⟩
theorem Is.pat (h : Is m k i B c t) (d : Dt m k i B) : t.pat = 2 := by
  unfold Gv.pat; rw [h.s, h.pg]; exact (page_yes d.may (by decide) (by decide)).trans (by decide)
theorem Is.sat (h : Is m k i B c t) (d : Dt m k i B) (hs : t.sl = i) : t.sat = 3 + i := by
  have := d.sl
  unfold Gv.sat; rw [h.s, h.pg, hs]
  have e : slot 1 2 m 0 i = 2 + 1 + 0 * 16 + i := slot_yes d.may (by decide) (by decide) (by omega) (by omega)
  show slot 1 2 m 0 i = _
  omega
/-- A look at the page's word. -/
theorem Is.look (h : Is m k i B c t) (d : Dt m k i B) (hp : w.get 2 = super k B) : Rd k i B (t.look w) ∧ (t.look w).dn = t.dn ∧ (t.look w).gv = t.gv ∧ (t.look w).nx = 1 := by
  have hB : 0 ≤ B ∧ B < 2 := by have := d.dB; omega
  have hpg : page 1 2 m 0 = 2 := (page_yes d.may (by decide) (by decide)).trans (by decide)
  obtain ⟨r1, r2, r3, r4⟩ := read_super (s := ⟨1, 2, m⟩) (q := 0) (k := k) (c := B) (by show 0 ≤ page 1 2 m 0; omega) d.dk hB (by omega)
  obtain ⟨o1, o2, o3, o4⟩ := d.off
  have ho : t.off = i * size k := by
    have h1 : there 1 2 m (i * size k) = true := (there_iff _ _ _ _).2 ⟨d.may, by omega, by omega⟩
    unfold off; rw [h.s, h.a]
    show so 1 2 m (i * size k) = _
    unfold so; rw [if_pos h1]; omega
  have hL : t.isL w = false := by unfold isL; rw [h.pat d, hp, h.s, h.pg, r2]; simp
  have hS : t.isS w = true := by unfold isS; rw [h.pat d, hp, h.s, h.pg, r1, r2, r3, ho, o3]; rfl
  have e : t.look w = { t.read w with sl := t.off / size (pgA t.s t.pg (w.get t.pat)), ms := true } := by unfold Gv.look; rw [hL, if_neg (by decide), if_pos hS]
  rw [e]
  refine ⟨⟨?_, ?_, ?_, ?_⟩, rfl, rfl, rfl⟩
  · show pgK t.s t.pg (w.get t.pat) = 2; rw [h.pat d, hp, h.s, h.pg, r2]
  · show pgA t.s t.pg (w.get t.pat) = k; rw [h.pat d, hp, h.s, h.pg, r3]
  · show pgB t.s t.pg (w.get t.pat) = B; rw [h.pat d, hp, h.s, h.pg, r4]
  · show t.off / size (pgA t.s t.pg (w.get t.pat)) = i; rw [h.pat d, hp, h.s, h.pg, r3, ho, o4]
theorem way_ne (hk : 0 ≤ k ∧ k ≤ 3) (hc : 0 ≤ c ∧ c ≤ 1) : way c ≠ taken k ∧ opn k ≠ taken k := by
  unfold way taken opn putSl; rw [if_pos (by omega), if_pos (by omega), if_pos (by omega)]; omega
/-- A step of one that has not its block, where the other one has. -/
theorem lost_step (h : Is m k i B c t) (d : Dt m k i B) (hp : w.get 2 = super k B) (hx : w.get (3 + i) ≠ taken k) (hl : Lo k i B t) : Lo k i B (t.step w).1 ∧ ∀ q, 0 ≤ q → (t.step w).2.get q = w.get q := by
  rcases hl with ⟨hd, hg, hn | ⟨hn, hr⟩⟩ | ⟨hd, hg⟩
  · rw [step_0 hd hn]
    obtain ⟨l1, l2, l3, l4⟩ := h.look (w := w) d hp
    exact ⟨.inl ⟨l2.trans hd, l3.trans hg, .inr ⟨l4, l1⟩⟩, fun _ _ => rfl⟩
  · rw [step_1S hd hn hr.1]
    have hs := h.sat d hr.2.2.2
    have hx' : ¬ w.get t.sat = taken t.pA := by rw [hs, hr.2.1]; exact hx
    refine ⟨.inr ?_, fun q hq => ?_⟩
    · show (t.claimS w).dn = true ∧ (t.claimS w).gv = false
      unfold claimS
      rw [decide_eq_false hx']
      split <;> exact ⟨rfl, rfl⟩
    · show (w.swap t.c t.sat (taken t.pA) (way t.c)).get q = _
      rw [hs, get_swap (by have := d.sl; omega) hq, hr.2.1, if_neg hx]
      split
      · rename_i e; rw [e]
      · rfl
  · rw [step_dn hd]; exact ⟨.inr ⟨hd, hg⟩, fun _ _ => rfl⟩
theorem mag_place (d : Dt m k i B) (hm : m = 1) (hc : 0 ≤ c ∧ c ≤ 1) : mag 1 2 m c 0 = 19 + c := by
  rw [mag_yes d.may (by omega) (by omega) (by decide) (by omega), hm]; omega
/-- A step of one that has its block. -/
theorem won_step (h : Is m k i B c t) (d : Dt m k i B) (hc : 0 ≤ c ∧ c ≤ 1) (hw : Wi m k i B c t w) : Wi m k i B c (t.step w).1 (t.step w).2 ∧ (t.step w).2.get 2 = w.get 2 := by
  have si := d.sl
  obtain ⟨hg, hw⟩ := hw
  rcases hw with ⟨hd, hn, hr, hB, hx⟩ | ⟨hd, hB, hx⟩ | ⟨hd, hn, hB, hm, hx, hz, p, hp, p1, p2, p3, p4, p5, p6, p7, p8⟩ | ⟨hd, hB, hm, hx, hz⟩
  · rw [step_3 hd hn]
    have hs := h.sat d hr.2.2.2
    refine ⟨⟨hg, .inr (.inl ⟨rfl, hB, ?_⟩)⟩, ?_⟩
    · show (w.store t.c t.sat (opn t.pA)).get (3 + i) = _
      rw [hs, get_store (by omega) (by omega), if_pos rfl, hr.2.1]
    · show (w.store t.c t.sat (opn t.pA)).get 2 = _
      rw [hs, get_store (by omega) (by omega), if_neg (by omega)]
  · rw [step_dn hd]; exact ⟨⟨hg, .inr (.inl ⟨hd, hB, hx⟩)⟩, rfl⟩
  · rw [step_2 hd hn hp]
    have hat : p.at' = 19 + c := by unfold Pu.at'; rw [p1, p2, p3]; exact mag_place d hm hc
    cases hh : p.hit
    · have e : p.step w = ({ p with hit := true }, w.load p.c p.at') := by unfold Pu.step; rw [p7, hh, hat, hz]; rfl
      rw [e]
      have e2 : t.kept { p with hit := true } = { t with put := some { p with hit := true } } := by unfold kept; rw [show ({ p with hit := true } : Pu).put = false from p8, show ({ p with hit := true } : Pu).dn = false from p7]; rfl
      refine ⟨?_, rfl⟩
      show Wi m k i B c (t.kept { p with hit := true }) (w.load p.c p.at')
      rw [e2]
      exact ⟨hg, .inr (.inr (.inl ⟨hd, hn, hB, hm, hx, hz, _, rfl, p1, p2, p3, p4, p5, p6, p7, p8⟩))⟩
    · have e : p.step w = ({ p with put := true, dn := true }, w.store p.c p.at' (putEn p.ep p.es p.ek)) := by unfold Pu.step; rw [p7, hh]; rfl
      rw [e]
      have e2 : t.kept { p with put := true, dn := true } = { t with put := some { p with put := true, dn := true }, dn := true } := rfl
      refine ⟨?_, ?_⟩
      · show Wi m k i B c (t.kept { p with put := true, dn := true }) (w.store p.c p.at' (putEn p.ep p.es p.ek))
        rw [e2]
        refine ⟨hg, .inr (.inr (.inr ⟨rfl, hB, hm, ?_, ?_⟩))⟩
        · rw [hat, get_store (by omega) (by omega), if_neg (by omega)]; exact hx
        · rw [hat, get_store (by omega) (by omega), if_pos rfl, p4, p5, p6]
      · show (w.store p.c p.at' (putEn p.ep p.es p.ek)).get 2 = _
        rw [hat, get_store (by omega) (by omega), if_neg (by omega)]
  · rw [step_dn hd]; exact ⟨⟨hg, .inr (.inr (.inr ⟨hd, hB, hm, hx, hz⟩))⟩, rfl⟩
theorem Wi.other {w' : Wd} (hw : Wi m k i B c t w) (h1 : w'.get (3 + i) = w.get (3 + i)) (h2 : w'.get (19 + c) = w.get (19 + c)) : Wi m k i B c t w' := by
  unfold Wi at hw ⊢; rw [h1, h2]; exact hw
theorem Wi.ne (hw : Wi m k i B c t w) (hk : 0 ≤ k ∧ k ≤ 3) (hc : 0 ≤ c ∧ c ≤ 1) : w.get (3 + i) ≠ taken k := by
  obtain ⟨n1, n2⟩ := way_ne hk hc
  rcases hw.2 with ⟨-, -, -, -, e⟩ | ⟨-, -, e⟩ | ⟨-, -, -, -, e, -⟩ | ⟨-, -, -, e, -⟩ <;> rw [e] <;> assumption
theorem Two.step (h : Two m k i B ca cb a b w) : Two m k i B ca cb (a.step w).1 b (a.step w).2 := by
  have si := h.d.sl
  have hca : 0 ≤ ca ∧ ca ≤ 1 := by have := h.ch; omega
  have hcb : 0 ≤ cb ∧ cb ≤ 1 := by have := h.ch; omega
  have ho : (a.step w).2.of ⟨1, 2, m⟩ := step_of h.ia.wf h.of
  suffices hh : (a.step w).2.get 2 = w.get 2 ∧ (((a.step w).2.get (3 + i) = taken k ∧ (∀ c, c = 0 ∨ c = 1 → (a.step w).2.get (19 + c) = 0) ∧ Fr k i B (a.step w).1 ∧ Fr k i B b) ∨ (Wi m k i B ca (a.step w).1 (a.step w).2 ∧ Lo k i B b) ∨ (Wi m k i B cb b (a.step w).2 ∧ Lo k i B (a.step w).1)) from
    ⟨ho, h.d, h.ch, h.ia.keep h.of.u, h.ib, hh.1.trans h.pg, hh.2⟩
  rcases h.ph with ⟨hx, hz, ⟨hd, hg, hn | ⟨hn, hr⟩⟩, hb⟩ | ⟨hw, hl⟩ | ⟨hw, hl⟩
  · rw [step_0 hd hn]
    obtain ⟨l1, l2, l3, l4⟩ := h.ia.look (w := w) h.d h.pg
    exact ⟨rfl, .inl ⟨hx, hz, ⟨l2.trans hd, l3.trans hg, .inr ⟨l4, l1⟩⟩, hb⟩⟩
  · rw [step_1S hd hn hr.1]
    have hs := h.ia.sat h.d hr.2.2.2
    have hx' : w.get a.sat = taken a.pA := by rw [hs, hr.2.1]; exact hx
    have G : ∀ q, 0 ≤ q → (w.swap a.c a.sat (taken a.pA) (way a.c)).get q = if q = 3 + i then way ca else w.get q := fun q hq => by
      rw [hs, get_swap (by omega) hq, hr.2.1, if_pos hx, h.ia.c]
    have e1 : (w.swap a.c a.sat (taken a.pA) (way a.c)).get (3 + i) = way ca := by rw [G _ (by omega), if_pos rfl]
    refine ⟨by show (w.swap a.c a.sat (taken a.pA) (way a.c)).get 2 = _; rw [G _ (by decide), if_neg (by omega)], .inr (.inl ⟨?_, .inl hb⟩)⟩
    show Wi m k i B ca (a.claimS w) (w.swap a.c a.sat (taken a.pA) (way a.c))
    unfold claimS
    rw [decide_eq_true hx']
    split
    · rename_i hown
      have hBc : B = ca := by rw [← hr.2.2.1, hown]; exact h.ia.c
      have hpn : a.pnew = Pu.new ⟨1, 2, m⟩ ca 0 i k := by unfold pnew; rw [h.ia.s, h.ia.c, h.ia.pg, hr.2.2.2, hr.2.1]
      rcases h.d.dm with hm | hm
      · have e2 : a.pnew.dn = true := by rw [hpn, hm]; show (_ || decide ((0 : Int) = 0)) = true; simp
        rw [e2]
        exact ⟨rfl, .inl ⟨rfl, rfl, hr, fun _ => hm, e1⟩⟩
      · have e2 : a.pnew.dn = false := by
          rw [hpn]
          have h1 : good ⟨1, 2, m⟩ ca k = true := by
            have hst : ¬ status 1 2 m ca < 0 := by rw [status_lt0]; exact fun hh => hh ⟨h.d.may, by omega, by omega⟩
            unfold good
            have hsl := h.d.di
            rw [decide_eq_true (by show 0 ≤ status 1 2 m ca; omega), decide_eq_true (by omega : 0 < slots k)]; rfl
          have h2 : page 1 2 m 0 = 2 := (page_yes h.d.may (by decide) (by decide)).trans (by decide)
          show (!(good ⟨1, 2, m⟩ ca k && decide (0 ≤ page 1 2 m 0) && decide (0 ≤ i) && decide (i < slots k)) || decide (m = 0)) = false
          rw [h1, h2, decide_eq_true h.d.di.1, decide_eq_true h.d.di.2, hm]; rfl
        rw [e2]
        refine ⟨rfl, .inr (.inr (.inl ⟨rfl, rfl, hBc, hm, e1, ?_, a.pnew, rfl, by rw [hpn]; rfl, by rw [hpn]; rfl, by rw [hpn]; rfl, by rw [hpn]; rfl, by rw [hpn]; rfl, by rw [hpn]; rfl, e2, rfl⟩))⟩
        rw [G _ (by omega), if_neg (by omega)]; exact hz ca (by omega)
    · rename_i hown
      have hBc : B ≠ ca := fun he => hown (by rw [hr.2.2.1, he]; exact h.ia.c.symm)
      exact ⟨rfl, .inl ⟨rfl, rfl, hr, fun he => absurd he hBc, e1⟩⟩
  · obtain ⟨h1, h2⟩ := won_step h.ia h.d hca hw
    exact ⟨h2, .inr (.inl ⟨h1, hl⟩)⟩
  · obtain ⟨h1, h2⟩ := lost_step h.ia h.d h.pg (hw.ne h.d.dk hcb) hl
    exact ⟨h2 2 (by decide), .inr (.inr ⟨hw.other (h2 _ (by omega)) (h2 _ (by omega)), h1⟩)⟩
theorem Two.step2 (h : Two m k i B ca cb a b w) : Two m k i B ca cb a (b.step w).1 (b.step w).2 := h.symm.step.symm
theorem Two.init (d : Dt m k i B) (ho : w.of ⟨1, 2, m⟩) (hp : w.get 2 = super k B) (hx : w.get (3 + i) = taken k) (hz : ∀ c, c = 0 ∨ c = 1 → w.get (19 + c) = 0) : Two m k i B 0 1 (new ⟨1, 2, m⟩ 0 (i * size k)) (new ⟨1, 2, m⟩ 1 (i * size k)) w := by
  obtain ⟨o1, o2, -, -⟩ := d.off
  have h1 : there 1 2 m (i * size k) = true := (there_iff _ _ _ _).2 ⟨d.may, by omega, by omega⟩
  have h2 : sp 1 2 m (i * size k) = 0 := by unfold sp; rw [if_pos h1]; omega
  have I : ∀ c : Int, 0 ≤ c ∧ c ≤ 1 → Is m k i B c (new ⟨1, 2, m⟩ c (i * size k)) ∧ Fr k i B (new ⟨1, 2, m⟩ c (i * size k)) := fun c hc => by
    have h3 : ¬ status 1 2 m c < 0 := by rw [status_lt0]; exact fun hh => hh ⟨d.may, by omega, by omega⟩
    refine ⟨⟨new_wf .., rfl, rfl, h2, rfl⟩, ?_, rfl, .inl rfl⟩
    show (!there 1 2 m (i * size k) || decide (status 1 2 m c < 0)) = false
    rw [h1, decide_eq_false h3]; rfl
  exact ⟨ho, d, .inl ⟨rfl, rfl⟩, (I 0 (by decide)).1, (I 1 (by decide)).1, hp, .inl ⟨hx, hz, (I 0 (by decide)).2, (I 1 (by decide)).2⟩⟩
/-- Both are done. -/
theorem Two.one (h : Two m k i B 0 1 a b w) (da : a.dn = true) (db : b.dn = true) :
    (a.gv = true ∧ b.gv = false ∧ ((0 = B ∧ m = 1 ∧ w.get (3 + i) = way 0 ∧ w.get 19 = putEn 0 i k) ∨ (¬ (0 = B ∧ m = 1) ∧ w.get (3 + i) = opn k))) ∨
    (b.gv = true ∧ a.gv = false ∧ ((1 = B ∧ m = 1 ∧ w.get (3 + i) = way 1 ∧ w.get 20 = putEn 0 i k) ∨ (¬ (1 = B ∧ m = 1) ∧ w.get (3 + i) = opn k))) := by
  have L : ∀ {t : Gv}, t.dn = true → Lo k i B t → t.gv = false := fun hd hl => by
    rcases hl with ⟨h1, -⟩ | ⟨-, h1⟩
    · rw [hd] at h1; cases h1
    · exact h1
  have Wn : ∀ {t : Gv} {c : Int}, t.dn = true → Wi m k i B c t w → (c = B ∧ m = 1 ∧ w.get (3 + i) = way c ∧ w.get (19 + c) = putEn 0 i k) ∨ (¬ (c = B ∧ m = 1) ∧ w.get (3 + i) = opn k) := fun hd hw => by
    rcases hw.2 with ⟨e, -⟩ | ⟨-, e1, e2⟩ | ⟨e, -⟩ | ⟨-, e1, e2, e3, e4⟩
    · rw [hd] at e; cases e
    · exact .inr ⟨fun ⟨z1, z2⟩ => by have := e1 z1.symm; omega, e2⟩
    · rw [hd] at e; cases e
    · exact .inl ⟨e1.symm, e2, e3, e4⟩
  rcases h.ph with ⟨-, -, ⟨e, -⟩, -⟩ | ⟨h1, h2⟩ | ⟨h1, h2⟩
  · rw [da] at e; cases e
  · exact .inl ⟨h1.1, L db h2, Wn da h1⟩
  · exact .inr ⟨h1.1, L da h2, Wn db h1⟩
end Gv
end Go.Ma
