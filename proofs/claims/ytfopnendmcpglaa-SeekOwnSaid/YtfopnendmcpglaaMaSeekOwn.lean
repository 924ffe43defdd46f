/-
  Who has a slot of the class in its magazine takes that; who has none binds the first page. Conditions: none.
-/
import Derived.Test.YtfopnendmcpglaaMaSeek2
import Derived.Test.YtfopnendmcpglaaMaFr
import Derived.Test.YtfopnendmcpglaaMaMany
set_option linter.unusedVariables false
set_option linter.unusedSectionVars false
set_option linter.unusedSimpArgs false
namespace Go.Ma
open Go.Pl
namespace Sk
variable {n k f : Int} {E B : Int → Int} {t : Sk} {w : Wd}
/-- The word of an entry. -/
def ownV (E B : Int → Int) (j : Int) : Int := if E j < 4 then putEn (j % 4) (B j) (E j) else 0
/-- The words, while they are only read. -/
structure Wok (n : Int) (E B : Int → Int) (w : Wd) : Prop where
  pg : ∀ q, 0 ≤ q → q < 4 → w.get (1 + q) = 0
  mg : ∀ j, 0 ≤ j → j < n → w.get (69 + j) = ownV E B j
def NoK (k : Int) (E : Int → Int) (i : Int) : Prop := ∀ j, 0 ≤ j → j < i → E j ≠ k
inductive Own (n k f : Int) (E B : Int → Int) (t : Sk) (w : Wd) : Prop
  | tk (m : Tk) (e : t.nw = .tk m) (hd : t.dn = false) (i0 : 0 ≤ m.i) (i1 : m.i < n) (hh : m.hit = false) (hs : w.st = m.i) (hw : Wok n E B w) (no : NoK k E m.i)
  | ht (m : Tk) (e : t.nw = .tk m) (hd : t.dn = false) (i0 : 0 ≤ m.i) (i1 : m.i < n) (hh : m.hit = true) (hs : w.st = m.i + 1) (he : E m.i = k) (no : NoK k E m.i) (hp : m.ep = m.i % 4) (hb : m.es = B m.i)
  | sc (m : Sc) (e : t.nw = .sc m) (hd : t.dn = false) (q0 : 0 ≤ m.many) (q1 : m.many < 4) (hx : m.nx = 0) (hi : m.i = 0) (hs : w.st = n + m.many) (hw : Wok n E B w) (no : NoK k E n)
  | p1 (m : Pc) (e : t.nw = .pc m) (hd : t.dn = false) (hm : m.many = 0) (hx : m.em = false) (hs : w.st = n + 4) (hw : Wok n E B w) (no : NoK k E n)
  | p2 (m : Pc) (e : t.nw = .pc m) (hd : t.dn = false) (hm : m.many = 0) (hx : m.em = true) (hs : w.st = n + 5) (hw : Wok n E B w) (no : NoK k E n)
  | b1 (m : Bi) (e : t.nw = .bi m) (hd : t.dn = false) (hx : m.bd = false) (i0 : 0 ≤ m.i) (i1 : m.i ≤ 16) (hs : w.st = n + 6 + m.i) (hp : t.pg = f) (no : NoK k E n)
  | b2 (m : Bi) (e : t.nw = .bi m) (hd : t.dn = false) (hx : m.bd = true) (i0 : 0 < m.i) (i1 : m.i < slots k) (hs : w.st = n + 23 + (slots k - 1 - m.i)) (hp : t.pg = f) (no : NoK k E n)
  | e1 (at' : Int) (hd : t.dn = true) (hf : t.fd = true) (a0 : 0 ≤ at') (a1 : at' < n) (he : E at' = k) (no : NoK k E at') (hp : t.pg = at' % 4) (hl : t.sl = B at') (hs : w.st = at' + 2) (hg : w.get (69 + at') = 0)
  | e2 (hd : t.dn = true) (hf : t.fd = true) (hp : t.pg = f) (hl : t.sl = 0) (hs : w.st = n + 22 + slots k) (no : NoK k E n)
structure One (n k f : Int) (E B : Int → Int) (t : Sk) (w : Wd) : Prop where
  wf : t.wf
  of : w.of ⟨4, 1, n⟩
  n8 : 0 ≤ n ∧ n ≤ 8
  s : t.s = ⟨4, 1, n⟩
  c : t.c = 0
  kk : t.k = k ∧ 0 ≤ k ∧ k < 4
  ff : t.f = f ∧ 0 ≤ f ∧ f < 4
  ee : ∀ j, 0 ≤ E j ∧ E j ≤ 4 ∧ 0 ≤ B j ∧ B j ≤ 1
  ph : Own n k f E B t w
theorem ok4 (h : 0 ≤ n ∧ n ≤ 8) : may 4 1 n = true := (may_iff _ _ _).2 ⟨by decide, by decide, by decide, by decide, h.1, h.2⟩
/-- What an entry says. -/
theorem ownV_ok (hn : 0 ≤ n ∧ n ≤ 8) (he : ∀ j, 0 ≤ E j ∧ E j ≤ 4 ∧ 0 ≤ B j ∧ B j ≤ 1) {j : Int} (j0 : 0 ≤ j) (h4 : E j < 4) : okEn ⟨4, 1, n⟩ (ownV E B j) = true ∧ enP ⟨4, 1, n⟩ (ownV E B j) = j % 4 ∧ enS ⟨4, 1, n⟩ (ownV E B j) = B j ∧ enK ⟨4, 1, n⟩ (ownV E B j) = E j := by
  obtain ⟨e0, e1, b0, b1⟩ := he j
  have jm : 0 ≤ j % 4 ∧ j % 4 < 4 := by omega
  have hv : ownV E B j = 1 + 16 * (j % 4) + 4096 * B j + 1048576 * E j := by unfold ownV putEn; rw [if_pos h4, if_pos (by omega)]
  have h1 : pt (ownV E B j) 16 = j % 4 := by rw [hv]; unfold pt; omega
  have h2 : pt (ownV E B j) 4096 = B j := by rw [hv]; unfold pt; omega
  have h3 : pt (ownV E B j) 1048576 = E j := by rw [hv]; unfold pt; omega
  have hsl : B j < slots (E j) := by
    rcases (by omega : E j = 0 ∨ E j = 1 ∨ E j = 2 ∨ E j = 3) with h | h | h | h <;> rw [h] <;> unfold slots <;> simp <;> omega
  have hpg : 0 ≤ page 4 1 n (j % 4) := by rw [page_yes (ok4 hn) jm.1 jm.2]; omega
  have ok : okEn ⟨4, 1, n⟩ (ownV E B j) = true := by
    unfold okEn
    rw [h1, h2, h3]
    have e : putEn (j % 4) (B j) (E j) = ownV E B j := by unfold ownV; rw [if_pos h4]
    rw [decide_eq_true e, decide_eq_true hpg, decide_eq_true hsl]; rfl
  refine ⟨ok, ?_, ?_, ?_⟩
  · unfold enP; rw [if_pos ok, h1]
  · unfold enS; rw [if_pos ok, h2]
  · unfold enK; rw [if_pos ok, h3]
theorem ownV_no (he : ∀ j, 0 ≤ E j ∧ E j ≤ 4 ∧ 0 ≤ B j ∧ B j ≤ 1) {j : Int} (h4 : ¬ E j < 4) : okEn ⟨4, 1, n⟩ (ownV E B j) = false := by
  have : ownV E B j = 0 := by unfold ownV; rw [if_neg h4]
  rw [this]
  have e : decide (putEn (pt 0 16) (pt 0 4096) (pt 0 1048576) = 0) = false := by decide
  unfold okEn
  rw [e]; rfl
theorem set_go (t : Sk) {m : Nw} (h : m.dn = false) : t.set m = { t with nw := m } := by unfold set; rw [h]; rfl
theorem set_af (t : Sk) {m : Nw} (h : m.dn = true) : t.set m = ({ t with nw := m } : Sk).after := by unfold set; rw [h]; rfl
theorem One.step (h : One n k f E B t w) : One n k f E B (t.step w).1 (t.step w).2 := by
  have hn := h.n8
  have hm := ok4 hn
  have hkp := step_kp (t := t) (w := w)
  have hk := h.kk
  have hf := h.ff
  have hsk : 2 ≤ slots k ∧ slots k ≤ 16 := by
    rcases (by omega : k = 0 ∨ k = 1 ∨ k = 2 ∨ k = 3) with h | h | h | h <;> rw [h] <;> decide
  suffices hh : Own n k f E B (t.step w).1 (t.step w).2 from
    ⟨step_wf h.wf, step_of h.of, hn, hkp.1.trans h.s, hkp.2.1.trans h.c, ⟨hkp.2.2.1.trans hk.1, hk.2⟩, ⟨hkp.2.2.2.trans hf.1, hf.2⟩, h.ee, hh⟩
  cases h.ph with
  | tk m e hd i0 i1 hhit hs hw no =>
    obtain ⟨ho, hmd⟩ := h.wf.nw hd
    rw [e] at ho hmd
    have hmd : m.dn = false := hmd
    obtain ⟨o1, o2, o3, o4, -⟩ := ho
    have hat : m.at' = 69 + m.i := by
      unfold Tk.at'
      rw [o2, h.s, o3, h.c, mag_yes hm (by decide) (by decide) i0 (by show m.i < n; exact i1)]
      show (1 : Int) + 4 + 4 * 16 + 0 * n + m.i = 69 + m.i; omega
    have hg : w.get m.at' = ownV E B m.i := by rw [hat]; exact hw.mg m.i i0 i1
    have hst : ∀ c a, (w.load c a).st = m.i + 1 := fun c a => by show w64 (w.st + 1) = _; rw [hs]; exact w64_eq (by omega) (by omega)
    rw [step_tk hd e]
    by_cases hEk : E m.i = k
    · have hE4 : E m.i < 4 := by omega
      obtain ⟨v1, v2, v3, v4⟩ := ownV_ok hn h.ee i0 hE4
      have hhits : m.hits w = true := by
        unfold Tk.hits
        rw [hg, o2, h.s, v1, v4, o4, hk.1, decide_eq_true hEk]; rfl
      have es : m.step w = ({ m with ep := enP m.s (w.get m.at'), es := enS m.s (w.get m.at'), ek := enK m.s (w.get m.at'), hit := true }, w.load m.c m.at') := by
        unfold Tk.step; rw [if_neg (by rw [hmd]; decide), if_neg (by rw [hhit]; decide), if_pos hhits]
      rw [es, set_go _ (by exact hmd)]
      exact .ht _ rfl hd i0 i1 rfl (hst _ _) hEk no (by show enP m.s (w.get m.at') = m.i % 4; rw [hg, o2, h.s, v2]) (by show enS m.s (w.get m.at') = B m.i; rw [hg, o2, h.s, v3])
    · have hhits : m.hits w = false := by
        unfold Tk.hits
        rw [hg, o2, h.s]
        by_cases hE4 : E m.i < 4
        · obtain ⟨v1, v2, v3, v4⟩ := ownV_ok hn h.ee i0 hE4
          rw [v1, v4, o4, hk.1, decide_eq_false hEk]; rfl
        · rw [ownV_no h.ee hE4]; rfl
      have es : m.step w = ({ m with i := m.i + 1, dn := decide (m.i + 1 = m.s.m) }, w.load m.c m.at') := by
        unfold Tk.step; rw [if_neg (by rw [hmd]; decide), if_neg (by rw [hhit]; decide), if_neg (by rw [hhits]; decide)]
      have hno : NoK k E (m.i + 1) := fun j j0 j1 => by
        by_cases ej : j = m.i
        · subst ej; exact hEk
        · exact no j j0 (by omega)
      have hsm : m.s.m = n := by rw [o2, h.s]
      rw [es]
      by_cases hl : m.i + 1 = n
      · rw [set_af _ (by show decide (m.i + 1 = m.s.m) = true; rw [hsm]; exact decide_eq_true hl)]
        have hfd : m.fd = false := (o1.of hmd |> fun _ => by
          have := (h.wf.nw hd).1; rw [e] at this; exact this.2.2.2.2.2 hmd)
        have ea : ({ t with nw := .tk { m with i := m.i + 1, dn := decide (m.i + 1 = m.s.m) } } : Sk).after = { t with nw := .sc (Sc.new t.s t.c t.k t.f) } := by
          show (if m.fd then _ else _ : Sk) = _; rw [hfd]; rfl
        rw [ea]
        refine .sc _ rfl hd (Int.le_refl _) (by show (0 : Int) < 4; decide) rfl rfl ?_ ⟨hw.pg, hw.mg⟩ (by rw [← hl]; exact hno)
        rw [hst]; show m.i + 1 = n + 0; omega
      · rw [set_go _ (by show decide (m.i + 1 = m.s.m) = false; rw [hsm]; exact decide_eq_false hl)]
        exact .tk _ rfl hd (by show 0 ≤ m.i + 1; omega) (by show m.i + 1 < n; omega) hhit (hst _ _) ⟨hw.pg, hw.mg⟩ hno
  | ht m e hd i0 i1 hhit hs he no hp hb =>
    obtain ⟨ho, hmd⟩ := h.wf.nw hd
    rw [e] at ho hmd
    have hmd : m.dn = false := hmd
    obtain ⟨o1, o2, o3, o4, -⟩ := ho
    have hat : m.at' = 69 + m.i := by
      unfold Tk.at'
      rw [o2, h.s, o3, h.c, mag_yes hm (by decide) (by decide) i0 (by show m.i < n; exact i1)]
      show (1 : Int) + 4 + 4 * 16 + 0 * n + m.i = 69 + m.i; omega
    have es : m.step w = ({ m with fd := true, dn := true }, w.store m.c m.at' 0) := by
      unfold Tk.step; rw [if_neg (by rw [hmd]; decide), if_pos hhit]
    rw [step_tk hd e, es, set_af _ rfl]
    show Own n k f E B (({ t with nw := .tk { m with fd := true, dn := true } } : Sk).fin m.ep m.es) (w.store m.c m.at' 0)
    refine .e1 m.i rfl rfl i0 i1 he no hp hb ?_ ?_
    · show w64 (w.st + 1) = _; rw [hs, w64_eq (by omega) (by omega)]; omega
    · rw [hat, get_store (by omega) (by omega), if_pos rfl]
  | sc m e hd q0 q1 hx hi hs hw no =>
    obtain ⟨ho, hmd⟩ := h.wf.nw hd
    rw [e] at ho hmd
    have hmd : m.dn = false := hmd
    obtain ⟨o1, o2, o3, o4, o5, -, o7, -⟩ := ho
    have hq : 0 ≤ m.pg ∧ m.pg < 4 := by unfold Sc.pg; rw [o2, h.s]; show 0 ≤ (m.f + m.many) % 4 ∧ (m.f + m.many) % 4 < 4; omega
    have hpat : m.pat = 1 + m.pg := by unfold Sc.pat; rw [o2, h.s]; exact page_yes hm hq.1 hq.2
    have hmine : m.mine w = false := by
      unfold Sc.mine
      rw [hpat, hw.pg _ hq.1 hq.2, pgK_zero]; simp
    have es : m.step w = (m.turn, w.load m.c m.pat) := by
      unfold Sc.step; rw [if_neg (by rw [hmd]; decide), if_pos hx, if_neg (by rw [hmine]; decide)]
    have hst : ∀ c a, (w.load c a).st = n + m.many + 1 := fun c a => by show w64 (w.st + 1) = _; rw [hs]; exact w64_eq (by omega) (by omega)
    have hsp : m.s.p = 4 := by rw [o2, h.s]
    rw [step_sc hd e, es]
    by_cases hl : m.many + 1 = 4
    · rw [set_af _ (by show decide (m.many + 1 = m.s.p) = true; rw [hsp]; exact decide_eq_true hl)]
      have ea : ({ t with nw := .sc m.turn } : Sk).after = { t with nw := .pc (Pc.new t.s t.c t.f) } := by
        show (if m.turn.fd then _ else _ : Sk) = _; rw [show m.turn.fd = false from o7 hmd]; rfl
      rw [ea]
      exact .p1 _ rfl hd rfl rfl (by rw [hst]; omega) ⟨hw.pg, hw.mg⟩ no
    · rw [set_go _ (by show decide (m.many + 1 = m.s.p) = false; rw [hsp]; exact decide_eq_false hl)]
      exact .sc _ rfl hd (by show 0 ≤ m.many + 1; omega) (by show m.many + 1 < 4; omega) rfl rfl (by rw [hst]; show _ = n + (m.many + 1); omega) ⟨hw.pg, hw.mg⟩ no
  | p1 m e hd hmn hx hs hw no =>
    obtain ⟨ho, hmd⟩ := h.wf.nw hd
    rw [e] at ho hmd
    have hmd : m.dn = false := hmd
    obtain ⟨o1, o2, o3, o4, -⟩ := ho
    have hpg : m.pg = f := by unfold Pc.pg; rw [o2, h.s, o4, hf.1, hmn]; show (f + 0) % 4 = f; omega
    have hat : m.at' = 1 + f := by unfold Pc.at'; rw [hpg, o2, h.s]; exact page_yes hm hf.2.1 hf.2.2
    have hz : w.get m.at' = 0 := by rw [hat]; exact hw.pg f hf.2.1 hf.2.2
    have es : m.step w = ({ m with em := true }, w.load m.c m.at') := by
      unfold Pc.step; rw [if_neg (by rw [hmd]; decide), if_neg (by rw [hx]; decide), if_pos hz]
    rw [step_pc hd e, es, set_go _ (by exact hmd)]
    refine .p2 _ rfl hd hmn rfl ?_ ⟨hw.pg, hw.mg⟩ no
    show w64 (w.st + 1) = _; rw [hs, w64_eq (by omega) (by omega)]; omega
  | p2 m e hd hmn hx hs hw no =>
    obtain ⟨ho, hmd⟩ := h.wf.nw hd
    rw [e] at ho hmd
    have hmd : m.dn = false := hmd
    obtain ⟨o1, o2, o3, o4, -⟩ := ho
    have hpg : m.pg = f := by unfold Pc.pg; rw [o2, h.s, o4, hf.1, hmn]; show (f + 0) % 4 = f; omega
    have hat : m.at' = 1 + f := by unfold Pc.at'; rw [hpg, o2, h.s]; exact page_yes hm hf.2.1 hf.2.2
    have hz : w.get m.at' = 0 := by rw [hat]; exact hw.pg f hf.2.1 hf.2.2
    have es : m.step w = ({ m with fd := true, dn := true }, w.swap m.c m.at' 0 (held m.c)) := by
      unfold Pc.step; rw [if_neg (by rw [hmd]; decide), if_pos hx, if_pos hz]
    rw [step_pc hd e, es, set_af _ rfl]
    show Own n k f E B (({ t with nw := .pc { m with fd := true, dn := true } } : Sk).bind m.pg) (w.swap m.c m.at' 0 (held m.c))
    refine .b1 _ rfl hd rfl (Int.le_refl _) (by show (0 : Int) ≤ 16; decide) ?_ hpg no
    show w64 (w.st + 1) = n + 6 + 0; rw [hs, w64_eq (by omega) (by omega)]; omega
  | b1 m e hd hx i0 i1 hs hp no =>
    obtain ⟨ho, hmd⟩ := h.wf.nw hd
    rw [e] at ho hmd
    have hmd : m.dn = false := hmd
    obtain ⟨o1, o2, o3, o4, -⟩ := ho
    have hkk : m.k = k := o4.trans hk.1
    rw [step_bi hd e]
    by_cases hl : m.i = 16
    · have es : m.step w = ({ m with bd := true, i := slots m.k - 1 }, w.store m.c m.pat (super m.k m.c)) := by
        unfold Bi.step; rw [if_neg (by rw [hmd]; decide), if_neg (by rw [hx]; decide), if_pos hl]
      rw [es, set_go _ (by exact hmd)]
      refine .b2 _ rfl hd rfl (by show 0 < slots m.k - 1; rw [hkk]; omega) (by show slots m.k - 1 < slots k; rw [hkk]; omega) ?_ hp no
      show w64 (w.st + 1) = n + 23 + (slots k - 1 - (slots m.k - 1)); rw [hkk, hs, w64_eq (by omega) (by omega)]; omega
    · have es : m.step w = ({ m with i := m.i + 1 }, w.store m.c m.at' (if m.i < slots m.k then way m.c else 0)) := by
        unfold Bi.step; rw [if_neg (by rw [hmd]; decide), if_neg (by rw [hx]; decide), if_neg hl]
      rw [es, set_go _ (by exact hmd)]
      refine .b1 _ rfl hd hx (by show 0 ≤ m.i + 1; omega) (by show m.i + 1 ≤ 16; omega) ?_ hp no
      show w64 (w.st + 1) = n + 6 + (m.i + 1); rw [hs, w64_eq (by omega) (by omega)]; omega
  | b2 m e hd hx i0 i1 hs hp no =>
    obtain ⟨ho, hmd⟩ := h.wf.nw hd
    rw [e] at ho hmd
    have hmd : m.dn = false := hmd
    have es : m.step w = ({ m with i := m.i - 1, dn := decide (m.i - 1 = 0) }, w.store m.c m.at' (opn m.k)) := by
      unfold Bi.step; rw [if_neg (by rw [hmd]; decide), if_pos hx]
    have hst : ∀ a y, (w.store m.c a y).st = n + 23 + (slots k - 1 - m.i) + 1 := fun a y => by show w64 (w.st + 1) = _; rw [hs]; exact w64_eq (by omega) (by omega)
    rw [step_bi hd e, es]
    by_cases hl : m.i - 1 = 0
    · rw [set_af _ (by show decide (m.i - 1 = 0) = true; exact decide_eq_true hl)]
      show Own n k f E B (({ t with nw := .bi { m with i := m.i - 1, dn := decide (m.i - 1 = 0) } } : Sk).fin t.pg 0) _
      exact .e2 rfl rfl hp rfl (by rw [hst]; omega) no
    · rw [set_go _ (by show decide (m.i - 1 = 0) = false; exact decide_eq_false hl)]
      exact .b2 _ rfl hd hx (by show 0 < m.i - 1; omega) (by show m.i - 1 < slots k; omega) (by rw [hst]; show _ = n + 23 + (slots k - 1 - (m.i - 1)); omega) hp no
  | e1 at' hd hf a0 a1 he no hp hl hs hg => rw [step_dn hd]; exact .e1 at' hd hf a0 a1 he no hp hl hs hg
  | e2 hd hf hp hl hs no => rw [step_dn hd]; exact .e2 hd hf hp hl hs no
theorem One.init (hn : 0 ≤ n ∧ n ≤ 8) (hk : 0 ≤ k ∧ k < 4) (hf : 0 ≤ f ∧ f < 4) (he : ∀ j, 0 ≤ E j ∧ E j ≤ 4 ∧ 0 ≤ B j ∧ B j ≤ 1) (ho : w.of ⟨4, 1, n⟩) (hw : Wok n E B w) (hs : w.st = 0) : One n k f E B (new ⟨4, 1, n⟩ 0 k f) w := by
  have hm := ok4 hn
  have hsk : 0 < slots k := by
    rcases (by omega : k = 0 ∨ k = 1 ∨ k = 2 ∨ k = 3) with h | h | h | h <;> rw [h] <;> decide
  have g1 : good ⟨4, 1, n⟩ 0 k = true := by
    unfold good
    rw [status_yes hm (by decide) (by decide), decide_eq_true hsk]; rfl
  have g2 : decide (0 ≤ page 4 1 n f) = true := decide_eq_true (by rw [page_yes hm hf.1 hf.2]; omega)
  have en : new ⟨4, 1, n⟩ 0 k f = set ⟨⟨4, 1, n⟩, 0, k, f, .tk (Tk.new ⟨4, 1, n⟩ 0 k), 0, 0, 0, false, false⟩ (.tk (Tk.new ⟨4, 1, n⟩ 0 k)) := by
    unfold new; rw [g1, g2]; rfl
  have hkp : Kp ⟨⟨4, 1, n⟩, 0, k, f, .tk (Tk.new ⟨4, 1, n⟩ 0 k), 0, 0, 0, false, false⟩ (new ⟨4, 1, n⟩ 0 k f) := by rw [en]; exact set_kp _ _
  refine ⟨new_wf .., ho, hn, hkp.1, hkp.2.1, ⟨hkp.2.2.1, hk⟩, ⟨hkp.2.2.2, hf⟩, he, ?_⟩
  rw [en]
  by_cases h0 : n = 0
  · have hd : (Tk.new ⟨4, 1, n⟩ 0 k).dn = true := by show (!good ⟨4, 1, n⟩ 0 k || decide (n = 0)) = true; rw [decide_eq_true h0]; simp
    rw [set_af _ (m := .tk _) hd]
    show Own n k f E B { (_ : Sk) with nw := .sc (Sc.new ⟨4, 1, n⟩ 0 k f) } w
    exact .sc _ rfl rfl (Int.le_refl _) (by show (0 : Int) < 4; decide) rfl rfl (by rw [hs]; show (0 : Int) = n + 0; omega) hw (fun j j0 j1 => by omega)
  · have hd : (Tk.new ⟨4, 1, n⟩ 0 k).dn = false := by show (!good ⟨4, 1, n⟩ 0 k || decide (n = 0)) = false; rw [decide_eq_false h0, g1]; rfl
    rw [set_go _ (m := .tk _) hd]
    exact .tk _ rfl rfl (Int.le_refl _) (by show (0 : Int) < n; omega) rfl hs hw (fun j j0 j1 => by have j1 : j < 0 := j1; omega)
theorem One.fin (h : One n k f E B t w) (hd : t.dn = true) : t.fd = true ∧ ((∃ at', 0 ≤ at' ∧ at' < n ∧ E at' = k ∧ NoK k E at' ∧ t.pg = at' % 4 ∧ t.sl = B at' ∧ w.st = at' + 2 ∧ w.get (69 + at') = 0) ∨ (NoK k E n ∧ t.pg = f ∧ t.sl = 0 ∧ w.st = n + 22 + slots k)) := by
  cases h.ph with
  | e1 at' _ hf a0 a1 he no hp hl hs hg => exact ⟨hf, .inl ⟨at', a0, a1, he, no, hp, hl, hs, hg⟩⟩
  | e2 _ hf hp hl hs no => exact ⟨hf, .inr ⟨no, hp, hl, hs⟩⟩
  | tk m _ h1 => rw [hd] at h1; cases h1
  | ht m _ h1 => rw [hd] at h1; cases h1
  | sc m _ h1 => rw [hd] at h1; cases h1
  | p1 m _ h1 => rw [hd] at h1; cases h1
  | p2 m _ h1 => rw [hd] at h1; cases h1
  | b1 m _ h1 => rw [hd] at h1; cases h1
  | b2 m _ h1 => rw [hd] at h1; cases h1
end Sk
end Go.Ma
