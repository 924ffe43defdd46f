/-
  Who gives a slot back, alone: all its steps, where the slot is behind it. Conditions: none.
-/
import Derived.Test.YtbehnodllajnjaaMaGiveTwo
set_option linter.unusedVariables false
set_option linter.unusedSimpArgs false
namespace Go.Ma
open Go.Pl
namespace Gv
/-- An entry of its magazine is empty at the beginning. -/
def Zf (m c : Int) (w0 : Wd) (j : Int) : Prop := w0.get (mag 1 2 m c j) = 0
def full (m c : Int) (w0 : Wd) (n : Int) : Prop := ∀ j, 0 ≤ j → j < n → ¬ Zf m c w0 j
/-- How far a giver is. -/
def Ph' (m c k : Int) (w0 : Wd) (t : Gv) (w : Wd) : Prop :=
  (t.dn = false ∧ t.nx = 3 ∧ t.gv = true ∧ t.sl = 0 ∧ t.pA = k ∧ w.get 3 = way c ∧ ((c = 0 ∧ w.st = 2) ∨ (c = 1 ∧ w.st = 2 + m ∧ full m c w0 m))) ∨
  (t.dn = true ∧ t.gv = true ∧ w.get 3 = opn k ∧ ((c = 0 ∧ w.st = 3) ∨ (c = 1 ∧ w.st = 3 + m ∧ full m c w0 m))) ∨
  (t.dn = false ∧ t.nx = 2 ∧ t.gv = true ∧ t.sl = 0 ∧ t.pA = k ∧ c = 1 ∧ w.get 3 = way 1 ∧ ∃ p, t.put = some p ∧ p.s = ⟨1, 2, m⟩ ∧ p.c = c ∧ p.ep = 0 ∧ p.es = 0 ∧ p.ek = k ∧ p.dn = false ∧ p.put = false ∧ 0 ≤ p.i ∧ p.i < m ∧ full m c w0 p.i ∧
    ((p.hit = false ∧ w.st = 2 + p.i) ∨ (p.hit = true ∧ Zf m c w0 p.i ∧ w.st = 3 + p.i))) ∨
  (t.dn = true ∧ t.gv = true ∧ c = 1 ∧ w.get 3 = way 1 ∧ ∃ f, 0 ≤ f ∧ f < m ∧ Zf m c w0 f ∧ full m c w0 f ∧ w.st = 4 + f ∧ w.get (mag 1 2 m c f) = putEn 0 0 k)
def Ph (m c k : Int) (w0 : Wd) (t : Gv) (w : Wd) : Prop :=
  (t = rt0 m c ∧ w = w0) ∨ (t = rt1 m c k ∧ w.st = 1 ∧ w.get 3 = taken k) ∨ Ph' m c k w0 t w
structure Rv (m c k : Int) (w0 : Wd) (t : Gv) (w : Wd) : Prop where
  of : w.of ⟨1, 2, m⟩
  wf : t.wf
  ts : t.s = ⟨1, 2, m⟩
  tc : t.c = c
  pg : t.pg = 0
  mg : t.dn = false → ∀ j, 0 ≤ j → j < m → w.get (mag 1 2 m c j) = w0.get (mag 1 2 m c j)
  ph : Ph m c k w0 t w
variable {m c k : Int} {w w0 : Wd} {t : Gv}
theorem Rv.init (h : Rem m c k w0) : Rv m c k w0 (Gv.new ⟨1, 2, m⟩ c 0) w0 :=
  ⟨h.of, new_wf .., rfl, rfl, by rw [h.new]; rfl, fun _ _ _ _ => rfl, .inl ⟨h.new, rfl⟩⟩
theorem rt_place (h : Rem m c k w0) : page 1 2 m 0 = 2 ∧ slot 1 2 m 0 0 = 3 ∧ (∀ j, 0 ≤ j → j < m → 19 ≤ mag 1 2 m c j) := by
  have h0 := h.c0
  have h1 := h.c1
  refine ⟨(page_yes h.may (by decide) (by decide)).trans (by decide), (slot_yes h.may (by decide) (by decide) (by decide) (by decide)).trans (by decide), fun j h2 h3 => ?_⟩
  rw [mag_yes h.may h.c0 (by omega) h2 h3]
  have := Int.mul_nonneg h.c0 h.m0
  omega
theorem Rv.step (h0 : Rem m c k w0) (h : Rv m c k w0 t w) (hst : 0 ≤ w.st ∧ w.st ≤ 1000000) : Rv m c k w0 (t.step w).1 (t.step w).2 := by
  have hk := step_keeps (w := w) h.wf
  have e0 : w64 (w.st + 1) = w.st + 1 := w64_eq (by omega) (by omega)
  obtain ⟨p1, p2, p3⟩ := rt_place h0
  have c0 := h0.c0
  have c1 := h0.c1
  suffices hh : ((t.step w).1.dn = false → ∀ j, 0 ≤ j → j < m → (t.step w).2.get (mag 1 2 m c j) = w.get (mag 1 2 m c j)) ∧ (t.dn = true → (t.step w).1.dn = true) ∧ Ph m c k w0 (t.step w).1 (t.step w).2 from
    ⟨step_of h.wf h.of, step_wf h.wf h.of.u, hk.1.trans h.ts, hk.2.1.trans h.tc, hk.2.2.2.trans h.pg, fun hd j h1 h2 => (hh.1 hd j h1 h2).trans (h.mg (by cases hz : t.dn; rfl; rw [hh.2.1 hz] at hd; cases hd) j h1 h2), hh.2.2⟩
  rcases h.ph with ⟨e, ew⟩ | ⟨e, h1, hx⟩ | ⟨hd, hn, hg, hs, hp, hx, hc⟩ | hd4 | ⟨hd, hn, hg, hs, hp, hc, hx, p, hq, q1, q2, q3, q4, q5, q6, q7, q8, q9, q10, q11⟩ | hd6
  · rw [e, ew, h0.step1]
    have hst0 := h0.st
    exact ⟨fun _ _ _ _ => rfl, fun hz => (by cases hz), .inr (.inl ⟨rfl, by show w64 (w0.st + 1) = 1; rw [hst0]; rfl, h0.sl⟩)⟩
  · have hsat : (rt1 m c k).sat = 3 := p2
    have hx' : w.get (rt1 m c k).sat = taken (rt1 m c k).pA := by rw [hsat]; exact hx
    have G : ∀ q, 0 ≤ q → (w.swap c 3 (taken k) (way c)).get q = if q = 3 then way c else w.get q := fun q hq => by
      rw [get_swap (by decide) hq, if_pos hx]
    have hsl := Gv.slot_of (o := 0) (k := k) ⟨h0.k0, h0.k1⟩ ⟨by decide, by decide⟩
    have hs0 : (0 : Int) / size k = 0 := Int.zero_ediv _
    have e1 : (rt1 m c k).step w = ((rt1 m c k).claimS w, w.swap c 3 (taken k) (way c)) := by
      rw [step_1S (t := rt1 m c k) rfl rfl rfl, hsat]; rfl
    rw [e, e1]
    refine ⟨fun _ j h2 h3 => ?_, fun hz => (by cases hz), .inr (.inr ?_)⟩
    · show (w.swap c 3 (taken k) (way c)).get _ = _
      have := p3 j h2 h3
      rw [G _ (by omega), if_neg (by omega)]
    show Ph' m c k w0 ((rt1 m c k).claimS w) (w.swap c 3 (taken k) (way c))
    have est : (w.swap c 3 (taken k) (way c)).st = 2 := by show w64 (w.st + 1) = 2; rw [h1]; rfl
    have ex : (w.swap c 3 (taken k) (way c)).get 3 = way c := by rw [G _ (by decide), if_pos rfl]
    unfold claimS
    rw [decide_eq_true hx']
    by_cases hc : c = 1
    · rw [if_pos (by show (1 : Int) = c; omega)]
      have hpn : (rt1 m c k).pnew = Pu.new ⟨1, 2, m⟩ c 0 0 k := rfl
      by_cases hm : m = 0
      · have e2 : (rt1 m c k).pnew.dn = true := by rw [hpn, hm]; show (_ || decide ((0 : Int) = 0)) = true; simp
        rw [e2]
        exact .inl ⟨rfl, rfl, rfl, rfl, rfl, ex, .inr ⟨hc, by omega, fun j h2 h3 => by omega⟩⟩
      · have e2 : (rt1 m c k).pnew.dn = false := by
          rw [hpn]
          have h1 : good ⟨1, 2, m⟩ c k = true := by
            have hst : ¬ status 1 2 m c < 0 := by rw [status_lt0]; exact fun hh => hh ⟨h0.may, by omega, by omega⟩
            unfold good
            rw [decide_eq_true (by show 0 ≤ status 1 2 m c; omega), decide_eq_true (by omega : 0 < slots k)]; rfl
          show (!(good ⟨1, 2, m⟩ c k && decide (0 ≤ page 1 2 m 0) && decide ((0 : Int) ≤ 0) && decide (0 < slots k)) || decide (m = 0)) = false
          rw [h1, p1, decide_eq_true (by omega : 0 < slots k), decide_eq_false hm]; rfl
        rw [e2]
        have hm0 := h0.m0
        exact .inr (.inr (.inl ⟨rfl, rfl, rfl, rfl, rfl, hc, by rw [← hc]; exact ex, (rt1 m c k).pnew, rfl, rfl, rfl, rfl, rfl, rfl, e2, rfl, by show (0 : Int) ≤ 0; decide, by show 0 < m; omega, fun j h2 h3 => by have h3 : j < 0 := h3; omega, .inl ⟨rfl, by show _ = 2 + (0 : Int); omega⟩⟩))
    · rw [if_neg (by show ¬ (1 : Int) = c; omega)]
      exact .inl ⟨rfl, rfl, rfl, rfl, rfl, ex, .inl ⟨by omega, est⟩⟩
  · have hsat : t.sat = 3 := by unfold sat; rw [h.ts, h.pg, hs]; exact p2
    rw [step_3 hd hn]
    refine ⟨fun hz => (by cases hz), fun _ => rfl, .inr (.inr (.inr (.inl ⟨rfl, hg, ?_, ?_⟩)))⟩
    · show (w.store t.c t.sat (opn t.pA)).get 3 = _
      rw [hsat, get_store (by decide) (by decide), if_pos rfl, hp]
    · show (c = 0 ∧ w64 (w.st + 1) = 3) ∨ (c = 1 ∧ w64 (w.st + 1) = 3 + m ∧ full m c w0 m)
      rw [e0]
      rcases hc with ⟨a1, a2⟩ | ⟨a1, a2, a3⟩
      · exact .inl ⟨a1, by omega⟩
      · exact .inr ⟨a1, by omega, a3⟩
  · rw [step_dn hd4.1]; exact ⟨fun _ _ _ _ => rfl, fun _ => hd4.1, .inr (.inr (.inr (.inl hd4)))⟩
  · rw [step_2 hd hn hq]
    have hat : p.at' = mag 1 2 m c p.i := by unfold Pu.at'; rw [q1, q2]
    rcases q11 with ⟨hh, hst'⟩ | ⟨hh, hz, hst'⟩
    · by_cases hz : w.get p.at' = 0
      · have e : p.step w = ({ p with hit := true }, w.load p.c p.at') := by unfold Pu.step; rw [q6, hh, hz]; rfl
        have e2 : t.kept { p with hit := true } = { t with put := some { p with hit := true } } := by unfold kept; rw [show ({ p with hit := true } : Pu).put = false from q7, show ({ p with hit := true } : Pu).dn = false from q6]; rfl
        rw [e]
        show (_ → ∀ j, 0 ≤ j → j < m → (w.load p.c p.at').get _ = _) ∧ _ ∧ Ph m c k w0 (t.kept { p with hit := true }) (w.load p.c p.at')
        rw [e2]
        refine ⟨fun _ _ _ _ => rfl, fun hz => (by rw [hd] at hz; cases hz), .inr (.inr (.inr (.inr (.inl ⟨hd, hn, hg, hs, hp, hc, hx, _, rfl, q1, q2, q3, q4, q5, q6, q7, q8, q9, q10, .inr ⟨rfl, ?_, ?_⟩⟩))))⟩
        · show Zf m c w0 p.i
          unfold Zf; rw [← h.mg hd _ q8 q9, ← hat]; exact hz
        · show w64 (w.st + 1) = 3 + p.i; rw [e0]; omega
      · have hnz : ¬ Zf m c w0 p.i := fun hf => hz (by rw [hat, h.mg hd _ q8 q9]; exact hf)
        have hfull : full m c w0 (p.i + 1) := fun j h1 h2 => by
          by_cases he : j = p.i
          · rw [he]; exact hnz
          · exact q10 j h1 (by omega)
        have e : p.step w = ({ p with i := p.i + 1, dn := decide (p.i + 1 = p.s.m) }, w.load p.c p.at') := by unfold Pu.step; rw [q6, hh, if_neg (by decide), if_neg (by decide), if_neg hz]
        rw [e]
        have hps : p.s.m = m := by rw [q1]
        by_cases hend : p.i + 1 = m
        · have e2 : t.kept { p with i := p.i + 1, dn := decide (p.i + 1 = p.s.m) } = { t with put := some { p with i := p.i + 1, dn := decide (p.i + 1 = p.s.m) }, nx := 3 } := by
            unfold kept; rw [show ({ p with i := p.i + 1, dn := decide (p.i + 1 = p.s.m) } : Pu).put = false from q7, show ({ p with i := p.i + 1, dn := decide (p.i + 1 = p.s.m) } : Pu).dn = true from decide_eq_true (by omega)]; rfl
          show (_ → ∀ j, 0 ≤ j → j < m → (w.load p.c p.at').get _ = _) ∧ _ ∧ Ph m c k w0 (t.kept { p with i := p.i + 1, dn := decide (p.i + 1 = p.s.m) }) (w.load p.c p.at')
          rw [e2]
          refine ⟨fun _ _ _ _ => rfl, fun hz => (by rw [hd] at hz; cases hz), .inr (.inr (.inl ⟨hd, rfl, hg, hs, hp, by rw [hc]; exact hx, .inr ⟨hc, ?_, by have := hfull; rwa [hend] at this⟩⟩))⟩
          show w64 (w.st + 1) = 2 + m; rw [e0]; omega
        · have e2 : t.kept { p with i := p.i + 1, dn := decide (p.i + 1 = p.s.m) } = { t with put := some { p with i := p.i + 1, dn := decide (p.i + 1 = p.s.m) } } := by
            unfold kept; rw [show ({ p with i := p.i + 1, dn := decide (p.i + 1 = p.s.m) } : Pu).put = false from q7, show ({ p with i := p.i + 1, dn := decide (p.i + 1 = p.s.m) } : Pu).dn = false from decide_eq_false (by omega)]; rfl
          show (_ → ∀ j, 0 ≤ j → j < m → (w.load p.c p.at').get _ = _) ∧ _ ∧ Ph m c k w0 (t.kept { p with i := p.i + 1, dn := decide (p.i + 1 = p.s.m) }) (w.load p.c p.at')
          rw [e2]
          refine ⟨fun _ _ _ _ => rfl, fun hz => (by rw [hd] at hz; cases hz), .inr (.inr (.inr (.inr (.inl ⟨hd, hn, hg, hs, hp, hc, hx, _, rfl, q1, q2, q3, q4, q5, decide_eq_false (by omega), q7, by show 0 ≤ p.i + 1; omega, by show p.i + 1 < m; omega, hfull, .inl ⟨hh, ?_⟩⟩))))⟩
          show w64 (w.st + 1) = 2 + (p.i + 1); rw [e0]; omega
    · have e : p.step w = ({ p with put := true, dn := true }, w.store p.c p.at' (putEn p.ep p.es p.ek)) := by unfold Pu.step; rw [q6, hh]; rfl
      rw [e]
      have hge := p3 p.i q8 q9
      refine ⟨fun hz => (by cases hz), fun _ => rfl, .inr (.inr (.inr (.inr (.inr ⟨rfl, hg, hc, ?_, p.i, q8, q9, hz, q10, ?_, ?_⟩))))⟩
      · show (w.store p.c p.at' (putEn p.ep p.es p.ek)).get 3 = _
        rw [hat, get_store (by omega) (by decide), if_neg (by omega)]; exact hx
      · show w64 (w.st + 1) = 4 + p.i; rw [e0]; omega
      · show (w.store p.c p.at' (putEn p.ep p.es p.ek)).get _ = _
        rw [hat, get_store (by omega) (by omega), if_pos rfl, q3, q4, q5]
  · rw [step_dn hd6.1]; exact ⟨fun _ _ _ _ => rfl, fun _ => hd6.1, .inr (.inr (.inr (.inr (.inr hd6))))⟩
theorem Rv.its (h0 : Rem m c k w0) : ∀ n : Nat, n ≤ 1000 → Rv m c k w0 (its Gv.step n (Gv.new ⟨1, 2, m⟩ c 0) w0).1 (its Gv.step n (Gv.new ⟨1, 2, m⟩ c 0) w0).2 ∧ 0 ≤ (its Gv.step n (Gv.new ⟨1, 2, m⟩ c 0) w0).2.st ∧ (its Gv.step n (Gv.new ⟨1, 2, m⟩ c 0) w0).2.st ≤ n
  | 0, _ => ⟨Rv.init h0, by show 0 ≤ w0.st; have := h0.st; omega, by show w0.st ≤ _; have := h0.st; omega⟩
  | n + 1, hn => by
    obtain ⟨h1, h2, h3⟩ := Rv.its h0 n (by omega)
    have h4 := step_st (w := (Go.Ma.its Gv.step n (Gv.new ⟨1, 2, m⟩ c 0) w0).2) h1.wf h2 (by omega)
    refine ⟨h1.step h0 ⟨h2, by omega⟩, ?_, ?_⟩
    · show 0 ≤ (Gv.step _ _).2.st; omega
    · show (Gv.step _ _).2.st ≤ _; omega
/-- How it ends. -/
theorem Rv.fin (h : Rv m c k w0 t w) (hd : t.dn = true) : t.gv = true ∧ ((c = 0 ∧ w.st = 3 ∧ w.get 3 = opn k) ∨ (c = 1 ∧ full m c w0 m ∧ w.st = 3 + m ∧ w.get 3 = opn k) ∨ (c = 1 ∧ w.get 3 = way 1 ∧ ∃ f, 0 ≤ f ∧ f < m ∧ Zf m c w0 f ∧ full m c w0 f ∧ w.st = 4 + f ∧ w.get (mag 1 2 m c f) = putEn 0 0 k)) := by
  rcases h.ph with ⟨e, -⟩ | ⟨e, -⟩ | ⟨e, -⟩ | ⟨-, h2, h3, h4⟩ | ⟨e, -⟩ | ⟨-, h2, h3, h4, h5⟩
  · rw [e] at hd; cases hd
  · rw [e] at hd; cases hd
  · rw [hd] at e; cases e
  · refine ⟨h2, ?_⟩
    rcases h4 with ⟨a1, a2⟩ | ⟨a1, a2, a3⟩
    · exact .inl ⟨a1, a2, h3⟩
    · exact .inr (.inl ⟨a1, a3, a2, h3⟩)
  · rw [hd] at e; cases e
  · exact ⟨h2, .inr (.inr ⟨h3, h4, h5⟩)⟩
/-- One access at each step, as long as it is not done. -/
theorem step_one (h : t.wf) (hd : t.dn = false) : (t.step w).2.st = w64 (w.st + 1) := by
  rcases step_cases h w with ⟨e, -⟩ | ⟨-, ⟨-, e⟩ | ⟨-, -, e⟩ | ⟨-, -, e⟩ | ⟨-, p, -, -, hpd, -, -, -, e⟩ | ⟨-, e⟩ | ⟨-, -, e⟩ | ⟨-, -, e⟩⟩
  · rw [hd] at e; cases e
  · rw [e]; rfl
  · rw [e]; rfl
  · rw [e]; rfl
  · rw [e]
    show (p.step w).2.st = _
    unfold Pu.step
    rw [if_neg (by rw [hpd]; decide)]
    split
    · rfl
    split <;> rfl
  · rw [e]; rfl
  · rw [e]; rfl
  · rw [e]; rfl
theorem Rv.count (h0 : Rem m c k w0) : ∀ n : Nat, n ≤ 1000 → (Go.Ma.its Gv.step n (Gv.new ⟨1, 2, m⟩ c 0) w0).1.dn = false → (Go.Ma.its Gv.step n (Gv.new ⟨1, 2, m⟩ c 0) w0).2.st = n
  | 0, _, _ => by show w0.st = _; have := h0.st; omega
  | n + 1, hn, hd => by
    obtain ⟨h1, h2, h3⟩ := Rv.its h0 n (by omega)
    have hd' : (Go.Ma.its Gv.step n (Gv.new ⟨1, 2, m⟩ c 0) w0).1.dn = false := by
      cases hz : (Go.Ma.its Gv.step n (Gv.new ⟨1, 2, m⟩ c 0) w0).1.dn
      · rfl
      · have hd : (Gv.step (Go.Ma.its Gv.step n (Gv.new ⟨1, 2, m⟩ c 0) w0).1 (Go.Ma.its Gv.step n (Gv.new ⟨1, 2, m⟩ c 0) w0).2).1.dn = false := hd
        rw [Gv.step_dn hz, hz] at hd; cases hd
    have ih := Rv.count h0 n (by omega) hd'
    show (Gv.step _ _).2.st = _
    rw [step_one h1.wf hd', ih, w64_eq (by omega) (by omega)]; omega
theorem Rv.low (h0 : Rem m c k w0) (h : Rv m c k w0 t w) (hd : t.dn = false) : w.st ≤ 3 + m := by
  have := h0.m0
  have := h0.st
  rcases h.ph with ⟨-, e⟩ | ⟨-, e, -⟩ | ⟨-, -, -, -, -, -, h4⟩ | ⟨e, -⟩ | ⟨-, -, -, -, -, -, -, p, -, -, -, -, -, -, -, -, q8, q9, -, q11⟩ | ⟨e, -⟩
  · rw [e]; omega
  · omega
  · omega
  · rw [hd] at e; cases e
  · rcases q11 with ⟨-, q⟩ | ⟨-, -, q⟩ <;> omega
  · rw [hd] at e; cases e
/-- It is done in time. -/
theorem Rv.ends (h0 : Rem m c k w0) {n : Nat} (hn : 3 + m < n) (h1 : n ≤ 1000) : (Go.Ma.its Gv.step n (Gv.new ⟨1, 2, m⟩ c 0) w0).1.dn = true := by
  cases hd : (Go.Ma.its Gv.step n (Gv.new ⟨1, 2, m⟩ c 0) w0).1.dn
  · have e1 := Rv.count h0 n h1 hd
    have e2 := (Rv.its h0 n h1).1.low h0 hd
    omega
  · rfl
end Gv
end Go.Ma
