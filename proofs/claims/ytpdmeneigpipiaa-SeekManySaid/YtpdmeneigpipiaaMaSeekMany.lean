/-
  Many that seek at the same time, from a blank heap: as many have a slot as there are pages, or all. Conditions: none.
-/
import Derived.Test.YtpdmeneigpipiaaMaOwnSk
import Derived.Test.YtpdmeneigpipiaaMaTake
import Derived.Test.YtpdmeneigpipiaaMaCount
set_option linter.unusedVariables false
set_option linter.unusedSectionVars false
set_option linter.unusedSimpArgs false
namespace Go.Ma
open Go.Pl
open Ow
namespace Sk
/-- It has a page, or a slot. -/
def Gt (t : Sk) : Bool := if t.dn then t.fd else match t.nw with
  | .bi _ => true
  | _ => false
/-- The pages that it saw are not empty. -/
structure Sn (s : Sh) (f : Int) (t : Sk) (ws : Nat → Int) : Prop where
  n : t.dn = true → t.fd = false → ∀ q, 0 ≤ q → q < s.p → pgAt s ws q ≠ 0
  pc : t.dn = false → ∀ m, t.nw = .pc m → ∀ j, 0 ≤ j → j < m.many → pgAt s ws ((f + j) % s.p) ≠ 0
  no : t.dn = false → t.nw = .no → ∀ q, 0 ≤ q → q < s.p → pgAt s ws q ≠ 0
  st : t.dn = false → ∀ m, t.nw = .st m → ∀ q, 0 ≤ q → q < s.p → pgAt s ws q ≠ 0
section
variable {s : Sh} {c f : Int} {t : Sk} {w : Wd}
theorem Sn.mono {ws ws' : Nat → Int} (hp : 0 < s.p) (h : Sn s f t ws) (hk : ∀ q, 0 ≤ q → q < s.p → pgAt s ws q ≠ 0 → pgAt s ws' q ≠ 0) : Sn s f t ws' :=
  ⟨fun a b q q0 q1 => hk q q0 q1 (h.n a b q q0 q1), fun a m b j j0 j1 => hk _ (Int.emod_nonneg _ (by omega)) (Int.emod_lt_of_pos _ hp) (h.pc a m b j j0 j1), fun a b q q0 q1 => hk q q0 q1 (h.no a b q q0 q1), fun a m b q q0 q1 => hk q q0 q1 (h.st a m b q q0 q1)⟩
/-- How pages change: none becomes empty; one does not stay so, and then it is its. -/
def Chg (s : Sh) (t t' : Sk) (ws ws' : Nat → Int) : Prop := (Gt t = true → Gt t' = true) ∧ ((∀ q, 0 ≤ q → q < s.p → (pgAt s ws' q ≠ 0 ↔ pgAt s ws q ≠ 0)) ∨
  (Gt t = false ∧ Gt t' = true ∧ ∃ p, 0 ≤ p ∧ p < s.p ∧ pgAt s ws p = 0 ∧ ∀ q, 0 ≤ q → q < s.p → (pgAt s ws' q ≠ 0 ↔ pgAt s ws q ≠ 0 ∨ q = p)))
theorem chg_same {t' : Sk} {ws ws' : Nat → Int} (hg : Gt t = true → Gt t' = true) (h : ∀ q, 0 ≤ q → q < s.p → pgAt s ws' q = pgAt s ws q) : Chg s t t' ws ws' := ⟨hg, .inl fun q a b => by rw [h q a b]⟩
theorem gt_fin (p i : Int) : Gt (t.fin p i) = true := rfl
theorem gt_bind (p : Int) (hd : t.dn = false) : Gt (t.bind p) = true := by unfold Gt bind; rw [show ({ t with pg := p, nw := Nw.bi (Bi.new t.s t.c p t.k) } : Sk).dn = false from hd]; rfl
theorem gt_of (hd : t.dn = false) {n : Nw} (e : t.nw = n) (h : ∀ m, n ≠ .bi m) : Gt t = false := by
  unfold Gt; rw [hd, e]
  cases n with
  | bi m => exact absurd rfl (h m)
  | _ => rfl
theorem In.chg (h : In s c t w.ws) (hB : Bs s w.ws) : Chg s t (t.step w).1 w.ws (t.step w).2.ws := by
  have hm := h.m
  have hb := (may_iff _ _ _).1 hm
  have c0 := h.c0
  have c1 := h.c1
  have hts := h.es
  have htc := h.ec
  have ow := h.ow
  have ft := h.ft
  rcases step_cases t w with ⟨hd, e⟩ | ⟨hd, hc⟩
  · rw [e]; exact chg_same id fun _ _ _ => rfl
  have hfd := h.wf.fd hd
  obtain ⟨ok, nd⟩ := h.wf.nw hd
  rcases hc with ⟨m, en, e⟩ | ⟨m, en, e⟩ | ⟨m, en, e⟩ | ⟨en, e⟩ | ⟨m, en, e⟩ | ⟨m, en, e⟩ <;> rw [e]
  · rw [en] at ok nd
    have nd : m.dn = false := nd
    obtain ⟨o1, o2, o3, o4, o5, o6⟩ := ok
    obtain ⟨-, -, -, i0, i1⟩ := o1.of nd
    rw [o2, hts] at i1
    refine chg_same (fun g => by rw [gt_of hd en fun _ => by simp] at g; cases g) fun q a b => ?_
    have hat : m.at' = mag s.p s.c s.m c m.i := by unfold Tk.at'; rw [o2, hts, o3, htc]
    show pgAt s (m.step w).2.ws q = _
    unfold Tk.step
    rw [if_neg (by rw [nd]; decide)]
    split
    · rw [store_ws, hat, pg_mg hm c0 c1 i0 i1 a b]
    · split <;> rfl
  · rw [en] at ok nd
    have nd : m.dn = false := nd
    obtain ⟨o1, o2, o3, o4, o5, -, o7, -⟩ := ok
    obtain ⟨-, -, -, -, -, q0, q1, i0, i1, x0, x1⟩ := o1.of nd
    have hsl := slots_bd m.k
    have hsp : m.s.p = s.p := by rw [o2, hts]
    have hq : 0 ≤ m.pg ∧ m.pg < s.p := by unfold Sc.pg; rw [hsp]; exact mod_bd (by omega)
    have hat : m.at' = slot s.p s.c s.m m.pg m.i := by unfold Sc.at'; rw [o2, hts]
    refine chg_same (fun g => by rw [gt_of hd en fun _ => by simp] at g; cases g) fun q a b => ?_
    show pgAt s (m.step w).2.ws q = _
    unfold Sc.step
    rw [if_neg (by rw [nd]; decide)]
    split
    · rfl
    · split
      · rfl
      · show pgAt s (w.swap _ _ _ _).ws q = _
        rw [swap_ws, hat, pg_sl hm hq.1 hq.2 i0 (by omega) a b]
  · rw [en] at ok nd
    have nd : m.dn = false := nd
    obtain ⟨o1, o2, o3, o4, -, o6, -⟩ := ok
    have hsp : m.s.p = s.p := by rw [o2, hts]
    have hq : 0 ≤ m.pg ∧ m.pg < s.p := by unfold Pc.pg; rw [hsp]; exact mod_bd (by omega)
    have hat : m.at' = page s.p s.c s.m m.pg := by unfold Pc.at'; rw [o2, hts]
    have g0 := gt_of hd en fun _ => by simp
    cases hem : m.em
    · refine chg_same (fun g => by rw [g0] at g; cases g) fun q a b => ?_
      show pgAt s (m.step w).2.ws q = _
      unfold Pc.step
      rw [if_neg (by rw [nd]; decide), if_neg (by rw [hem]; decide)]
      rfl
    by_cases hz : w.get m.at' = 0
    · have es : m.step w = ({ m with fd := true, dn := true }, w.swap m.c m.at' 0 (held m.c)) := by
        unfold Pc.step; rw [if_neg (by rw [nd]; decide), if_pos hem, if_pos hz]
      have hz2 : pgAt s w.ws m.pg = 0 := by rw [hat] at hz; exact hz
      rw [es, Sa.set_af _ rfl]
      refine ⟨fun g => (by rw [g0] at g; cases g), .inr ⟨g0, gt_bind (t := { t with nw := .pc { m with fd := true, dn := true } }) m.pg hd, m.pg, hq.1, hq.2, hz2, fun q a b => ?_⟩⟩
      show pgAt s (w.swap _ _ _ _).ws q ≠ 0 ↔ _
      rw [swap_yes hz, hat, pg_pg hm hq.1 hq.2 a b, o3, htc, held_v c0 (by omega)]
      split
      · rename_i e; exact ⟨fun _ => .inr e, fun _ => by omega⟩
      · rename_i e; exact ⟨.inl, fun g => g.resolve_right e⟩
    · have es : m.step w = (m.next, w.swap m.c m.at' 0 (held m.c)) := by
        unfold Pc.step; rw [if_neg (by rw [nd]; decide), if_pos hem, if_neg hz]
      rw [es]
      refine chg_same (fun g => by rw [g0] at g; cases g) fun q a b => ?_
      show pgAt s (w.swap _ _ _ _).ws q = _
      rw [swap_no hz]
  · exact chg_same (fun g => by rw [gt_of hd en fun _ => by simp] at g; cases g) fun q a b => rfl
  · rw [en] at ok nd
    have nd : m.dn = false := nd
    obtain ⟨o1, o2, o3, o4, o5⟩ := ok
    obtain ⟨-, -, -, p0, p1, k0, i0, i1, hbk⟩ := o1.of nd
    rw [o2, hts] at p1
    rw [Ft_of hd en] at ft
    have g0 := gt_of hd en fun _ => by simp
    refine ⟨fun g => (by rw [g0] at g; cases g), .inl fun q a b => ?_⟩
    show pgAt s (m.step w).2.ws q ≠ 0 ↔ _
    have hsl := slots_bd m.k
    unfold St.step
    rw [if_neg (by rw [nd]; decide)]
    split
    · rename_i e
      have := hbk e
      show pgAt s (w.store _ _ _).ws q ≠ 0 ↔ _
      rw [store_ws]; unfold St.at'; rw [o2, hts, pg_sl hm p0 p1 (by omega) (by omega) a b]
    · split
      · rename_i e
        have hsup := (ft.2 (by omega)).mod
        show pgAt s (w.store _ _ _).ws q ≠ 0 ↔ _
        rw [store_ws]; unfold St.pat; rw [o2, hts, pg_pg hm p0 p1 a b, o3, htc, held_v c0 (by omega)]
        split
        · rename_i e; rw [e]; constructor <;> intro _ <;> omega
        · exact Iff.rfl
      · rename_i e
        show pgAt s (w.swap _ _ _ _).ws q ≠ 0 ↔ _
        rw [swap_ws]; unfold St.at'; rw [o2, hts, pg_sl hm p0 p1 i0 (by omega) a b]
  · rw [en] at ok nd
    have nd : m.dn = false := nd
    obtain ⟨o1, o2, o3, o4, o5, o6, o7⟩ := ok
    obtain ⟨-, -, -, p0, p1, k0, i0, i1, hbd⟩ := o1.of nd
    rw [o2, hts] at p1
    rw [ho_bi hd en] at ow
    obtain ⟨kk0, kk3⟩ := slots_k k0
    have hsl := slots_bd m.k
    refine ⟨fun _ => ?_, .inl fun q a b => ?_⟩
    · cases hd' : (m.step w).1.dn
      · rw [Sa.set_go _ (by exact hd')]
        unfold Gt; rw [show ({ t with nw := Nw.bi (m.step w).1 } : Sk).dn = false from hd]; rfl
      · rw [Sa.set_af _ (by exact hd')]; rfl
    show pgAt s (m.step w).2.ws q ≠ 0 ↔ _
    unfold Bi.step
    rw [if_neg (by rw [nd]; decide)]
    split
    · rename_i e
      have := hbd e
      show pgAt s (w.store _ _ _).ws q ≠ 0 ↔ _
      rw [store_ws]; unfold Bi.at'; rw [o2, hts, pg_sl hm p0 p1 (by omega) (by omega) a b]
    · rename_i e
      split
      · have hh := (ow.pg m.p p0 p1).2 ⟨by simpa using e, rfl⟩
        show pgAt s (w.store _ _ _).ws q ≠ 0 ↔ _
        rw [store_ws]; unfold Bi.pat; rw [o2, hts, pg_pg hm p0 p1 a b, o3, htc, super_v kk0 (by omega) c0 (by omega)]
        split
        · rename_i e; rw [e]; constructor <;> intro _ <;> omega
        · exact Iff.rfl
      · show pgAt s (w.store _ _ _).ws q ≠ 0 ↔ _
        rw [store_ws]; unfold Bi.at'; rw [o2, hts, pg_sl hm p0 p1 i0 (by omega) a b]
theorem Chg.kept {t' : Sk} {ws ws' : Nat → Int} (h : Chg s t t' ws ws') : ∀ q, 0 ≤ q → q < s.p → pgAt s ws q ≠ 0 → pgAt s ws' q ≠ 0 := fun q a b g => by
  rcases h.2 with h | ⟨-, -, p, -, -, -, h⟩
  · exact (h q a b).2 g
  · exact (h q a b).2 (.inl g)
theorem In.sn (h : In s c t w.ws) (hB : Bs s w.ws) (hf : t.f = f) (f0 : 0 ≤ f) (f1 : f < s.p) (hs : Sn s f t w.ws) : Sn s f (t.step w).1 (t.step w).2.ws := by
  have hm := h.m
  have hb := (may_iff _ _ _).1 hm
  have hts := h.es
  have htc := h.ec
  have hch := (h.chg hB).kept
  rcases step_cases t w with ⟨hd, e⟩ | ⟨hd, hc⟩
  · rw [e]; exact hs
  have hfd := h.wf.fd hd
  obtain ⟨ok, nd⟩ := h.wf.nw hd
  -- a machine that has seen nothing yet
  have none : ∀ (u : Sk) (ws' : Nat → Int), u.dn = false → (∀ m, u.nw ≠ .st m) → u.nw ≠ .no → (∀ m, u.nw = .pc m → m.many = 0) → Sn s f u ws' := fun u ws' g1 g2 g3 g4 =>
    ⟨fun g => (by rw [g1] at g; cases g), fun _ m g j j0 j1 => (by rw [g4 m g] at j1; omega), fun _ g => absurd g g3, fun _ m g => absurd g (g2 m)⟩
  have all : ∀ (u : Sk) (ws' : Nat → Int), (∀ q, 0 ≤ q → q < s.p → pgAt s ws' q ≠ 0) → Sn s f u ws' := fun u ws' g =>
    ⟨fun _ _ => g, fun _ _ _ j _ _ => g _ (Int.emod_nonneg _ (by omega)) (Int.emod_lt_of_pos _ (by omega)), fun _ _ => g, fun _ _ _ => g⟩
  have fin : ∀ (u : Sk) (p i : Int) (ws' : Nat → Int), Sn s f (u.fin p i) ws' := fun u p i ws' =>
    ⟨fun _ g => (by cases g), fun g => (by cases g), fun g => (by cases g), fun g => (by cases g)⟩
  rcases hc with ⟨m, en, e⟩ | ⟨m, en, e⟩ | ⟨m, en, e⟩ | ⟨en, e⟩ | ⟨m, en, e⟩ | ⟨m, en, e⟩ <;> rw [e] at hch ⊢
  · cases hd' : (m.step w).1.dn
    · rw [Sa.set_go _ (by exact hd')]; exact none _ _ hd (fun _ g => by cases g) (fun g => by cases g) fun _ g => by cases g
    · rw [Sa.set_af _ (by exact hd')]
      show Sn s f (if (m.step w).1.fd then _ else _ : Sk) _
      split
      · exact fin ..
      · exact none _ _ hd (fun _ g => by cases g) (fun g => by cases g) fun _ g => by cases g
  · cases hd' : (m.step w).1.dn
    · rw [Sa.set_go _ (by exact hd')]; exact none _ _ hd (fun _ g => by cases g) (fun g => by cases g) fun _ g => by cases g
    · rw [Sa.set_af _ (by exact hd')]
      show Sn s f (if (m.step w).1.fd then _ else _ : Sk) _
      split
      · exact fin ..
      · exact none _ _ hd (fun _ g => by cases g) (fun g => by cases g) fun x g => by injection g with g; subst g; rfl
  · have hpc := hs.pc hd m en
    rw [en] at ok nd
    have nd : m.dn = false := nd
    obtain ⟨o1, o2, o3, o4, -, o6, -⟩ := ok
    obtain ⟨-, -, -, -, -, q0, q1⟩ := o1.of nd
    have hsp : m.s.p = s.p := by rw [o2, hts]
    have hpg : m.pg = (f + m.many) % s.p := by unfold Pc.pg; rw [hsp, o4, hf]
    have hat : m.at' = page s.p s.c s.m m.pg := by unfold Pc.at'; rw [o2, hts]
    have go : ∀ (w' : Wd), w'.ws = w.ws → w.get m.at' ≠ 0 → Sn s f (t.set (.pc m.next)) w'.ws := fun w' g1 g2 => by
      have hp : ∀ j, 0 ≤ j → j < m.many + 1 → pgAt s w'.ws ((f + j) % s.p) ≠ 0 := fun j j0 j1 => by
        rw [g1]
        by_cases ej : j = m.many
        · rw [ej, ← hpg]; rw [hat] at g2; exact g2
        · exact hpc j j0 (by omega)
      by_cases hl : m.many + 1 = m.s.p
      · rw [Sa.set_af _ (by exact decide_eq_true hl)]
        show Sn s f (if m.next.fd then _ else _ : Sk) _
        rw [show m.next.fd = false from o6 nd]
        simp only [Bool.false_eq_true, if_false]
        refine all _ _ fun q a b => ?_
        obtain ⟨j, j0, j1, ej⟩ := Sa.turn_at f0 f1 a b
        rw [← ej]; exact hp j j0 (by omega)
      · rw [Sa.set_go _ (by exact decide_eq_false hl)]
        refine ⟨fun g => (by have g : t.dn = true := g; rw [hd] at g; cases g), fun _ x g j j0 j1 => ?_, fun _ g => (by cases g), fun _ _ g => (by cases g)⟩
        injection g with g
        subst g
        exact hp j j0 j1
    cases hem : m.em
    · by_cases hz : w.get m.at' = 0
      · have es : m.step w = ({ m with em := true }, w.load m.c m.at') := by
          unfold Pc.step; rw [if_neg (by rw [nd]; decide), if_neg (by rw [hem]; decide), if_pos hz]
        rw [es, Sa.set_go _ (by exact nd)]
        refine ⟨fun g => (by have g : t.dn = true := g; rw [hd] at g; cases g), fun _ x g j j0 j1 => ?_, fun _ g => (by cases g), fun _ _ g => (by cases g)⟩
        injection g with g
        subst g
        exact hpc j j0 j1
      · have es : m.step w = (m.next, w.load m.c m.at') := by
          unfold Pc.step; rw [if_neg (by rw [nd]; decide), if_neg (by rw [hem]; decide), if_neg hz]
        rw [es]; exact go _ rfl hz
    by_cases hz : w.get m.at' = 0
    · have es : m.step w = ({ m with fd := true, dn := true }, w.swap m.c m.at' 0 (held m.c)) := by
        unfold Pc.step; rw [if_neg (by rw [nd]; decide), if_pos hem, if_pos hz]
      rw [es, Sa.set_af _ rfl]
      exact none _ _ hd (fun _ g => by cases g) (fun g => by cases g) fun _ g => by cases g
    · have es : m.step w = (m.next, w.swap m.c m.at' 0 (held m.c)) := by
        unfold Pc.step; rw [if_neg (by rw [nd]; decide), if_pos hem, if_neg hz]
      rw [es]; exact go _ (swap_no hz) hz
  · exact all _ _ fun q a b => hs.no hd en q a b
  · have hst := hs.st hd m en
    cases hd' : (m.step w).1.dn
    · rw [Sa.set_go _ (by exact hd')] at hch ⊢
      exact all _ _ fun q a b => hch q a b (hst q a b)
    · rw [Sa.set_af _ (by exact hd')] at hch ⊢
      exact all _ _ fun q a b => hch q a b (hst q a b)
  · cases hd' : (m.step w).1.dn
    · rw [Sa.set_go _ (by exact hd')]
      exact none _ _ hd (fun _ g => by cases g) (fun g => by cases g) fun _ g => by cases g
    · rw [Sa.set_af _ (by exact hd')]; exact fin ..
end
end Sk

/-! ### Many -/
/-- One of a family, changed. -/
def upS {α : Type} (ts : Nat → α) (c : Nat) (t : α) : Nat → α := fun d => if d = c then t else ts d
theorem upS_same {α : Type} (ts : Nat → α) (c : Nat) (t : α) : upS ts c t c = t := if_pos rfl
theorem upS_ne {α : Type} (ts : Nat → α) {c d : Nat} (t : α) (h : d ≠ c) : upS ts c t d = ts d := if_neg h
structure SkInv (n : Nat) (s : Sh) (K f : Nat → Int) (ts : Nat → Sk) (w : Wd) : Prop where
  of : w.of s
  m : may s.p s.c s.m = true
  nc : (n : Int) = s.c
  bs : Bs s w.ws
  ins : ∀ c, c < n → Sk.In s c (ts c) w.ws
  kk : ∀ c, c < n → (ts c).k = K c ∧ (ts c).f = f c ∧ 0 ≤ f c ∧ f c < s.p
  sn : ∀ c, c < n → Sk.Sn s (f c) (ts c) w.ws
  got : cnt (fun q => decide (pgAt s w.ws q ≠ 0)) s.p.toNat ≤ cnt (fun c => (ts c).Gt) n
theorem cnt_mono {p q : Nat → Bool} : ∀ {n : Nat}, (∀ i, i < n → p i = true → q i = true) → cnt p n ≤ cnt q n
  | 0, _ => Nat.le_refl _
  | n + 1, h => by
    have := cnt_mono (n := n) (p := p) (q := q) fun i hi => h i (by omega)
    unfold cnt
    cases hp : p n
    · simp; omega
    · rw [h n (by omega) hp]; simp; omega
theorem cnt_one {p q : Nat → Bool} {k : Nat} : ∀ {n : Nat}, k < n → p k = false → (∀ i, i < n → (q i = true ↔ p i = true ∨ i = k)) → cnt q n = cnt p n + 1
  | 0, h, _, _ => by omega
  | n + 1, h, hp, hq => by
    unfold cnt
    by_cases e : k = n
    · subst e
      have h1 : cnt q k = cnt p k := cnt_congr fun i hi => Bool.eq_iff_iff.2 ⟨fun g => ((hq i (by omega)).1 g).resolve_right (by omega), fun g => (hq i (by omega)).2 (.inl g)⟩
      rw [h1, hp, (hq k (by omega)).2 (.inr rfl)]; simp
    · have ih := cnt_one (n := n) (p := p) (q := q) (k := k) (by omega) hp fun i hi => hq i (by omega)
      have h1 : q n = p n := Bool.eq_iff_iff.2 ⟨fun g => ((hq n (by omega)).1 g).resolve_right (by omega), fun g => (hq n (by omega)).2 (.inl g)⟩
      rw [ih, h1]; omega
namespace SkInv
variable {n : Nat} {s : Sh} {K f : Nat → Int} {ts : Nat → Sk} {w : Wd}
theorem step (h : SkInv n s K f ts w) {c : Nat} (hc : c < n) : SkInv n s K f (upS ts c ((ts c).step w).1) ((ts c).step w).2 := by
  have hb := (may_iff _ _ _).1 h.m
  have hi := h.ins c hc
  obtain ⟨k1, k2, k3, k4⟩ := h.kk c hc
  obtain ⟨nx, ni⟩ := hi.step h.bs
  have hch := hi.chg h.bs
  have hkp := Sk.step_kp (t := ts c) (w := w)
  refine ⟨Sk.step_of h.of, h.m, h.nc, nx.bs, fun d hd => ?_, fun d hd => ?_, fun d hd => ?_, ?_⟩
  · by_cases e : d = c
    · subst e; rw [upS_same]; exact ni
    · rw [upS_ne _ _ e]
      exact (h.ins d hd).rel (nx.re d (by omega) (by have := h.nc; omega) (by omega))
  · by_cases e : d = c
    · subst e; rw [upS_same]; exact ⟨hkp.2.2.1.trans k1, hkp.2.2.2.trans k2, k3, k4⟩
    · rw [upS_ne _ _ e]; exact h.kk d hd
  · by_cases e : d = c
    · subst e; rw [upS_same]; exact hi.sn h.bs k2 k3 k4 (h.sn d hd)
    · rw [upS_ne _ _ e]
      exact (h.sn d hd).mono (by omega) hch.kept
  · have hcg : ∀ g, g = cnt (fun c => (ts c).Gt) n → cnt (fun q => decide (pgAt s w.ws q ≠ 0)) s.p.toNat ≤ g := fun g e => by rw [e]; exact h.got
    have hgot := h.got
    rcases hch.2 with g | ⟨g1, g2, p, p0, p1, g3, g4⟩
    · have e1 : cnt (fun q : Nat => decide (pgAt s ((ts c).step w).2.ws q ≠ 0)) s.p.toNat = cnt (fun q : Nat => decide (pgAt s w.ws q ≠ 0)) s.p.toNat := cnt_congr fun i hi => by
        have := g i (by omega) (by omega)
        exact decide_eq_decide.2 this
      rw [e1]
      refine Nat.le_trans hgot (cnt_mono fun d hd hg => ?_)
      by_cases e : d = c
      · subst e; rw [upS_same]; exact hch.1 hg
      · rw [upS_ne _ _ e]; exact hg
    · have e1 : cnt (fun q : Nat => decide (pgAt s ((ts c).step w).2.ws q ≠ 0)) s.p.toNat = cnt (fun q : Nat => decide (pgAt s w.ws q ≠ 0)) s.p.toNat + 1 := by
        refine cnt_one (k := p.toNat) (by omega) (decide_eq_false fun g => g (by rw [show ((p.toNat : Nat) : Int) = p by omega]; exact g3)) fun i hi => ?_
        have := g4 i (by omega) (by omega)
        rw [decide_eq_true_iff, decide_eq_true_iff, this]
        constructor
        · rintro (g | g)
          · exact .inl g
          · exact .inr (by omega)
        · rintro (g | g)
          · exact .inl g
          · exact .inr (by omega)
      have e2 : cnt (fun d => (upS ts c ((ts c).step w).1 d).Gt) n = cnt (fun d => (ts d).Gt) n + 1 := by
        refine cnt_one (k := c) hc g1 fun d hd => ?_
        by_cases e : d = c
        · subst e; rw [upS_same]; exact ⟨fun _ => .inr rfl, fun _ => g2⟩
        · rw [upS_ne _ _ e]; exact ⟨.inl, fun g => g.resolve_right e⟩
      rw [e1, e2]; omega
/-- Who has a slot has it alone. -/
theorem apart (h : SkInv n s K f ts w) {c d : Nat} (hc : c < n) (hd : d < n) (hne : c ≠ d) (c1 : (ts c).dn = true) (c2 : (ts c).fd = true) (d1 : (ts d).dn = true) (d2 : (ts d).fd = true) :
    (ts c).pg = (ts d).pg → (ts c).k = (ts d).k ∧ (ts c).sl ≠ (ts d).sl := fun e => by
  have hb := (may_iff _ _ _).1 h.m
  obtain ⟨a1, a2, a3, a4, a5, a6⟩ := (h.ins c hc).fin c1 c2
  obtain ⟨b1, b2, b3, b4, b5, b6⟩ := (h.ins d hd).fin d1 d2
  rw [← e] at b5 b6
  refine ⟨Sup.inj (by omega) a5 b5, fun g => ?_⟩
  rw [← g] at b6
  omega
/-- As many have one as there are pages, or all. -/
theorem most (h : SkInv n s K f ts w) (hd : ∀ c, c < n → (ts c).dn = true) : min n s.p.toNat ≤ cnt (fun c => (ts c).fd) n := by
  have hg : cnt (fun c => (ts c).Gt) n = cnt (fun c => (ts c).fd) n := cnt_congr fun c hc => by unfold Sk.Gt; rw [hd c hc]; rfl
  by_cases hall : ∀ c, c < n → (ts c).fd = true
  · rw [cnt_all hall]; omega
  · obtain ⟨c, hc, hf⟩ : ∃ c, c < n ∧ (ts c).fd = false := by
      refine Classical.byContradiction fun hn => hall fun c hc => ?_
      cases hf : (ts c).fd
      · exact absurd ⟨c, hc, hf⟩ hn
      · rfl
    have := (h.sn c hc).n (hd c hc) hf
    have e : cnt (fun q : Nat => decide (pgAt s w.ws q ≠ 0)) s.p.toNat = s.p.toNat := cnt_all fun i hi => decide_eq_true (this i (by omega) (by omega))
    have := h.got
    omega
theorem new_sn {s : Sh} {c k f : Int} {ws : Nat → Int} (hm : may s.p s.c s.m = true) (c0 : 0 ≤ c) (c1 : c < s.c) (k0 : 0 ≤ k) (k3 : k ≤ 3) (f0 : 0 ≤ f) (f1 : f < s.p) : Sk.Sn s f (Sk.new s c k f) ws := by
  have hb := (may_iff _ _ _).1 hm
  have hsl := slots_four k0 k3
  have hg : (good s c k && decide (0 ≤ page s.p s.c s.m f)) = true := by
    unfold good
    rw [status_yes hm c0 c1, page_yes hm f0 f1, decide_eq_true c0, decide_eq_true (by omega : 0 < slots k), decide_eq_true (by omega : 0 ≤ s.c + f)]; rfl
  unfold Sk.new
  rw [if_pos hg]
  cases hd : (Tk.new s c k).dn
  · rw [Sa.set_go _ (by exact hd)]
    exact ⟨fun g => (by cases g), fun _ _ g => (by cases g), fun _ g => (by cases g), fun _ _ g => (by cases g)⟩
  · rw [Sa.set_af _ (by exact hd)]
    exact ⟨fun g => (by cases g), fun _ _ g => (by cases g), fun _ g => (by cases g), fun _ _ g => (by cases g)⟩
theorem init {n : Nat} {s : Sh} {K f : Nat → Int} {w : Wd} (hm : may s.p s.c s.m = true) (hof : w.of s) (hz : ∀ j, w.ws j = 0) (nc : (n : Int) = s.c) (hK : ∀ c, c < n → 0 ≤ K c ∧ K c ≤ 3) (hf : ∀ c, c < n → 0 ≤ f c ∧ f c < s.p) : SkInv n s K f (fun c => Sk.new s c (K c) (f c)) w := by
  refine ⟨hof, hm, nc, Bs.zero hz, fun c hc => Sk.In.new hm (by omega) (by omega) _ _ (Own.zero (by omega) hz), fun c hc => ⟨(Sk.new_kp s c (K c) (f c)).2.2.1, (Sk.new_kp s c (K c) (f c)).2.2.2, hf c hc⟩, fun c hc => new_sn hm (by omega) (by omega) (hK c hc).1 (hK c hc).2 (hf c hc).1 (hf c hc).2, ?_⟩
  rw [cnt_none fun i _ => decide_eq_false fun g => g (hz _)]
  exact Nat.zero_le _
end SkInv
end Go.Ma
