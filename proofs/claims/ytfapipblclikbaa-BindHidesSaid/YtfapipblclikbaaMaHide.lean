/-
  A binder and a claimer of slots at the same time, plain: the first slot is hidden, any other one is had once it is open. Conditions: none.
-/
import Derived.Test.YtfapipblclikbaaMaMany3
set_option linter.unusedVariables false
namespace Go.Ma
open Go.Pl

def sh3 : Sh := ⟨1, 3, 0⟩
theorem may3 : may sh3.p sh3.c sh3.m = true := by decide
theorem mine_held {w : Wd} {k : Int} (h : w.get 3 = held 0) : mineAt sh3 k 0 w = false := by
  have e : page sh3.p sh3.c sh3.m 0 = 3 := by decide
  unfold mineAt
  rw [e, h]
  have : decide (pgK sh3 0 (held 0) = 2) = false := by decide
  rw [this]; simp
theorem mine_super {w : Wd} {k : Int} (h0 : 0 ≤ k) (h1 : k ≤ 3) (h : w.get 3 = super k 0) : mineAt sh3 k 0 w = true := by
  have e : page sh3.p sh3.c sh3.m 0 = 3 := by decide
  unfold mineAt
  rw [e, h]
  rcases (by omega : k = 0 ∨ k = 1 ∨ k = 2 ∨ k = 3) with rfl | rfl | rfl | rfl <;> decide

structure HideInv (k : Int) (a : Bi) (b : Sc) (w : Wd) : Prop where
  of : w.of sh3
  ha : a.wf ∧ a.s = sh3 ∧ a.c = 0 ∧ a.p = 0 ∧ a.k = k
  hb : b.wf ∧ b.s = sh3 ∧ b.c = 1 ∧ b.f = 0 ∧ b.k = k
  kk : 0 ≤ k ∧ k ≤ 3
  adn : a.dn = true → a.bd = true ∧ a.i = 0
  pg : w.get 3 = if a.bd then super k 0 else held 0
  one : a.bd = false → b.nx = 0 ∧ b.fd = false ∧ 0 ≤ a.i ∧ a.i ≤ 16 ∧ (∀ j, 0 ≤ j → j < a.i → w.get (4 + j) = if j < slots k then way 0 else 0)
  two : a.bd = true → 0 ≤ a.i ∧ a.i < slots k ∧ (∀ j, 0 ≤ j → j ≤ a.i → w.get (4 + j) = way 0) ∧ ∀ j, a.i < j → j < slots k → w.get (4 + j) = opn k ∨ (b.fd = true ∧ b.i = j)
  fd : b.fd = true → b.dn = true ∧ a.bd = true ∧ a.i < b.i ∧ b.i < slots k ∧ w.get (4 + b.i) = way 1
namespace HideInv
variable {k : Int} {a : Bi} {b : Sc} {w : Wd}
theorem way_no {c k : Int} (h0 : 0 ≤ c) (h1 : c ≤ 255) (hk : 0 ≤ k ∧ k ≤ 3) : way c ≠ opn k := way_ne h0 h1 (slots_pos hk.1 hk.2)
theorem stepA (h : HideInv k a b w) : HideInv k (a.step w).1 b (a.step w).2 := by
  obtain ⟨a1, a2, a3, a4, a5⟩ := h.ha
  have hwf' := Bi.step_wf (w := w) a1
  have hof := Bi.step_of (t := a) h.of
  have hsb := slots_bd k
  have hsp := slots_pos h.kk.1 h.kk.2
  rcases Bi.step_cases a w with ⟨hd, e⟩ | ⟨hd, hcs⟩
  · rw [e]; exact h
  obtain ⟨b1, b2, b3, b4, b5, b6, b7, b8, b9⟩ := a1.of hd
  rw [a5] at b9
  have hat : ∀ i, 0 ≤ i → i < 16 → slot a.s.p a.s.c a.s.m a.p i = 4 + i := fun i i0 i1 => by
    rw [a2, a4, slot1 may3 rfl i0 i1]; rfl
  have hpat : a.pat = 3 := by unfold Bi.pat; rw [a2, a4]; decide
  rcases hcs with ⟨hb, e⟩ | ⟨hb, hi, e⟩ | ⟨hb, hi, e⟩
  · obtain ⟨c1, c2⟩ := b9 hb
    obtain ⟨t1, t2, t3, t4⟩ := h.two hb
    have hato : a.at' = 4 + a.i := hat a.i b7 (by omega)
    have hget : ∀ q, 0 ≤ q → (w.store a.c a.at' (opn a.k)).get q = if q = 4 + a.i then opn k else w.get q := fun q hq => by
      rw [hato, get_store (by omega) hq, a5]
    rw [e] at hwf' hof ⊢
    refine ⟨hof, ⟨hwf', a2, a3, a4, a5⟩, h.hb, h.kk, fun hdn => ⟨hb, ?_⟩, ?_, (fun hx => by have hx : a.bd = false := hx; rw [hb] at hx; cases hx), fun _ => ⟨by show 0 ≤ a.i - 1; omega, by show a.i - 1 < _; omega, fun j j0 j1 => ?_, fun j j0 j1 => ?_⟩, fun hf => ?_⟩
    · have hdn : decide (a.i - 1 = 0) = true := hdn
      show a.i - 1 = 0; simpa using hdn
    · rw [hget _ (by omega), if_neg (by omega)]; exact h.pg
    · have j1 : j ≤ a.i - 1 := j1
      rw [hget _ (by omega), if_neg (by omega)]; exact t3 j j0 (by omega)
    · have j0 : a.i - 1 < j := j0
      rw [hget _ (by omega)]
      by_cases ej : j = a.i
      · left; rw [if_pos (by omega)]
      · rw [if_neg (by omega)]; exact t4 j (by omega) j1
    · obtain ⟨f1, f2, f3, f4, f5⟩ := h.fd hf
      refine ⟨f1, hb, by show a.i - 1 < b.i; omega, f4, ?_⟩
      rw [hget _ (by omega), if_neg (by omega)]; exact f5
  · obtain ⟨o1, o2, o3, o4, o5⟩ := h.one hb
    have hget : ∀ q, 0 ≤ q → (w.store a.c a.pat (super a.k a.c)).get q = if q = 3 then super k 0 else w.get q := fun q hq => by
      rw [hpat, get_store (by omega) hq, a5, a3]
    rw [e] at hwf' hof ⊢
    refine ⟨hof, ⟨hwf', a2, a3, a4, a5⟩, h.hb, h.kk, (fun hdn => by have hdn : a.dn = true := hdn; rw [hd] at hdn; cases hdn), ?_, (fun hx => by cases hx), fun _ => ⟨by show 0 ≤ slots a.k - 1; rw [a5]; omega, by show slots a.k - 1 < _; rw [a5]; omega, fun j j0 j1 => ?_, fun j j0 j1 => ?_⟩, fun hf => ?_⟩
    · rw [hget _ (by omega), if_pos rfl]; rfl
    · have j1 : j ≤ slots a.k - 1 := j1
      rw [a5] at j1
      rw [hget _ (by omega), if_neg (by omega), o5 j j0 (by omega), if_pos (by omega)]
    · have j0 : slots a.k - 1 < j := j0
      rw [a5] at j0; omega
    · rw [o2] at hf; cases hf
  · obtain ⟨o1, o2, o3, o4, o5⟩ := h.one hb
    have hato : a.at' = 4 + a.i := hat a.i b7 (by omega)
    have hget : ∀ q, 0 ≤ q → (w.store a.c a.at' (if a.i < slots a.k then way a.c else 0)).get q = if q = 4 + a.i then (if a.i < slots k then way 0 else 0) else w.get q := fun q hq => by
      rw [hato, get_store (by omega) hq, a5, a3]
    rw [e] at hwf' hof ⊢
    refine ⟨hof, ⟨hwf', a2, a3, a4, a5⟩, h.hb, h.kk, (fun hdn => by have hdn : a.dn = true := hdn; rw [hd] at hdn; cases hdn), ?_, fun hx => ⟨o1, o2, by show 0 ≤ a.i + 1; omega, by show a.i + 1 ≤ 16; omega, fun j j0 j1 => ?_⟩, (fun hx => by have hx : a.bd = true := hx; rw [hb] at hx; cases hx), fun hf => ?_⟩
    · rw [hget _ (by omega), if_neg (by omega)]; exact h.pg
    · have j1 : j < a.i + 1 := j1
      rw [hget _ (by omega)]
      by_cases ej : j = a.i
      · rw [if_pos (by omega), ej]
      · rw [if_neg (by omega)]; exact o5 j j0 (by omega)
    · rw [o2] at hf; cases hf
/-- A claimer goes on without any word's changing. -/
theorem quiet (h : HideInv k a b w) {b2 : Sc} {w2 : Wd} (hof : w2.of sh3) (hg : ∀ q, 0 ≤ q → w2.get q = w.get q) (hf : b.fd = false) (hf2 : b2.fd = false) (hnx : a.bd = false → b2.nx = 0) (hb : b2.wf ∧ b2.s = sh3 ∧ b2.c = 1 ∧ b2.f = 0 ∧ b2.k = k) : HideInv k a b2 w2 := by
  refine ⟨hof, h.ha, hb, h.kk, h.adn, by rw [hg _ (by omega)]; exact h.pg, fun hx => ?_, fun hx => ?_, (fun hx => by rw [hf2] at hx; cases hx)⟩
  · obtain ⟨o1, o2, o3, o4, o5⟩ := h.one hx
    exact ⟨hnx hx, hf2, o3, o4, fun j j0 j1 => by rw [hg _ (by omega)]; exact o5 j j0 j1⟩
  · obtain ⟨t1, t2, t3, t4⟩ := h.two hx
    refine ⟨t1, t2, fun j j0 j1 => by rw [hg _ (by omega)]; exact t3 j j0 j1, fun j j0 j1 => ?_⟩
    rw [hg _ (by omega)]
    rcases t4 j j0 j1 with hz | ⟨h1, h2⟩
    · exact .inl hz
    · rw [hf] at h1; cases h1
theorem stepB (h : HideInv k a b w) : HideInv k a (b.step w).1 (b.step w).2 := by
  obtain ⟨a1, a2, a3, a4, a5⟩ := h.hb
  have hwf' := Sc.step_wf (w := w) a1
  have hof := Sc.step_of (t := b) h.of
  have hsb := slots_bd k
  have hsp := slots_pos h.kk.1 h.kk.2
  rcases Sc.step_cases b w with ⟨hd, e⟩ | ⟨hd, hcs⟩
  · rw [e]; exact h
  obtain ⟨b1, b2, b3, b4, b5, b6, b7, b8, b9, b10, b11⟩ := a1.of hd
  rw [a5] at b9
  rw [a2] at b7
  have b7 : b.many < 1 := b7
  have hff : b.fd = false := by
    cases hf : b.fd
    · rfl
    · rw [(h.fd hf).1] at hd; cases hd
  have hpg : b.pg = 0 := by unfold Sc.pg; rw [a2]; show (b.f + b.many) % 1 = 0; omega
  have hat : b.at' = 4 + b.i := by unfold Sc.at'; rw [a2, hpg, slot1 may3 rfl b8 (by omega)]; rfl
  have miss : b.nx ≠ 0 → ∀ w2 : Wd, w2.of sh3 → (∀ q, 0 ≤ q → w2.get q = w.get q) → b.miss.wf → HideInv k a b.miss w2 := fun hx w2 g1 g2 g3 => by
    have habd : a.bd = false → b.miss.nx = 0 := fun hq => absurd (h.one hq).1 hx
    refine h.quiet g1 g2 hff ?_ habd ⟨g3, Sc.miss_s.trans a2, Sc.miss_c.trans a3, ?_, ?_⟩
    · unfold Sc.miss Sc.turn; split <;> exact hff
    · unfold Sc.miss Sc.turn; split <;> exact a4
    · unfold Sc.miss Sc.turn; split <;> exact a5
  rcases hcs with ⟨hx, hz, e⟩ | ⟨hx, hz, e⟩ | ⟨hx, hz, e⟩ | ⟨hx, hz, e⟩ | ⟨hx, hx1, hz, e⟩ | ⟨hx, hx1, hz, e⟩
  · rw [e] at hof hwf' ⊢
    refine h.quiet hof (fun _ _ => rfl) hff hff (fun hq => ?_) ⟨hwf', a2, a3, a4, a5⟩
    exfalso
    have := h.pg
    rw [hq] at this
    rw [Sc.mine_eq, a2, a5, hpg, mine_held this] at hz; cases hz
  · rw [e] at hof hwf' ⊢
    exact h.quiet hof (fun _ _ => rfl) hff hff (fun _ => rfl) ⟨hwf', a2, a3, a4, a5⟩
  · rw [e] at hof hwf' ⊢
    exact h.quiet hof (fun _ _ => rfl) hff hff (fun hq => absurd (h.one hq).1 (by omega)) ⟨hwf', a2, a3, a4, a5⟩
  · rw [e] at hof hwf' ⊢
    exact miss (by omega) _ hof (fun _ _ => rfl) hwf'
  · rw [e] at hof hwf' ⊢
    rw [hat, a5] at hz
    have hget : ∀ q, 0 ≤ q → (w.swap b.c b.at' (opn b.k) (way b.c)).get q = if q = 4 + b.i then way 1 else w.get q := fun q hq => by
      rw [hat, get_swap (by omega) hq, a5, a3, if_pos hz]
    have hbd : a.bd = true := by
      cases hq : a.bd
      · exact absurd (h.one hq).1 hx
      · rfl
    obtain ⟨t1, t2, t3, t4⟩ := h.two hbd
    have hlt : a.i < b.i := by
      by_cases hl : a.i < b.i
      · exact hl
      · exfalso
        have := t3 b.i b8 (by omega)
        rw [hz] at this
        exact way_no (by decide) (by decide) h.kk this.symm
    refine ⟨hof, h.ha, ⟨hwf', a2, a3, a4, a5⟩, h.kk, h.adn, by rw [hget _ (by omega), if_neg (by omega)]; exact h.pg, (fun hq => by rw [hbd] at hq; cases hq), fun _ => ⟨t1, t2, fun j j0 j1 => ?_, fun j j0 j1 => ?_⟩, fun _ => ⟨rfl, hbd, hlt, b9, ?_⟩⟩
    · rw [hget _ (by omega), if_neg (by omega)]; exact t3 j j0 j1
    · rw [hget _ (by omega)]
      by_cases ej : j = b.i
      · right; exact ⟨rfl, ej.symm⟩
      · rw [if_neg (by omega)]
        rcases t4 j j0 j1 with hz | ⟨h1, h2⟩
        · exact .inl hz
        · rw [hff] at h1; cases h1
    · show (w.swap _ _ _ _).get (4 + b.i) = _
      rw [hget _ (by omega), if_pos rfl]
  · rw [e] at hof hwf' ⊢
    rw [hat, a5] at hz
    refine miss hx _ hof (fun q hq => ?_) hwf'
    rw [hat, get_swap (by omega) hq, a5, if_neg hz]
    split
    · rename_i e2; rw [e2]
    · rfl
theorem start {k : Int} {w : Wd} (hof : w.of sh3) (hk : 0 ≤ k ∧ k ≤ 3) (hp : w.get 3 = held 0) : HideInv k (Bi.new sh3 0 0 k) (Sc.new sh3 1 k 0) w := by
  refine ⟨hof, ⟨Bi.new_wf _ _ _ _, rfl, rfl, rfl, rfl⟩, ⟨Sc.new_wf _ _ _ _, rfl, rfl, rfl, rfl⟩, hk, fun hd => ?_, hp, fun _ => ⟨rfl, rfl, by show (0 : Int) ≤ 0; omega, by show (0 : Int) ≤ 16; omega, fun j j0 j1 => ?_⟩, (fun h => by cases h), (fun h => by cases h)⟩
  · exfalso
    have e : (Bi.new sh3 0 0 k).dn = false := by
      rcases (by omega : k = 0 ∨ k = 1 ∨ k = 2 ∨ k = 3) with rfl | rfl | rfl | rfl <;> decide
    rw [e] at hd; cases hd
  · have j1 : j < 0 := j1; omega
/-- What a third one comes to behind that. -/
theorem third {c : Sc} {w2 : Wd} (h : HideInv k a b w) (hd : a.dn = true) (hA : Sc.Al sh3 2 k 0 w c w2) (hc : c.dn = true) :
    c.fd = (decide (slots k > 2) || decide (slots k = 2) && !b.fd) ∧ (c.fd = true → c.i ≠ 0 ∧ (b.fd = true → c.i ≠ b.i)) := by
  obtain ⟨d1, d2⟩ := h.adn hd
  obtain ⟨t1, t2, t3, t4⟩ := h.two d1
  have hpg := h.pg
  rw [d1] at hpg
  have hmi := mine_super h.kk.1 h.kk.2 hpg
  have hsl : ∀ j, 0 ≤ j → j < 16 → slot sh3.p sh3.c sh3.m 0 j = 4 + j := fun j j0 j1 => by rw [slot1 may3 rfl j0 j1]; rfl
  have hsb := slots_bd k
  have hs2 : 2 ≤ slots k := by
    rcases (by have := h.kk; omega : k = 0 ∨ k = 1 ∨ k = 2 ∨ k = 3) with rfl | rfl | rfl | rfl <;> decide
  cases hf : c.fd
  · have hm := hA.fin hc hf
    refine ⟨?_, fun h => by cases h⟩
    have hcl := hA.seen 0 (by omega) (by rw [hm]; decide)
    have e0 : ((0 : Int) + 0) % sh3.p = 0 := by decide
    rw [e0] at hcl
    have hno : ∀ j, 0 ≤ j → j < slots k → w.get (4 + j) ≠ opn k := fun j j0 j1 => by
      rcases hcl with h1 | h1
      · rw [hmi] at h1; cases h1
      · have := h1 j j0 j1; rw [hsl j j0 (by omega)] at this; exact this
    have hb1 : b.fd = true ∧ b.i = 1 := by
      rcases t4 1 (by omega) (by omega) with hz | hz
      · exact absurd hz (hno 1 (by omega) (by omega))
      · exact hz
    have hs : ¬ slots k > 2 := fun hs => by
      rcases t4 2 (by omega) (by omega) with hz | hz
      · exact absurd hz (hno 2 (by omega) (by omega))
      · omega
    rw [decide_eq_false hs, hb1.1]; simp
  · obtain ⟨⟨y1, y2, y3, y4, y5, y6⟩, -⟩ := hA.yes hf
    have hcm : c.many = 0 := by have := hA.many.1; have y1 : c.many < 1 := y1; omega
    have hpg0 : c.pg = 0 := by unfold Sc.pg; rw [hA.hs, hA.hf, hcm]; decide
    have hat : c.at' = 4 + c.i := by unfold Sc.at'; rw [hA.hs, hpg0]; exact hsl c.i y3 (by omega)
    rw [hat] at y5
    have hne0 : c.i ≠ 0 := fun e => by
      have := t3 0 (by omega) (by omega)
      rw [e, this] at y5
      exact way_no (by decide) (by decide) h.kk y5
    have hneb : b.fd = true → c.i ≠ b.i := fun hb e => by
      have := (h.fd hb).2.2.2.2
      rw [← e, y5] at this
      exact way_no (by decide) (by decide) h.kk this.symm
    refine ⟨?_, fun _ => ⟨hne0, hneb⟩⟩
    by_cases hs : slots k > 2
    · rw [decide_eq_true hs]; rfl
    · have hs2' : slots k = 2 := by omega
      cases hb : b.fd
      · rw [decide_eq_true hs2']; simp
      · exfalso
        have := hneb hb
        have := (h.fd hb)
        omega
end HideInv
end Go.Ma
