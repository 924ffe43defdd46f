/-
  Who has a page, counted: plain. Conditions: none.
-/
import Derived.Test.YtfapipblclikbaaMaTurns
import Derived.Test.YtfapipblclikbaaMaCount
set_option linter.unusedVariables false
namespace Go.Ma
open Go.Pl

theorem PgInv.one {n : Nat} {s : Sh} {full : Int → Prop} {ts : Nat → Pc} {w : Wd} (h : PgInv n s full ts w) {c d : Nat} (hc : c < n) (hd : d < n) (h1 : (ts c).fd = true) (h2 : (ts d).fd = true) (e : (ts c).pg = (ts d).pg) : c = d := by
  have hm := (may_iff _ _ _).1 h.ok
  have hnc := h.nc
  obtain ⟨-, -, -, a⟩ := h.own c hc h1
  obtain ⟨-, -, -, b⟩ := h.own d hd h2
  rw [e, b] at a
  have := held_inj (by omega) (by omega) (by omega) (by omega) a
  omega
/-- As many have a page as there are, or all. -/
theorem PgInv.count {n P : Nat} {s : Sh} {full : Int → Prop} {B : Nat → Bool} {ts : Nat → Pc} {w : Wd} (h : PgInv n s full ts w) (hP : s.p = P) (hB : ∀ q : Nat, q < P → (full q ↔ B q = true)) (hd : ∀ c, c < n → (ts c).dn = true) :
    cnt (fun c => (ts c).fd) n = min (cnt (fun q => !B q) P) n := by
  have hm := (may_iff _ _ _).1 h.ok
  have h1 : cnt (fun c => (ts c).fd) n ≤ n := cnt_le _ _
  have h2 : cnt (fun c => (ts c).fd) n ≤ cnt (fun q => !B q) P := by
    refine cnt_inj (f := fun c => (ts c).pg.toNat) (fun c hc hf => ?_) (fun c d hc hd' hf hg e => ?_)
    · obtain ⟨a1, a2, a3, -⟩ := h.own c hc hf
      rw [hP] at a2
      refine ⟨by omega, ?_⟩
      have := hB (ts c).pg.toNat (by omega)
      rw [show (((ts c).pg.toNat : Nat) : Int) = (ts c).pg by omega] at this
      cases hb : B (ts c).pg.toNat
      · rfl
      · exact absurd (this.2 hb) a3
    · obtain ⟨a1, -⟩ := h.own c hc hf
      obtain ⟨b1, -⟩ := h.own d hd' hg
      exact h.one hc hd' hf hg (by have e : (ts c).pg.toNat = (ts d).pg.toNat := e; omega)
  by_cases hall : ∀ c, c < n → (ts c).fd = true
  · have := cnt_all hall
    omega
  · have hex : ∃ c, c < n ∧ (ts c).fd = false := by
      refine Classical.byContradiction fun hn => hall fun c hc => ?_
      cases hf : (ts c).fd
      · exact absurd ⟨c, hc, hf⟩ hn
      · rfl
    obtain ⟨a, ha, hf⟩ := hex
    have h3 : cnt (fun q => !B q) P ≤ cnt (fun c => (ts c).fd) n := by
      have key : ∀ q : Nat, ∃ c : Nat, q < P → B q = false → c < n ∧ (ts c).fd = true ∧ (ts c).pg = q := fun q => by
        by_cases hq : q < P ∧ B q = false
        · obtain ⟨f0, f1, fm⟩ := h.fin a ha (hd a ha) hf
          have hsn := h.seen a ha hf (((q : Int) - (ts a).f) % s.p) (Int.emod_nonneg _ (by omega)) (by rw [fm]; exact Int.emod_lt_of_pos _ (by omega))
          have e : ((ts a).f + ((q : Int) - (ts a).f) % s.p) % s.p = q := by
            rw [Int.add_emod_emod, show (ts a).f + ((q : Int) - (ts a).f) = q by omega]; exact Int.emod_eq_of_lt (by omega) (by omega)
          rw [e] at hsn
          rcases h.em q (by omega) (by omega) (fun hfu => by rw [(hB q hq.1).1 hfu] at hq; cases hq.2) with hz | ⟨c, c1, c2, c3⟩
          · exact absurd hz hsn
          · exact ⟨c, fun _ _ => ⟨c1, c2, c3⟩⟩
        · exact ⟨0, fun h1 h2 => absurd ⟨h1, h2⟩ hq⟩
      refine cnt_inj (f := fun q => Classical.choose (key q)) (fun q hq hb => ?_) (fun q r hq hr hb hc e => ?_)
      · have hb : B q = false := by simpa using hb
        obtain ⟨c1, c2, -⟩ := Classical.choose_spec (key q) hq hb
        exact ⟨c1, c2⟩
      · have hb : B q = false := by simpa using hb
        have hc : B r = false := by simpa using hc
        have x := (Classical.choose_spec (key q) hq hb).2.2
        have y := (Classical.choose_spec (key r) hr hc).2.2
        have e : Classical.choose (key q) = Classical.choose (key r) := e
        rw [e] at x
        rw [x] at y
        omega
    omega
end Go.Ma
