/-
  Who has a slot, counted: plain. Conditions: none.
-/
import Derived.Test.YtfapipblclikbaaMaMany3
import Derived.Test.YtfapipblclikbaaMaCount
import Derived.Test.YtfapipblclikbaaMaBd
set_option linter.unusedVariables false
namespace Go.Ma
open Go.Pl

theorem SlInv.one {n : Nat} {s : Sh} {k : Int} {free : Int → Prop} {ts : Nat → Sc} {w : Wd} (h : SlInv n s k free ts w) {c d : Nat} (hc : c < n) (hd : d < n) (h1 : (ts c).fd = true) (h2 : (ts d).fd = true) (e : (ts c).i = (ts d).i) : c = d := by
  have hm := (may_iff _ _ _).1 h.ok
  have hnc := h.nc
  obtain ⟨-, -, -, a⟩ := h.own c hc h1
  obtain ⟨-, -, -, b⟩ := h.own d hd h2
  rw [e, b] at a
  have := way_inj (by omega) (by omega) (by omega) (by omega) a
  omega
/-- As many have a slot as there are open ones, or all. -/
theorem SlInv.count {n S : Nat} {s : Sh} {k : Int} {free : Int → Prop} {B : Nat → Bool} {ts : Nat → Sc} {w : Wd} (h : SlInv n s k free ts w) (hS : slots k = S) (hB : ∀ q : Nat, q < S → (free q ↔ B q = true)) (hd : ∀ c, c < n → (ts c).dn = true) :
    cnt (fun c => (ts c).fd) n = min (cnt B S) n := by
  have hm := (may_iff _ _ _).1 h.ok
  have h1 : cnt (fun c => (ts c).fd) n ≤ n := cnt_le _ _
  have h2 : cnt (fun c => (ts c).fd) n ≤ cnt B S := by
    refine cnt_inj (f := fun c => (ts c).i.toNat) (fun c hc hf => ?_) (fun c d hc hd' hf hg e => ?_)
    · obtain ⟨a1, a2, a3, -⟩ := h.own c hc hf
      rw [hS] at a2
      refine ⟨by omega, ?_⟩
      have := hB (ts c).i.toNat (by omega)
      rw [show (((ts c).i.toNat : Nat) : Int) = (ts c).i by omega] at this
      exact this.1 a3
    · obtain ⟨a1, -⟩ := h.own c hc hf
      obtain ⟨b1, -⟩ := h.own d hd' hg
      exact h.one hc hd' hf hg (by have e : (ts c).i.toNat = (ts d).i.toNat := e; omega)
  by_cases hall : ∀ c, c < n → (ts c).fd = true
  · have := cnt_all hall
    omega
  · have hex : ∃ c, c < n ∧ (ts c).fd = false := by
      refine Classical.byContradiction fun hn => hall fun c hc => ?_
      cases hf : (ts c).fd
      · exact absurd ⟨c, hc, hf⟩ hn
      · rfl
    obtain ⟨a, ha, hf⟩ := hex
    have h3 : cnt B S ≤ cnt (fun c => (ts c).fd) n := by
      have key : ∀ q : Nat, ∃ c : Nat, q < S → B q = true → c < n ∧ (ts c).fd = true ∧ (ts c).i = q := fun q => by
        by_cases hq : q < S ∧ B q = true
        · have hsn := h.fin a ha (hd a ha) hf q (by omega) (by omega)
          rcases h.em q (by omega) (by omega) ((hB q hq.1).2 hq.2) with hz | ⟨c, c1, c2, c3⟩
          · exact absurd hz hsn
          · exact ⟨c, fun _ _ => ⟨c1, c2, c3⟩⟩
        · exact ⟨0, fun h1 h2 => absurd ⟨h1, h2⟩ hq⟩
      refine cnt_inj (f := fun q => Classical.choose (key q)) (fun q hq hb => ?_) (fun q r hq hr hb hc e => ?_)
      · obtain ⟨c1, c2, -⟩ := Classical.choose_spec (key q) hq hb
        exact ⟨c1, c2⟩
      · have x := (Classical.choose_spec (key q) hq hb).2.2
        have y := (Classical.choose_spec (key r) hr hc).2.2
        have e : Classical.choose (key q) = Classical.choose (key r) := e
        rw [e] at x
        rw [x] at y
        omega
    omega
/-- A page bound to class k, of as many clients as like. -/
theorem mine_many {n : Nat} {k : Int} {w : Wd} (h0 : 1 ≤ n) (h1 : n ≤ 12) (k0 : 0 ≤ k) (k1 : k ≤ 3) (h : w.get (n : Int) = putPg 2 k 0) : mineAt ⟨1, n, 0⟩ k 0 w = true := by
  have key : ∀ n : Fin 13, ∀ k : Fin 4, 1 ≤ n.val → (page 1 n.val 0 0 = n.val ∧ (okPg ⟨1, n.val, 0⟩ 0 (putPg 2 k.val 0) && decide (pgK ⟨1, n.val, 0⟩ 0 (putPg 2 k.val 0) = 2) && decide (pgA ⟨1, n.val, 0⟩ 0 (putPg 2 k.val 0) = k.val)) = true) := by decide +kernel
  obtain ⟨k, rfl⟩ := Int.eq_ofNat_of_zero_le k0
  obtain ⟨g1, g2⟩ := key ⟨n, by omega⟩ ⟨k, by omega⟩ h0
  unfold mineAt
  rw [show page (⟨1, n, 0⟩ : Sh).p (⟨1, n, 0⟩ : Sh).c (⟨1, n, 0⟩ : Sh).m 0 = n from g1, h]
  exact g2
end Go.Ma
