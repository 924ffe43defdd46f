/-
  Rows of deeds: structs of five numbers behind a slice. Conditions: none.
-/
import Derived.Test.YtgpojkafebmpgaaRowV
import Derived.Deep.Slices
import Derived.ChangeArms
set_option linter.unusedVariables false
set_option linter.unusedSimpArgs false
namespace Go.Proofs.Ytgpojkafebmpgaa
open Go Go.Ev Go.ChangeShapes Go.WideShapes Go.ChangeAt Go.RowKit

/-- A deed, as a value. -/
def dv (f : Nat → Nat → Int) (i : Nat) : Array Value := #[.int .i64 (f i 0), .int .i64 (f i 1), .int .i64 (f i 2), .int .u64 (f i 3), .int .u64 (f i 4)]
/-- A row of deeds behind a slice. -/
def RowD (h : Hp) (a : Option Addr) (n : Nat) (f : Nat → Nat → Int) : Prop := n = 0 ∨ ∃ b o, a = some ⟨b, o, none⟩ ∧ ∀ i, i < n → rdn h b (o + i * 5) 5 = some (dv f i)
theorem rdn_sub {h h' : Hp} {b o k : Nat} {v : Array Value} (hr : rdn h b o k = some v) (hs : Sub h h') : rdn h' b o k = some v := by
  unfold rdn at hr ⊢
  split at hr
  · rename_i c T f e; rw [hs _ _ e]; exact hr
  · cases hr
theorem RowD.sub {h h' : Hp} {a : Option Addr} {n : Nat} {f : Nat → Nat → Int} (hr : RowD h a n f) (hs : Sub h h') : RowD h' a n f := by
  rcases hr with hr | ⟨b, o, rfl, hr⟩
  · exact .inl hr
  · exact .inr ⟨b, o, rfl, fun i hi => rdn_sub (hr i hi) hs⟩
theorem RowD.at' {h : Hp} {a : Option Addr} {n : Nat} {f : Nat → Nat → Int} (hr : RowD h a n f) {i : Nat} (hi : i < n) : ∃ b o, a = some ⟨b, o, none⟩ ∧ rdn h b (o + i * 5) 5 = some (dv f i) := by
  rcases hr with hr | ⟨b, o, rfl, hr⟩
  · omega
  · exact ⟨b, o, rfl, hr i hi⟩
theorem rdn5 {h : Hp} {b o : Nat} {v0 v1 v2 v3 v4 : Value} (h0 : rd h b (o + 0) = some v0) (h1 : rd h b (o + 1) = some v1) (h2 : rd h b (o + 2) = some v2) (h3 : rd h b (o + 3) = some v3) (h4 : rd h b (o + 4) = some v4) : rdn h b o 5 = some #[v0, v1, v2, v3, v4] := by
  unfold rd at h0 h1 h2 h3 h4
  unfold rdn
  split at h0
  · rename_i c T f e
    simp only [e] at h1 h2 h3 h4 ⊢
    have hsz : o + 5 ≤ c.size := by
      have := (Array.getElem?_eq_some_iff.1 h4).1; omega
    rw [if_pos hsz]
    congr 1
    apply Array.ext
    · simp; omega
    · intro j j1 j2
      have hj : j < 5 := by simpa using j2
      simp only [Array.getElem_extract]
      rcases (by omega : j = 0 ∨ j = 1 ∨ j = 2 ∨ j = 3 ∨ j = 4) with rfl | rfl | rfl | rfl | rfl
      · exact (Array.getElem?_eq_some_iff.1 h0).2
      · exact (Array.getElem?_eq_some_iff.1 h1).2
      · exact (Array.getElem?_eq_some_iff.1 h2).2
      · exact (Array.getElem?_eq_some_iff.1 h3).2
      · exact (Array.getElem?_eq_some_iff.1 h4).2
  · cases h0
/-- A slice of deeds: where they stand. -/
theorem deeds_of {H : Type} {enc : TypeId × Value → H} {P : Program} {W : World} {t e : TypeId} {f0 f1 f2 f3 f4 : Field} {base : Nat} {v : Value} {d : DataW H} {p : List MemPlace} (ht : P.underlying t = some (.slice e)) (he : P.underlying e = some (.struct #[f0, f1, f2, f3, f4])) (hc : P.cellsOf e = 5)
    (o0 : f0.offset = 0) (o1 : f1.offset = 1) (o2 : f2.offset = 2) (o3 : f3.offset = 3) (o4 : f4.offset = 4) (c0 : P.cellsOf f0.type = 1) (c1 : P.cellsOf f1.type = 1) (c2 : P.cellsOf f2.type = 1) (c3 : P.cellsOf f3.type = 1) (c4 : P.cellsOf f4.type = 1)
    (k0 : P.underlying f0.type = some (.int .i64)) (k1 : P.underlying f1.type = some (.int .i64)) (k2 : P.underlying f2.type = some (.int .i64)) (k3 : P.underlying f3.type = some (.int .u64)) (k4 : P.underlying f4.type = some (.int .u64))
    (hv : Value.okWide P W .any base t v) (hd : DataW.Trod enc P W 0 (fun _ => true) true t v d p) :
    ∃ (a : Option Addr) (n cap : Nat) (f : Nat → Nat → Int), v = .slice a n cap ∧ n ≤ 9223372036854775807 ∧ RowD (memOf W) a n f := by
  obtain ⟨a, n, cap, rfl⟩ := okWide_slice ht hv
  obtain ⟨fuel, hf⟩ := hd
  rcases Go.Deep.open_slice ht hf with ⟨h1, -⟩ | ⟨a', len, cap', m, n', D, Pl, h1, hb, hle, hmx, hmm, -, hcell⟩
  · simp [Value.cells] at h1
    obtain ⟨rfl, rfl, rfl⟩ := h1
    exact ⟨none, 0, 0, fun _ _ => 0, rfl, by decide, .inl rfl⟩
  · simp [Value.cells] at h1
    obtain ⟨rfl, rfl, rfl⟩ := h1
    have hsp : a'.spot = none := by
      simp only [Value.okWide, ht, Cell.okWide, Cell.ok] at hv
      exact hv.2.2.2.1
    obtain ⟨b, o, sp⟩ := a'
    simp only at hsp
    subst hsp
    have hlm : n ≤ m := by rw [hmm]; split <;> omega
    have each : ∀ i, i < n → ∃ q : Int × Int × Int × Int × Int, rdn (memOf W) b (o + i * 5) 5 = some #[.int .i64 q.1, .int .i64 q.2.1, .int .i64 q.2.2.1, .int .u64 q.2.2.2.1, .int .u64 q.2.2.2.2] := by
      intro i hi
      obtain ⟨cs', g1, g2⟩ := hcell i (by omega)
      rw [hc] at g1
      obtain ⟨-, hlen, hcl⟩ := World.cells?_some g1
      obtain ⟨xs, k, hk, hxy, -, hxl, hff⟩ := DataW.trod_struct he g2
      match xs, hxl, cs', hlen with
      | [y0, y1, y2, y3, y4], _, [v0, v1, v2, v3, v4], _ =>
        have q0 := hff 0 f0 rfl
        have q1 := hff 1 f1 rfl
        have q2 := hff 2 f2 rfl
        have q3 := hff 3 f3 rfl
        have q4 := hff 4 f4 rfl
        simp [o0, o1, o2, o3, o4, c0, c1, c2, c3, c4] at q0 q1 q2 q3 q4
        obtain ⟨z0, e0, -⟩ := DataW.trod_int k0 q0
        obtain ⟨z1, e1, -⟩ := DataW.trod_int k1 q1
        obtain ⟨z2, e2, -⟩ := DataW.trod_int k2 q2
        obtain ⟨z3, e3, -⟩ := DataW.trod_int k3 q3
        obtain ⟨z4, e4, -⟩ := DataW.trod_int k4 q4
        simp only [List.cons.injEq, and_true] at e0 e1 e2 e3 e4
        subst e0; subst e1; subst e2; subst e3; subst e4
        have r : ∀ j, j < 5 → ∀ v, [Value.int .i64 z0, .int .i64 z1, .int .i64 z2, .int .u64 z3, .int .u64 z4][j]? = some v → rd (memOf W) b (o + i * 5 + j) = some v := fun j hj v hv => by
          have := hcl j hj
          rw [Go.Deep.add_add, Addr_add, hv] at this
          rw [Nat.add_assoc]
          exact rd_memOf this
        exact ⟨(z0, z1, z2, z3, z4), rdn5 (r 0 (by decide) _ rfl) (r 1 (by decide) _ rfl) (r 2 (by decide) _ rfl) (r 3 (by decide) _ rfl) (r 4 (by decide) _ rfl)⟩
    obtain ⟨q, hq⟩ := Go.Deep.choose_lt each
    refine ⟨_, n, cap, fun i j => match j with | 0 => (q i).1 | 1 => (q i).2.1 | 2 => (q i).2.2.1 | 3 => (q i).2.2.2.1 | _ => (q i).2.2.2.2, rfl, ?_, .inr ⟨b, o, rfl, fun i hi => hq i hi⟩⟩
    have : maxLen ≤ 9223372036854775807 := by decide
    omega
end Go.Proofs.Ytgpojkafebmpgaa
