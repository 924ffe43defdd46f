/-
  Rows of any cells, of bools; more forms of arguments. Conditions: none.
-/
import Derived.Test.YtfopnendmcpglaaRow
import Derived.Test.YtfopnendmcpglaaFrame
import Derived.Deep.Grids
set_option linter.unusedVariables false
set_option linter.unusedSimpArgs false
namespace Go.Proofs.Ytfopnendmcpglaa
open Go Go.Ev Go.ChangeShapes Go.WideShapes Go.ChangeAt Go.RowKit

/-- A row of cells behind a slice. -/
def RowV (h : Hp) (a : Option Addr) (n : Nat) (vs : Nat → Value) : Prop := n = 0 ∨ ∃ b o, a = some ⟨b, o, none⟩ ∧ ∀ i, i < n → rd h b (o + i) = some (vs i)
theorem RowV.sub {h h' : Hp} {a : Option Addr} {n : Nat} {vs : Nat → Value} (hr : RowV h a n vs) (hs : Sub h h') : RowV h' a n vs := by
  rcases hr with hr | ⟨b, o, rfl, hr⟩
  · exact .inl hr
  · refine .inr ⟨b, o, rfl, fun i hi => ?_⟩
    have := hr i hi
    unfold rd at this ⊢
    split at this
    · rename_i c T f e; rw [hs _ _ e]; exact this
    · cases this
theorem RowV.at' {h : Hp} {a : Option Addr} {n : Nat} {vs : Nat → Value} (hr : RowV h a n vs) {i : Nat} (hi : i < n) : ∃ b o, a = some ⟨b, o, none⟩ ∧ rd h b (o + i) = some (vs i) := by
  rcases hr with hr | ⟨b, o, rfl, hr⟩
  · omega
  · exact ⟨b, o, rfl, hr i hi⟩

/-- A slice of bools: where they stand. -/
theorem bools_of {H : Type} {enc : TypeId × Value → H} {P : Program} {W : World} {t e : TypeId} {base : Nat} {v : Value} {d : DataW H} {p : List MemPlace} (ht : P.underlying t = some (.slice e)) (he : P.underlying e = some .bool) (hc : P.cellsOf e = 1)
    (hv : Value.okWide P W .any base t v) (hd : DataW.Trod enc P W 0 (fun _ => true) true t v d p) :
    ∃ (a : Option Addr) (n cap : Nat) (B : Nat → Bool), v = .slice a n cap ∧ n ≤ 9223372036854775807 ∧ RowV (memOf W) a n (fun i => .bool (B i)) := by
  obtain ⟨a, n, cap, rfl⟩ := okWide_slice ht hv
  obtain ⟨fuel, hf⟩ := hd
  rcases Go.Deep.open_bools ht he hc hf with ⟨h1, -⟩ | ⟨a', len, cap', B, h1, hb, hle, hmx, -, hcell⟩
  · simp [Value.cells] at h1
    obtain ⟨rfl, rfl, rfl⟩ := h1
    exact ⟨none, 0, 0, fun _ => false, rfl, by decide, .inl rfl⟩
  · simp [Value.cells] at h1
    obtain ⟨rfl, rfl, rfl⟩ := h1
    have hsp : a'.spot = none := by
      simp only [Value.okWide, ht, Cell.okWide, Cell.ok] at hv
      exact hv.2.2.2.1
    obtain ⟨b, o, sp⟩ := a'
    simp only at hsp
    subst hsp
    refine ⟨_, n, cap, B, rfl, ?_, .inr ⟨b, o, rfl, fun i hi => ?_⟩⟩
    · have : maxLen ≤ 9223372036854775807 := by decide
      omega
    · have := hcell i (by omega)
      rw [Addr_add] at this
      exact rd_memOf this

theorem ints5_of_ok {P : Program} {W : World} {t : TypeId} {v : Value} {base : Nat} {t0 t1 t2 t3 t4 : TypeId} {k0 k1 k2 k3 k4 : IntKind} (hk : (match P.underlying t with | some (.struct _) | some (.array _ _) => true | _ => false) = true)
    (hc : P.cellTypes P.depth t = some [t0, t1, t2, t3, t4]) (hn : P.cellsOf t = 5) (h0 : P.underlying t0 = some (.int k0)) (h1 : P.underlying t1 = some (.int k1)) (h2 : P.underlying t2 = some (.int k2)) (h3 : P.underlying t3 = some (.int k3)) (h4 : P.underlying t4 = some (.int k4))
    (h : Value.okWide P W .any base t v) : ∃ a b c d e, v = .agg #[.int k0 a, .int k1 b, .int k2 c, .int k3 d, .int k4 e] ∧ k0.has a ∧ k1.has b ∧ k2.has c ∧ k3.has d ∧ k4.has e := by
  obtain ⟨l, rfl, hl, hall⟩ := agg_of_ok hk hc hn h
  obtain ⟨x, y, z, q, r, rfl⟩ := list5 hl
  obtain ⟨u0, e0, o0⟩ := hall 0 x rfl
  obtain ⟨u1, e1, o1⟩ := hall 1 y rfl
  obtain ⟨u2, e2, o2⟩ := hall 2 z rfl
  obtain ⟨u3, e3, o3⟩ := hall 3 q rfl
  obtain ⟨u4, e4, o4⟩ := hall 4 r rfl
  injection e0 with e0; injection e1 with e1; injection e2 with e2; injection e3 with e3; injection e4 with e4
  subst e0; subst e1; subst e2; subst e3; subst e4
  obtain ⟨a, rfl, ha⟩ := int_of_ok h0 o0
  obtain ⟨b, rfl, hb⟩ := int_of_ok h1 o1
  obtain ⟨c, rfl, hc⟩ := int_of_ok h2 o2
  obtain ⟨d, rfl, hd⟩ := int_of_ok h3 o3
  obtain ⟨e, rfl, he⟩ := int_of_ok h4 o4
  exact ⟨a, b, c, d, e, rfl, ha, hb, hc, hd, he⟩
end Go.Proofs.Ytfopnendmcpglaa
