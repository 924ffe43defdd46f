/-
  What a small operation, a region, a drawn region shows, it shows of whatever follows from it: walks may be cut. Conditions: none.
-/
import Derived.Test.YtfapipblclikbaaMore
set_option linter.unusedVariables false
namespace Go.Ev
open Go

section
variable {P : Program} {W : World} {F : Fr} {H : Hp} {K K' : Value → Hp → Prop}

theorem m_onV {α : Type} {v : α} {k k' : α → Prop} (h : onV v k) (hk : ∀ v, k v → k' v) : onV v k' := hk _ h
theorem m_onPtr {v : Value} {k k' : Nat → Nat → Prop} (h : onPtr v k) (hk : ∀ b o, k b o → k' b o) : onPtr v k' := by
  unfold onPtr at h ⊢; split at h
  · exact hk _ _ h
  · exact h
theorem m_onBool {v : Value} {k k' : Bool → Prop} (h : onBool v k) (hk : ∀ b, k b → k' b) : onBool v k' := by
  unfold onBool at h ⊢; split at h
  · exact hk _ h
  · exact h
theorem m_onInt {v : Value} {k k' : IntKind → Int → Prop} (h : onInt v k) (hk : ∀ a b, k a b → k' a b) : onInt v k' := by
  unfold onInt at h ⊢; split at h
  · exact hk _ _ h
  · exact h
theorem m_onSome {α : Type} {v : Option α} {k k' : α → Prop} (h : onSome v k) (hk : ∀ b, k b → k' b) : onSome v k' := by
  unfold onSome at h ⊢; split at h
  · exact hk _ h
  · exact h
theorem m_onTuple {v : Value} {k k' : Array Value → Prop} (h : onTuple v k) (hk : ∀ b, k b → k' b) : onTuple v k' := by
  unfold onTuple at h ⊢; split at h
  · exact hk _ h
  · exact h
theorem m_onAgg {v : Value} {k k' : Array Value → Prop} (h : onAgg v k) (hk : ∀ b, k b → k' b) : onAgg v k' := by
  unfold onAgg at h ⊢; split at h
  · exact hk _ h
  · exact h
theorem m_onSlice {v : Value} {k k' : Option Addr → Nat → Nat → Prop} (h : onSlice v k) (hk : ∀ a l c, k a l c → k' a l c) : onSlice v k' := by
  unfold onSlice at h ⊢; split at h
  · exact hk _ _ _ h
  · exact h
theorem m_onCells {v : Option Obj} {k k' : Array Value → TypeId → Prop} (h : onCells v k) (hk : ∀ a l, k a l → k' a l) : onCells v k' := by
  unfold onCells at h ⊢; split at h
  · exact hk _ _ h
  · exact h
theorem m_both {b : Bool} {p q p' q' : Prop} (h : both b p q) (hp : p → p') (hq : q → q') : both b p' q' := ⟨fun e => hp (h.1 e), fun e => hq (h.2 e)⟩
theorem m_newB {k k' : Nat → Prop} (h : newB W H k) (hk : ∀ b, k b → k' b) : newB W H k' := fun b hb f1 f2 => hk b (h b hb f1 f2)
theorem m_allCap {n : Nat} {k k' : Nat → Prop} (h : allCap n k) (hk : ∀ b, k b → k' b) : allCap n k' := fun b hb => hk b (h b hb)
theorem m_stow {a : Option Addr} {o : Nat} {new : Array Value} {k k' : Hp → Prop} (h : stow H a o new k) (hk : ∀ b, k b → k' b) : stow H a o new k' := by
  unfold stow at h ⊢
  by_cases hz : new.size = 0
  · rw [if_pos hz] at h ⊢; exact hk _ h
  · rw [if_neg hz] at h ⊢
    exact m_onPtr h fun _ _ h => m_onCells h fun _ _ h => ⟨h.1, h.2.1, m_onV h.2.2 fun _ h => hk _ h⟩
theorem m_orInt {x : Option Operand} {d : Int} {k k' : Int → Prop} (h : orInt F x d k) (hk : ∀ b, k b → k' b) : orInt F x d k' := by
  unfold orInt at h ⊢; split at h
  · exact hk _ h
  · exact m_onInt h fun _ _ h => hk _ h

theorem MO.wp_mono (m : MO) (h : m.wp P W F H K) (hk : ∀ v H', K v H' → K' v H') : m.wp P W F H K' := by
  cases m <;> simp only [MO.wp] at h ⊢
  case mv x => exact m_onV h fun _ h => hk _ _ h
  case pick c a b => exact m_onBool h fun _ h => m_both h (fun h => m_onV h fun _ h => hk _ _ h) (fun h => m_onV h fun _ h => hk _ _ h)
  case fad off x => exact m_onPtr h fun _ _ h => m_onV h fun _ h => hk _ _ h
  case ld1 x => exact m_onPtr h fun _ _ h => m_onSome h fun _ h => hk _ _ h
  case ldn n x => exact m_onPtr h fun _ _ h => m_onSome h fun _ h => hk _ _ h
  case st1 x v => exact m_onPtr h fun _ _ h => m_onV h fun _ h => m_onCells h fun _ _ h => ⟨h.1, h.2.1, m_onV h.2.2 fun _ h => hk _ _ h⟩
  case stn n x v => exact m_onPtr h fun _ _ h => m_onAgg h fun _ h => m_onCells h fun _ _ h => ⟨h.1, h.2.1, h.2.2.1, m_onV h.2.2.2 fun _ h => hk _ _ h⟩
  case box T x => exact m_onV h fun _ h => m_newB h fun _ h => hk _ _ h
  case alc T z => exact m_onV h fun _ h => m_newB h fun _ h => hk _ _ h
  case fld1 off x => exact m_onAgg h fun _ h => m_onSome h fun _ h => hk _ _ h
  case fldn off n x => exact m_onAgg h fun _ h => m_onV h fun _ h => hk _ _ h
  case ar op x y => exact m_onInt h fun _ _ h => m_onInt h fun _ _ h => ⟨h.1, m_onSome h.2 fun _ h => m_onV h fun _ h => hk _ _ h⟩
  case dv op x y => exact m_onInt h fun _ _ h => m_onInt h fun _ _ h => ⟨h.1, h.2.1, m_onSome h.2.2 fun _ h => hk _ _ h⟩
  case cmp op x y => exact m_onInt h fun _ _ h => m_onInt h fun _ _ h => ⟨h.1, m_onSome h.2 fun _ h => hk _ _ h⟩
  case bt op x y => exact m_onInt h fun _ _ h => m_onInt h fun _ _ h => ⟨h.1, m_onSome h.2 fun _ h => hk _ _ h⟩
  case sh op x y => exact m_onInt h fun _ _ h => m_onInt h fun _ _ h => ⟨h.1, m_onSome h.2 fun _ h => hk _ _ h⟩
  case nt x => exact m_onBool h fun _ h => m_onV h fun _ h => hk _ _ h
  case cv k x => exact m_onInt h fun _ _ h => m_onV h fun _ h => hk _ _ h
  case ext i x => exact m_onTuple h fun _ h => m_onSome h fun _ h => hk _ _ h
  case len x => exact m_onSlice h fun _ _ _ h => hk _ _ h
  case iad sz x i => exact m_onSlice h fun _ _ _ h => m_onInt h fun _ _ h => m_onPtr h fun _ _ h => ⟨h.1, h.2.1, m_onV h.2.2 fun _ h => hk _ _ h⟩
  case pcall f a => exact m_onSome h fun _ h => hk _ _ h
  case call f a => exact m_onV h fun _ h => CallP.mono h hk
  case aeq neg l x y => exact m_onAgg h fun _ h => m_onAgg h fun _ h => m_onSome h fun _ h => m_onV h fun _ h => hk _ _ h
  case slc3 sz x lo hi mx => exact m_onSlice h fun _ _ _ h => m_orInt h fun _ h => m_onInt h fun _ _ h => m_onInt h fun _ _ h => ⟨h.1, h.2.1, h.2.2.1, h.2.2.2.1, m_onV h.2.2.2.2 fun _ h => m_onV h fun _ h => m_onV h fun _ h => hk _ _ h⟩
  case snil neg x => exact m_onSlice h fun _ _ _ h => m_onV h fun _ h => hk _ _ h
  case bsl0 T n => exact m_newB h fun _ h => hk _ _ h
  case beq neg x y => exact m_onBool h fun _ h => m_onBool h fun _ h => m_onV h fun _ h => hk _ _ h
  case pnil neg x =>
    refine m_onV h fun v h => ?_
    split at h
    · exact m_onV h fun _ h => hk _ _ h
    · exact h
  case nilck x => exact m_onPtr h fun _ _ h => hk _ _ h
  case bld z ps => exact m_onV h fun _ h => ⟨h.1, m_onV h.2 fun _ h => hk _ _ h⟩
  case mks T bytes z l c => exact m_onInt h fun _ _ h => m_onInt h fun _ _ h => ⟨h.1, h.2.1, h.2.2.1, h.2.2.2.1, m_newB h.2.2.2.2 fun _ h => hk _ _ h⟩
  case bsl T z n sz ps => exact m_onV h fun _ h => ⟨h.1, m_onV h.2 fun _ h => m_newB h fun _ h => hk _ _ h⟩
  case iadA n sz x i => exact m_onPtr h fun _ _ h => m_onInt h fun _ _ h => ⟨h.1, h.2.1, m_onV h.2.2 fun _ h => hk _ _ h⟩
  case mn x y => exact m_onInt h fun _ _ h => m_onInt h fun _ _ h => m_onV h fun _ h => hk _ _ h
  case app T sz bytes z x y =>
    refine m_onSlice h fun a l c h => m_onSlice h fun a' n _ h => m_onSome h fun new h => ?_
    split at h
    · rename_i hc; simp only [if_pos hc]; exact m_stow h fun _ h => hk _ _ h
    · rename_i hc; simp only [if_neg hc]; exact ⟨h.1, h.2.1, m_onSome h.2.2 fun _ h => m_allCap h fun _ h => m_newB h fun _ h => hk _ _ h⟩
  case cpy sz x y => exact m_onSlice h fun _ _ _ h => m_onSlice h fun _ _ _ h => m_onV h fun _ h => m_onSome h fun _ h => m_stow h fun _ h => hk _ _ h
  case slc sz x lo hi => exact m_onSlice h fun _ _ _ h => m_orInt h fun _ h => m_orInt h fun _ h => ⟨h.1, h.2.1, h.2.2.1, m_onV h.2.2.2 fun _ h => m_onV h fun _ h => m_onV h fun _ h => hk _ _ h⟩
  case mkf f first cap => exact m_onV h fun _ h => m_onV h fun _ h => hk _ _ h
end

section
variable {P : Program} {W : World}
theorem m_onGuard {v : Value} {w : Bool} {p q p' q' : Prop} (h : onGuard v w p q) (hp : p → p') (hq : q → q') : onGuard v w p' q' := by
  unfold onGuard at h ⊢; split at h
  · cases w
    · exact m_both h hq hp
    · exact m_both h hp hq
  · exact hq h
theorem m_guarded {F : Fr} {g : Option (Nat × Bool)} {p q p' q' : Prop} (h : guarded F g p q) (hp : p → p') (hq : q → q') : guarded F g p' q' := by
  unfold guarded at h ⊢; split at h
  · exact hp h
  · exact m_onGuard h hp hq
theorem rwp_mono : ∀ (l : List MI) {K K' : Fr → Hp → Prop} {F : Fr} {H : Hp}, rwp P W l K F H → (∀ F H, K F H → K' F H) → rwp P W l K' F H
  | [], _, _, _, _, h, hk => hk _ _ h
  | ⟨d, m, g⟩ :: r, _, _, _, _, h, hk => m_guarded h (fun h => m.wp_mono h fun _ _ h => rwp_mono r h hk) (fun h => rwp_mono r h hk)
theorem m_twp {R : List (Nat × Array Value × List Nat)} {F : Fr} {H : Hp} {k k' : Value → Prop} (m : MO) (h : m.twp P W R F H k) (hk : ∀ v, k v → k' v) : m.twp P W R F H k' := by
  by_cases h1 : ∃ x, m = .ld1 x
  · obtain ⟨x, rfl⟩ := h1
    exact m_onPtr h fun _ _ h => m_onSome h fun _ h => ⟨h.1, hk _ h.2⟩
  · by_cases h2 : ∃ n x, m = .ldn n x
    · obtain ⟨n, x, rfl⟩ := h2
      exact m_onPtr h fun _ _ h => m_onSome h fun _ h => ⟨h.1, hk _ h.2⟩
    · have e : ∀ q, m.twp P W R F H q = m.wp P W F H fun v _ => q v := fun q => by
        cases m <;> first | rfl | exact absurd ⟨_, rfl⟩ h1 | exact absurd ⟨_, _, rfl⟩ h2
      rw [e] at h ⊢
      exact m.wp_mono h fun v _ hv => hk v hv
theorem dwp_mono {R : List (Nat × Array Value × List Nat)} : ∀ (l : ST) {K K' : Fr → Hp → Prop} {F : Fr} {H : Hp}, dwp P W R l K F H → (∀ F H, K F H → K' F H) → dwp P W R l K' F H
  | .done, _, _, _, _, h, hk => hk _ _ h
  | .take ⟨d, m, g⟩ r, _, _, _, _, h, hk => m_guarded h (fun h => m_twp m h fun _ h => dwp_mono r h hk) (fun h => dwp_mono r h hk)
  | .alt _ ⟨d, m, g⟩ r more, _, _, _, _, h, hk => ⟨m_guarded h.1 (fun h => m.wp_mono h fun _ _ h => ⟨h.1, dwp_mono r h.2 hk⟩) (fun h => dwp_mono r h hk), dwp_mono more h.2 hk⟩
  | .stop, _, _, _, _, _, _ => True.intro
theorem m_thn {n n' : Fr → Hp → Prop} {Q Q' : Exit → Fr → Hp → Prop} (hn : ∀ F H, n F H → n' F H) (hk : ∀ e F H, Q e F H → Q' e F H) : ∀ e F H, thn n Q e F H → thn n' Q' e F H := by
  intro e F H h
  cases e <;> first | exact hn _ _ h | exact hk _ _ _ h
theorem m_blk {id : Nat} {Q Q' : Exit → Fr → Hp → Prop} (hk : ∀ e F H, Q e F H → Q' e F H) : ∀ e F H, blk id Q e F H → blk id Q' e F H := by
  intro e F H h
  cases e
  case exit j => simp only [blk] at h ⊢; split at h <;> simp_all
  all_goals exact hk _ _ _ h
theorem mwp_mono : ∀ (m : MC) {Q Q' : Exit → Fr → Hp → Prop} {F : Fr} {H : Hp}, mwp P W m Q F H → (∀ e F H, Q e F H → Q' e F H) → mwp P W m Q' F H
  | .skip, _, _, _, _, h, hk => hk _ _ _ h
  | .ret, _, _, _, _, h, hk => hk _ _ _ h
  | .exit _, _, _, _, _, h, hk => hk _ _ _ h
  | .reg l, _, _, _, _, h, hk => rwp_mono l h fun F H h => hk _ _ _ h
  | .draw l, _, _, _, _, ⟨R, h0, h⟩, hk => ⟨R, h0, dwp_mono l h fun F H h => hk _ _ _ h⟩
  | .seq a b, _, _, _, _, h, hk => mwp_mono a h (m_thn (fun F H h => mwp_mono b h hk) hk)
  | .cond c a b, _, _, _, _, h, hk => m_onBool h fun _ h => m_both h (fun h => mwp_mono a h hk) (fun h => mwp_mono b h hk)
  | .block id a, _, _, _, _, h, hk => mwp_mono a h (m_blk hk)
  | .loop a, _, _, _, _, ⟨I, μ, h0, hr⟩, hk => ⟨I, μ, h0, fun F' H' hi => mwp_mono a (hr F' H' hi) (m_thn (fun _ _ h => h) hk)⟩
  | .no, _, _, _, _, h, _ => h

/-- So many rounds of a loop, written out. -/
def rounds (P : Program) (W : World) (a : MC) (Q : Exit → Fr → Hp → Prop) : Nat → Fr → Hp → Prop
  | 0, _, _ => False
  | n + 1, F, H => mwp P W a (thn (rounds P W a Q n) Q) F H
theorem rounds_s (a : MC) (Q : Exit → Fr → Hp → Prop) (n : Nat) (F : Fr) (H : Hp) : rounds P W a Q (n + 1) F H = mwp P W a (thn (rounds P W a Q n) Q) F H := _root_.id rfl
theorem rounds_z (a : MC) (Q : Exit → Fr → Hp → Prop) (F : Fr) (H : Hp) : rounds P W a Q 0 F H = False := _root_.id rfl
open Classical in
theorem loop_n {a : MC} {Q : Exit → Fr → Hp → Prop} {F : Fr} {H : Hp} (n : Nat) (h : rounds P W a Q n F H) : mwp P W (.loop a) Q F H := by
  have least : ∀ (n : Nat) (F : Fr) (H : Hp), rounds P W a Q n F H → ∃ m, m ≤ n ∧ rounds P W a Q m F H ∧ ∀ k, k < m → ¬ rounds P W a Q k F H := by
    intro n
    induction n using Nat.strongRecOn with
    | _ n ih =>
      intro F H h
      by_cases hx : ∃ k, k < n ∧ rounds P W a Q k F H
      · obtain ⟨k, hk, hr⟩ := hx
        obtain ⟨m, h1, h2, h3⟩ := ih k hk F H hr
        exact ⟨m, by omega, h2, h3⟩
      · exact ⟨n, Nat.le_refl _, h, fun k hk hr => hx ⟨k, hk, hr⟩⟩
  refine ⟨fun F H => ∃ n, rounds P W a Q n F H, fun F H => if h : ∃ n, rounds P W a Q n F H then Classical.choose (least h.choose F H h.choose_spec) else 0, ⟨n, h⟩, ?_⟩
  rintro F' H' hx
  simp only [dif_pos hx]
  have hsp := Classical.choose_spec (least hx.choose F' H' hx.choose_spec)
  generalize Classical.choose (least hx.choose F' H' hx.choose_spec) = m at hsp ⊢
  obtain ⟨-, hm, -⟩ := hsp
  cases m with
  | zero => exact False.elim hm
  | succ m =>
    refine mwp_mono a hm (m_thn (fun F2 H2 h2 => ⟨⟨m, h2⟩, ?_⟩) fun _ _ _ h => h)
    have hy : ∃ n, rounds P W a Q n F2 H2 := ⟨m, h2⟩
    simp only [dif_pos hy]
    have hsp2 := Classical.choose_spec (least hy.choose F2 H2 hy.choose_spec)
    generalize Classical.choose (least hy.choose F2 H2 hy.choose_spec) = k at hsp2 ⊢
    rcases Nat.lt_or_ge m k with hlt | hge
    · exact absurd h2 (hsp2.2.2 m hlt)
    · omega
end

end Go.Ev
