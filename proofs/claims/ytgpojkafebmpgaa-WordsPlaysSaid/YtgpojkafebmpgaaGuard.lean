/-
  words.Guard: what is called in it and panics is recovered. Conditions: none.
-/
import Derived.Test.YtgpojkafebmpgaaWordsK
import Derived.Tactics
import Derived.Tactics2
import Derived.Defers
import Derived.Recover
import Derived.Laws.Pointers
set_option linter.unusedVariables false
set_option linter.unusedSimpArgs false
set_option maxRecDepth 8000
namespace Go.Proofs.Ytgpojkafebmpgaa
open Go Go.Ev Go.Pl Go.Ma

theorem g_panicking (p : Addr) (x : Bool) (u : TypeId) (pv : Value) (older : List PanicEntry) (w : World) (hc : w.cell? p = some (.bool x)) (hz : w.frozen? p = false) :
    CallsD Try.prog 60 #[.pointer (some p)] (.panicking ({ v := .iface u pv, recovered := false } :: older)) w fun e u' w' =>
      e = .returned (.tuple #[]) ∧ u' = .panicking ({ v := .iface u pv, recovered := true } :: older) ∧ w' = w.setCell p (.bool false) := by
  refine callsD_of_wpS Try.func60 rfl fun c₀ cs hu => ?_
  apply wpS_seq
  apply wpS_region
  simp [wpOpsS, go_sem, recoverD, hu, Exit.thenS]
  refine wpS_cond (t := true) (by simp [Act.eval, Array.replicate]) ?_
  simp only [if_true]
  apply wpS_region
  simp [wpOpsS, go_sem, hc, hz, bodyPostS, results]
theorem g_idle (p : Addr) (w : World) :
    CallsD Try.prog 60 #[.pointer (some p)] .returning w fun e u' w' => e = .returned (.tuple #[]) ∧ u' = .returning ∧ w' = w := by
  refine callsD_of_wpS Try.func60 rfl fun c₀ cs hu => ?_
  apply wpS_seq
  apply wpS_region
  simp [wpOpsS, go_sem, recoverD, hu, Exit.thenS]
  refine wpS_cond (t := false) (by simp [Act.eval, Array.replicate]) ?_
  simp only [Bool.false_eq_true, if_false]
  refine wpS_of_wp (wp_skip ?_)
  cases c₀
  simp_all [bodyPostS, results]
/-- What is called in Guard. -/
theorem g_run (F : FuncId) (caps : Array Value) (w : World) (hF : ∀ w, (callFunc F caps).run Try.prog w = .ok (.enter F caps) w) (Q : Ending → World → Prop)
    (hc : Calls Try.prog F caps (w.alloc (.cells #[.bool false] 4)) fun e u => (e = .returned (.tuple #[]) ∨ ∃ t pv, e = .panicked [{ v := .iface t pv, recovered := false }]) ∧ u.cell? ⟨w.heap.size, 0, none⟩ = some (.bool false) ∧ u.frozen? ⟨w.heap.size, 0, none⟩ = false ∧ Q e u) :
    Calls Try.prog 17 #[.func (.func F) #[] caps] w fun e u => ∃ e' u', Q e' u' ∧ ((e' = .returned (.tuple #[]) ∧ e = .returned (.bool true) ∧ u = u'.setCell ⟨w.heap.size, 0, none⟩ (.bool true)) ∨
      ((∃ t pv, e' = .panicked [{ v := .iface t pv, recovered := false }]) ∧ e = .returned (.bool false) ∧ u = u'.setCell ⟨w.heap.size, 0, none⟩ (.bool false))) := by
  have hmf : ∀ (fn : Fn) (first cap : Array Value) (w : World), (Instr.makeFunc fn first cap).run Try.prog w = .ok (.func fn first cap) w := fun _ _ _ _ => rfl
  have hnil : ∀ w, (Go.binOp BinOp.eql 1 (Value.func (Fn.func F) #[] caps) Value.nilFunc).run Try.prog w = .ok (.bool false) w := fun w => rfl
  go_enter_defers Try.func17, Try.ntmps36
  go_wp2
  refine hc.mono ?_
  rintro e u ⟨he, hu, hz, hq⟩
  rcases he with rfl | ⟨t, pv, rfl⟩
  · show _
    go_wp2
    refine leaves_cons (f := 60) (args := #[.pointer (some ⟨w.heap.size, 0, none⟩)]) (by simp) (by simp [go_sem]) ?_
    refine (g_idle ⟨w.heap.size, 0, none⟩ _).mono ?_
    rintro e u' w'' ⟨rfl, rfl, rfl⟩
    simp [Leaves, settle, results, go_sem, hu, hz]
    exact ⟨_, _, hq, rfl, rfl⟩
  · show _
    go_wp2
    refine leaves_cons (f := 60) (args := #[.pointer (some ⟨w.heap.size, 0, none⟩)]) (by simp) (by simp [go_sem]) ?_
    refine (g_panicking ⟨w.heap.size, 0, none⟩ false t pv [] _ hu hz).mono ?_
    rintro e u' w'' ⟨rfl, rfl, rfl⟩
    simp [Leaves, settle, results, go_sem, hu, hz]
    exact ⟨_, _, hq, ⟨_, _, rfl⟩, rfl⟩
theorem g_nil (w : World) : Calls Try.prog 17 #[.nilFunc] w fun e u => e = .returned (.bool true) ∧ u = (w.alloc (.cells #[.bool false] 4)).setCell ⟨w.heap.size, 0, none⟩ (.bool true) := by
  have hnil : ∀ w, (Go.binOp BinOp.eql 1 Value.nilFunc Value.nilFunc).run Try.prog w = .ok (.bool true) w := fun w => rfl
  go_enter_defers Try.func17, Try.ntmps36
  go_wp2
  simp [bodyPostD, Leaves, results, go_sem]

/-- A call that panics. -/
def CallX (W : World) (f : FuncId) (args : Array Value) (H : Hp) (K : Hp → Prop) : Prop :=
  ∀ w, Sat W H w → Calls Try.prog f args w fun e u => ∃ H' t pv, e = .panicked [{ v := .iface t pv, recovered := false }] ∧ Sat W H' u ∧ K H'
section
variable {W : World} {H : Hp} {l : List Hp} {K : Hp → Prop} {p : Value} {a c x y : Int}
theorem x_must (hin : CallP Try.prog W 59 #[p, .int .i64 a] H fun v H' => v = .bool false ∧ K H') : CallX W 110 #[p, .int .i64 a] H K := by
  intro w hw
  have hp : ∀ (t : TypeId) (v : Value) (w : World), (Instr.panic (.iface t v)).run Try.prog w = .halt (.panic (.iface t v)) w := fun _ _ _ => rfl
  go_enter Try.func110, Try.ntmps110
  go_wp2_with (go_at_call 59; refine (hin _ hw).mono ?_; rintro e u ⟨v, H', rfl, hs, rfl, hK⟩)
  go_wp2
  simp only [bodyPost]
  exact ⟨trivial, H', _, _, rfl, hs, hK⟩
theorem x_load (hm : CallX W 110 #[p, .int .i64 a] H K) : CallX W 57 #[p, .int .i64 c, .int .i64 a] H K := by
  intro w hw
  go_enter Try.func57, Try.ntmps57
  go_wp2_with (go_at_call 110; refine (hm _ hw).mono ?_; rintro e u ⟨H', t, pv, rfl, hs, hK⟩)
  simp only [bodyPost]
  exact ⟨trivial, H', t, pv, rfl, hs, hK⟩
theorem x_store (hm : CallX W 110 #[p, .int .i64 a] H K) : CallX W 62 #[p, .int .i64 c, .int .i64 a, .int .u64 x] H K := by
  intro w hw
  go_enter Try.func62, Try.ntmps62
  go_wp2_with (go_at_call 110; refine (hm _ hw).mono ?_; rintro e u ⟨H', t, pv, rfl, hs, hK⟩)
  simp only [bodyPost]
  exact ⟨trivial, H', t, pv, rfl, hs, hK⟩
theorem x_swap (hm : CallX W 110 #[p, .int .i64 a] H K) : CallX W 55 #[p, .int .i64 c, .int .i64 a, .int .u64 x, .int .u64 y] H K := by
  intro w hw
  go_enter Try.func55, Try.ntmps55
  go_wp2_with (go_at_call 110; refine (hm _ hw).mono ?_; rintro e u ⟨H', t, pv, rfl, hs, hK⟩)
  simp only [bodyPost]
  exact ⟨trivial, H', t, pv, rfl, hs, hK⟩
theorem x_add (hm : CallX W 110 #[p, .int .i64 a] H K) : CallX W 56 #[p, .int .i64 c, .int .i64 a, .int .u64 x] H K := by
  intro w hw
  go_enter Try.func56, Try.ntmps56
  go_wp2_with (go_at_call 110; refine (hm _ hw).mono ?_; rintro e u ⟨H', t, pv, rfl, hs, hK⟩)
  simp only [bodyPost]
  exact ⟨trivial, H', t, pv, rfl, hs, hK⟩
end

theorem enter_run (F : FuncId) {fn : Func} {c : Code} (hf : Try.prog.funcs[F]? = some fn) (hn : (fn.name == "runtime.NumGoroutine") = false) (hb : fn.body = some c) (caps : Array Value) (w : World) : (callFunc F caps).run Try.prog w = .ok (.enter F caps) w := by
  have hn' : ¬ fn.name = "runtime.NumGoroutine" := by simpa using hn
  simp [callFunc, go_sem, hf, hn', hb]
section
variable {W : World} {H : Hp} {l l' : List Hp} {F : FuncId} {caps : Array Value}
/-- What is called in Guard comes back. -/
theorem c_guard_ret (hF : ∀ w, (callFunc F caps).run Try.prog w = .ok (.enter F caps) w) (hS : Sep l H) (hc : ∀ x H1, Sep (x :: l) H1 → CallP Try.prog W F caps H1 fun v H' => v = .tuple #[] ∧ Sep (x :: l') H') :
    CallP Try.prog W 17 #[.func (.func F) #[] caps] H fun v H' => v = .bool true ∧ Sep l' H' := by
  intro w hw
  have hf : ∀ j, (H j).isSome = true → (j = w.heap.size) = False := fun j hj => eq_false fun e => by
    obtain ⟨o, ho⟩ := Option.isSome_iff_exists.1 hj
    have := hw.lt ho; omega
  have hS2 := hS.new hf (.cells #[.bool false] 4 (0, 0))
  refine (g_run F caps w hF (fun e u => e = .returned (.tuple #[]) ∧ ∃ H', Sat W H' u ∧ Sep (sg w.heap.size (.cells #[.bool false] 4 (0, 0)) :: l') H') ((hc _ _ hS2 _ (hw.alloc _)).mono ?_)).mono ?_
  · rintro e u ⟨v, H', rfl, hs, rfl, hS3⟩
    have hk := hS3.look
    exact ⟨.inl rfl, hs.cell (by rw [rd_of hk]; rfl), hs.frozen hk 0, rfl, H', hs, hS3⟩
  · rintro e u ⟨e', u', ⟨rfl, H', hs, hS3⟩, ⟨-, rfl, rfl⟩ | ⟨⟨t, pv, h⟩, -, -⟩⟩
    · have hk := hS3.look
      have hs2 := hs.set hk 0 (.bool true)
      exact ⟨_, _, rfl, hs2, rfl, (hS3.set _).tail⟩
    · cases h
/-- What is called in Guard panics. -/
theorem c_guard_pan (hF : ∀ w, (callFunc F caps).run Try.prog w = .ok (.enter F caps) w) (hS : Sep l H) (hc : ∀ x H1, Sep (x :: l) H1 → CallX W F caps H1 fun H' => Sep (x :: l') H') :
    CallP Try.prog W 17 #[.func (.func F) #[] caps] H fun v H' => v = .bool false ∧ Sep l' H' := by
  intro w hw
  have hf : ∀ j, (H j).isSome = true → (j = w.heap.size) = False := fun j hj => eq_false fun e => by
    obtain ⟨o, ho⟩ := Option.isSome_iff_exists.1 hj
    have := hw.lt ho; omega
  have hS2 := hS.new hf (.cells #[.bool false] 4 (0, 0))
  refine (g_run F caps w hF (fun e u => (∃ t pv, e = .panicked [{ v := .iface t pv, recovered := false }]) ∧ ∃ H', Sat W H' u ∧ Sep (sg w.heap.size (.cells #[.bool false] 4 (0, 0)) :: l') H') ((hc _ _ hS2 _ (hw.alloc _)).mono ?_)).mono ?_
  · rintro e u ⟨H', t, pv, rfl, hs, hS3⟩
    have hk := hS3.look
    exact ⟨.inr ⟨_, _, rfl⟩, hs.cell (by rw [rd_of hk]; rfl), hs.frozen hk 0, ⟨_, _, rfl⟩, H', hs, hS3⟩
  · rintro e u ⟨e', u', ⟨⟨t, pv, rfl⟩, H', hs, hS3⟩, ⟨h, -, -⟩ | ⟨-, rfl, rfl⟩⟩
    · cases h
    · have hk := hS3.look
      have hs2 := hs.set hk 0 (.bool false)
      exact ⟨_, _, rfl, hs2, rfl, (hS3.set _).tail⟩
theorem c_guard_nil (hS : Sep l H) : CallP Try.prog W 17 #[.nilFunc] H fun v H' => v = .bool true ∧ Sep l H' := by
  intro w hw
  have hf : ∀ j, (H j).isSome = true → (j = w.heap.size) = False := fun j hj => eq_false fun e => by
    obtain ⟨o, ho⟩ := Option.isSome_iff_exists.1 hj
    have := hw.lt ho; omega
  have hS2 := hS.new hf (.cells #[.bool false] 4 (0, 0))
  refine (g_nil w).mono ?_
  rintro e u ⟨rfl, rfl⟩
  have hs2 := (hw.alloc (.cells #[.bool false] 4 (0, 0))).set hS2.look 0 (.bool true)
  exact ⟨_, _, rfl, hs2, rfl, (hS2.set _).tail⟩
end
end Go.Proofs.Ytgpojkafebmpgaa
