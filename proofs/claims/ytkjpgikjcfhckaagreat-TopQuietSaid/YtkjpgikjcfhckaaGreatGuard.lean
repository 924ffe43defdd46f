/-
 words.Guard: what is called in it and panics is recovered. Conditions: none.
-/
import Derived.Test.YtkjpgikjcfhckaaGreatWordsK
import Derived.Tactics
import Derived.Tactics2
import Derived.Defers
import Derived.Recover
import Derived.Laws.Pointers
set_option linter.unusedVariables false
set_option linter.unusedSimpArgs false
set_option maxRecDepth 8000
namespace Go.Proofs.YtkjpgikjcfhckaaGreat
open Go Go.Ev Go.Pl Go.Ma

theorem g_panicking (p:Addr) (x:Bool) (u:TypeId) (pv:Value) (older:List PanicEntry) (w:World) (hc:w.cell? p=some (.bool x)) (hz:w.frozen? p=false) :
  CallsD Tryz.prog 124 #[.pointer (some p)] (.panicking ({ v:=.iface u pv,recovered:=false } :: older)) w fun e u' w'=>
   e=.returned (.tuple #[])∧u'=.panicking ({ v:=.iface u pv,recovered:=true } :: older)∧w'=w.setCell p (.bool false):=by
 refine callsD_of_wpS Tryz.func124 rfl fun c₀ cs hu=>?_
 apply wpS_seq
 apply wpS_region
 simp [wpOpsS,go_sem,recoverD,hu,Exit.thenS]
 refine wpS_cond (t:=true) (by simp [Act.eval,Array.replicate]) ?_
 simp only[if_true]
 apply wpS_region
 simp [wpOpsS,go_sem,hc,hz,bodyPostS,results]
theorem g_idle (p:Addr) (w:World) :
  CallsD Tryz.prog 124 #[.pointer (some p)] .returning w fun e u' w'=>e=.returned (.tuple #[])∧u'=.returning∧w'=w:=by
 refine callsD_of_wpS Tryz.func124 rfl fun c₀ cs hu=>?_
 apply wpS_seq
 apply wpS_region
 simp [wpOpsS,go_sem,recoverD,hu,Exit.thenS]
 refine wpS_cond (t:=false) (by simp [Act.eval,Array.replicate]) ?_
 simp only[Bool.false_eq_true,if_false]
 refine wpS_of_wp (wp_skip ?_)
 cases c₀
 simp_all [bodyPostS,results]
theorem g_run (F:FuncId) (caps:Array Value) (w:World) (hF:∀ w,(callFunc F caps).run Tryz.prog w=.ok (.enter F caps) w) (Q:Ending→World→Prop)
  (hc:Calls Tryz.prog F caps (w.alloc (.cells #[.bool false] 4)) fun e u=>(e=.returned (.tuple #[])∨∃ t pv,e=.panicked [{ v:=.iface t pv,recovered:=false }])∧u.cell? ⟨w.heap.size,0,none⟩ = some (.bool false)∧u.frozen? ⟨w.heap.size,0,none⟩ = false∧Q e u) :
  Calls Tryz.prog 107 #[.func (.func F) #[] caps] w fun e u=>∃ e' u',Q e' u'∧((e'=.returned (.tuple #[])∧e=.returned (.bool true)∧u=u'.setCell ⟨w.heap.size,0,none⟩ (.bool true)) ∨
   ((∃ t pv,e'=.panicked [{ v:=.iface t pv,recovered:=false }])∧e=.returned (.bool false)∧u=u'.setCell ⟨w.heap.size,0,none⟩ (.bool false))):=by
 have hmf:∀ (fn:Fn) (first cap:Array Value) (w:World),(Instr.makeFunc fn first cap).run Tryz.prog w=.ok (.func fn first cap) w:=fun _ _ _ _=>rfl
 have hnil:∀ w,(Go.binOp BinOp.eql 1 (Value.func (Fn.func F) #[] caps) Value.nilFunc).run Tryz.prog w=.ok (.bool false) w:=fun w=>rfl
 go_enter_defers Tryz.func107,Tryz.ntmps36
 go_wp2
 refine hc.mono ?_
 rintro e u ⟨he,hu,hz,hq⟩
 rcases he with rfl |⟨t,pv,rfl⟩
 ·show _
  go_wp2
  refine leaves_cons (f:=124) (args:=#[.pointer (some ⟨w.heap.size,0,none⟩)]) (by simp) (by simp [go_sem]) ?_
  refine(g_idle ⟨w.heap.size,0,none⟩ _).mono ?_
  rintro e u' w'' ⟨rfl,rfl,rfl⟩
  simp [Leaves,settle,results,go_sem,hu]
  exact⟨_,_,hq,rfl,rfl⟩
 ·show _
  go_wp2
  refine leaves_cons (f:=124) (args:=#[.pointer (some ⟨w.heap.size,0,none⟩)]) (by simp) (by simp [go_sem]) ?_
  refine(g_panicking ⟨w.heap.size,0,none⟩ false t pv [] _ hu hz).mono ?_
  rintro e u' w'' ⟨rfl,rfl,rfl⟩
  simp [Leaves,settle,results,go_sem,hu]
  exact⟨_,_,hq,⟨_,_,rfl⟩,rfl⟩
def CallX (W:World) (f:FuncId) (args:Array Value) (H:Hp) (K:Hp→Prop):Prop:=
 ∀ w,Sat W H w→Calls Tryz.prog f args w fun e u=>∃ H' t pv,e=.panicked [{ v:=.iface t pv,recovered:=false }]∧Sat W H' u∧K H'
section
variable {W:World} {H:Hp} {l:List Hp} {K:Hp→Prop} {p:Value} {a c x y:Int}
end

theorem enter_run (F:FuncId) {fn:Func} {c:Code} (hf:Tryz.prog.funcs[F]? = some fn) (hn:(fn.name == "runtime.NumGoroutine")=false) (hb:fn.body=some c) (caps:Array Value) (w:World):(callFunc F caps).run Tryz.prog w=.ok (.enter F caps) w:=by
 have hn':¬ fn.name = "runtime.NumGoroutine" := by simpa using hn
 simp [callFunc,go_sem,hf,hn',hb]
section
variable {W:World} {H:Hp} {l l':List Hp} {F:FuncId} {caps:Array Value}
end
end Go.Proofs.YtkjpgikjcfhckaaGreat
