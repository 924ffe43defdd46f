/-
 A small symbolic machine over the model: heaps as maps that may lack a place, compact operations translated from the model's code, and the proof that what the small machine shows holds of the model. Conditions: none; it speaks of whatever program.
-/
import Derived.WalkKit
import Derived.KernelRfl
import Derived.Deep.Quiet
import Derived.OrdersHeld
import Derived.Laws.StructEq
import Derived.Laws.Cover3
import Derived.Lib.LazyBuf
set_option linter.unusedVariables false
set_option linter.unusedSimpArgs false
namespace Go.Ev
open Go

/-! ### Heaps -/
abbrev Hp := Nat → Option Obj
def upd (H : Hp) (b : Nat) (o : Obj) : Hp := fun k => if k = b then some o else H k
def Sub (H H' : Hp) : Prop := ∀ k o, H k = some o → H' k = some o

theorem Sub.refl (H : Hp) : Sub H H := fun _ _ h => h
theorem Sub.trans {a b c : Hp} (h : Sub a b) (k : Sub b c) : Sub a c := fun x o hx => k x o (h x o hx)
theorem Sub.upd {B H : Hp} {b : Nat} {o : Obj} (h : Sub B H) (hb : B b = none) : Sub B (upd H b o) := by
 intro k o' hk
 unfold Ev.upd
 by_cases e : k = b
 ·subst e; rw [hb] at hk; cases hk
 ·rw [if_neg e]; exact h k o' hk

theorem upd_same (H : Hp) (b : Nat) (o : Obj) : upd H b o b = some o := if_pos rfl
theorem upd_upd (H : Hp) (b : Nat) (o o' : Obj) : upd (upd H b o) b o' = upd H b o' := by
 funext k; unfold upd; split <;> rfl

/-- The world w goes on from W, and holds what the heap H says. -/
structure Sat (W : World) (H : Hp) (w : World) : Prop where
 os : w.os = W.os
 tape : w.tape = W.tape
 output : w.output = W.output
 size : W.heap.size ≤ w.heap.size
 has : ∀ b o, H b = some o → w.heap[b]? = some o

theorem Sat.mono {W : World} {H H' : Hp} {w : World} (h : Sat W H w) (hs : Sub H' H) : Sat W H' w :=
 ⟨h.os, h.tape, h.output, h.size, fun b o hb => h.has b o (hs b o hb)⟩
theorem Sat.lt {W : World} {H : Hp} {w : World} (h : Sat W H w) {b : Nat} {o : Obj} (hb : H b = some o) : b < w.heap.size := by
 have := h.has b o hb
 rcases Nat.lt_or_ge b w.heap.size with h' | h'
 ·exact h'
 ·rw [Array.getElem?_eq_none h'] at this; cases this
theorem Sat.drew {W : World} {H : Hp} {w : World} (h : Sat W H w) (n : Nat) : Sat W H { w with drawn := n } :=
 ⟨h.os, h.tape, h.output, h.size, h.has⟩
theorem Sat.alloc {W : World} {H : Hp} {w : World} (h : Sat W H w) (o : Obj) : Sat W (upd H w.heap.size o) (w.alloc o) := by
 refine ⟨h.os, h.tape, h.output, by have := h.size; simp; omega, fun b o' hb => ?_⟩
 unfold upd at hb
 simp only [World.alloc, Array.getElem?_push]
 split at hb
 ·rename_i e; rw [if_pos e]; exact hb
 ·rename_i e; rw [if_neg e]; exact h.has b o' hb
theorem Sat.set {W : World} {H : Hp} {w : World} (h : Sat W H w) {b : Nat} {c : Array Value} {T : TypeId} {f : Nat × Nat} (hb : H b = some (.cells c T f)) (o : Nat) (v : Value) :
  Sat W (upd H b (.cells (c.setIfInBounds o v) T f)) (w.setCell ⟨b, o, none⟩ v) := by
 refine ⟨h.os, h.tape, h.output, by simpa using h.size, fun k o' hk => ?_⟩
 unfold upd at hk
 simp only [World.setCell, Array.getElem?_modify]
 split at hk
 ·rename_i e; subst e
  rw [if_pos rfl, h.has _ _ hb]
  simpa using hk
 ·rename_i e; rw [if_neg (fun x => e x.symm)]; exact h.has _ _ hk

/-- A cell, in every world that holds what H says. -/
def rd (H : Hp) (b o : Nat) : Option Value := match H b with
 | some (.cells c _ _) => c[o]?
 | _ => none
theorem rd_of {H : Hp} {b : Nat} {c : Array Value} {T : TypeId} {f : Nat × Nat} (h : H b = some (.cells c T f)) (o : Nat) : rd H b o = c[o]? := by
 unfold rd; rw [h]
theorem Sat.cell {W : World} {H : Hp} {w : World} (h : Sat W H w) {b o : Nat} {v : Value} (hr : rd H b o = some v) : w.cell? ⟨b, o, none⟩ = some v := by
 unfold rd at hr
 split at hr
 ·rename_i c T f hb
  unfold World.cell?
  rw [h.has _ _ hb]
  simpa using hr
 ·cases hr

/-! ### Frames -/
abbrev Fr := List (Nat × Value)
def gt : Fr → Nat → Value
 | [], _ => undef
 | (k, v) :: r, n => if k = n then v else gt r n
theorem gt_hit (k : Nat) (v : Value) (r : Fr) : gt ((k, v) :: r) k = v := if_pos rfl
theorem gt_miss {k n : Nat} (v : Value) (r : Fr) (h : (k == n) = false) : gt ((k, v) :: r) n = gt r n := if_neg (by simpa using h)

def act (N : Nat) (F : Fr) : Act := { tmps := Array.ofFn (n := N) fun i => gt F i, defers := [] }

def putD (F : Fr) : Option Nat → Value → Fr
 | none, _ => F
 | some d, v => (d, v) :: F

theorem act_put (N : Nat) (F : Fr) (d : Option Nat) (v : Value) : (act N F).put d v = act N (putD F d v) := by
 cases d with
 | none => rfl
 |some d =>
  unfold Act.put act putD
  simp only [Act.mk.injEq, and_true]
  apply Array.ext
  ·simp
  ·intro i h1 h2
   simp only [Array.size_setIfInBounds, Array.size_ofFn] at h1
   rw [Array.getElem_setIfInBounds (by simpa using h1)]
   simp only [Array.getElem_ofFn, gt]

def ev (F : Fr) : Operand → Value
 | .tmp t => gt F t
 | .const v => v
 | .global g => .pointer (some ⟨g, 0, none⟩)
 | .func f => .func (.func f) #[] #[]

def opOk (N : Nat) : Operand → Bool
 | .tmp t => decide (t < N)
 | _ => true

theorem act_eval {N : Nat} (F : Fr) {x : Operand} (h : opOk N x = true) : (act N F).eval x = ev F x := by
 cases x with
 |tmp t =>
  have ht : t < N := by simpa [opOk] using h
  simp [act, Act.eval, ev, ht]
 | const v => rfl
 | global g => rfl
 | func f => rfl

theorem act_get {N : Nat} (F : Fr) {t : Nat} (h : t < N) : (act N F).tmps[t]? = some (gt F t) := by
 simp [act, h]

/-! ### Combinators that look at one value. The mark 'Tag' keeps simp from looking into what follows before it is reached. -/
inductive Tag {α : Type} (a : α) : Type where
 | mk
def onPtr (v : Value) (k : Nat → Nat → Prop) (_x : Tag k := .mk) : Prop := match v with
 | .pointer (some ⟨b, o, none⟩) => k b o
 | _ => False
def onBool (v : Value) (k : Bool → Prop) (_x : Tag k := .mk) : Prop := match v with
 | .bool b => k b
 | _ => False
def onInt (v : Value) (k : IntKind → Int → Prop) (_x : Tag k := .mk) : Prop := match v with
 | .int t n => k t n
 | _ => False
def onSome {α : Type} (v : Option α) (k : α → Prop) (_x : Tag k := .mk) : Prop := match v with
 | some x => k x
 | none => False
def onTuple (v : Value) (k : Array Value → Prop) (_x : Tag k := .mk) : Prop := match v with
 | .tuple b => k b
 | _ => False
def onSlice (v : Value) (k : Option Addr → Nat → Nat → Prop) (_x : Tag k := .mk) : Prop := match v with
 | .slice a l c => k a l c
 | _ => False
/-- Is an interface value nil? -/
def onNil (v : Value) (k : Bool → Prop) (_x : Tag k := .mk) : Prop := match v with
 | .nilIface => k true
 | .iface _ _ => k false
 | _ => False
/-- An interface value that is not nil. -/
def onIf (v : Value) (k : TypeId → Value → Prop) (_x : Tag k := .mk) : Prop := match v with
 | .iface t u => k t u
 | _ => False
/-- An assertion to a concrete type, with its ok. -/
def onAs (T : TypeId) (z : Value) (v : Value) (k : Value → Prop) (_x : Tag k := .mk) : Prop := match v with
 | .nilIface => k (.tuple #[z, .bool false])
 | .iface t u => if t = T then k (.tuple #[u, .bool true]) else k (.tuple #[z, .bool false])
 | _ => False
/-- A value that is reckoned before it is handed on. -/
def onV {α : Type} (v : α) (k : α → Prop) (_x : Tag k := .mk) : Prop := k v
theorem onV_mk {α : Type} (v : α) (k : α → Prop) : onV v k = k v := _root_.id rfl
/-- Both ways of a Bool that may be open. -/
def both (b : Bool) (p q : Prop) (_x : Tag (p, q) := .mk) : Prop := (b = true → p) ∧ (b = false → q)
theorem both_true (p q : Prop) : both true p q = p := by simp [both]
theorem both_false (p q : Prop) : both false p q = q := by simp [both]

theorem onPtr_mk (b o : Nat) (k : Nat → Nat → Prop) : onPtr (.pointer (some ⟨b, o, none⟩)) k = k b o := _root_.id rfl
theorem onBool_mk (b : Bool) (k : Bool → Prop) : onBool (.bool b) k = k b := _root_.id rfl
theorem onInt_mk (t : IntKind) (n : Int) (k : IntKind → Int → Prop) : onInt (.int t n) k = k t n := _root_.id rfl
theorem onSome_mk {α : Type} (x : α) (k : α → Prop) : onSome (some x) k = k x := _root_.id rfl
theorem onTuple_mk (x : Array Value) (k : Array Value → Prop) : onTuple (.tuple x) k = k x := _root_.id rfl
theorem onNil_nil (k : Bool → Prop) : onNil .nilIface k = k true := _root_.id rfl
theorem onNil_mk (t : TypeId) (v : Value) (k : Bool → Prop) : onNil (.iface t v) k = k false := _root_.id rfl
theorem onIf_mk (t : TypeId) (v : Value) (k : TypeId → Value → Prop) : onIf (.iface t v) k = k t v := _root_.id rfl
theorem onAs_nil (T : TypeId) (z : Value) (k : Value → Prop) : onAs T z .nilIface k = k (.tuple #[z, .bool false]) := _root_.id rfl
theorem onAs_hit (T : TypeId) (z u : Value) (k : Value → Prop) : onAs T z (.iface T u) k = k (.tuple #[u, .bool true]) := if_pos rfl
theorem onAs_miss {t T : TypeId} (z u : Value) (k : Value → Prop) (h : (t == T) = false) : onAs T z (.iface t u) k = k (.tuple #[z, .bool false]) := if_neg (by simpa using h)
theorem onSlice_mk (a : Option Addr) (l c : Nat) (k : Option Addr → Nat → Nat → Prop) : onSlice (.slice a l c) k = k a l c := _root_.id rfl


/-! ### Pure functions: one value, whatever the heap, which stays as it is -/
def PureC (P : Program) (f : FuncId) (args : Array Value) (v : Value) : Prop :=
 P.inits.idxOf? f = none ∧ ∀ (W : World) (H : Hp) (w : World), Sat W H w → Calls P f args w fun e w' => e = .returned v ∧ Sat W H w'

theorem PureC.one {P : Program} {f : FuncId} {args : Array Value} {v v' : Value} (h : PureC P f args v) (h' : PureC P f args v') : v = v' := by
 have key : ∀ u, PureC P f args u → ∃ n w', runN P n (lone (Frame.enter P f args .normal) [] default) = .ended (.done u) w' := by
  intro u hu
  have hc := hu.2 default (fun _ => none) default ⟨rfl, rfl, rfl, Nat.le_refl _, fun _ _ h => by cases h⟩
  obtain ⟨n, v, w', hr, hv⟩ := Calls.done (R := fun x _ => x = u) (hc.mono fun e w' ⟨he, _⟩ => by subst he; rfl) hu.1
  exact ⟨n, w', by rw [hr, hv]⟩
 obtain ⟨n, w1, h1⟩ := key v h
 obtain ⟨m, w2, h2⟩ := key v' h'
 rcases Nat.le_total n m with hl | hl
 ·obtain ⟨d, rfl⟩ := Nat.le.dest hl
  rw [runN_add, h1] at h2; simp at h2; exact h2.1
 ·obtain ⟨d, rfl⟩ := Nat.le.dest hl
  rw [runN_add, h2] at h1; simp at h1; exact h1.1.symm

open Classical in
/-- The value that a pure function hands back. -/
noncomputable def pv (P : Program) (f : FuncId) (args : Array Value) : Option Value :=
 if h : ∃ v, PureC P f args v then some (Classical.choose h) else none
theorem pv_of {P : Program} {f : FuncId} {args : Array Value} {v : Value} (h : PureC P f args v) : pv P f args = some v := by
 unfold pv
 have hx : ∃ v, PureC P f args v := ⟨v, h⟩
 rw [dif_pos hx]
 exact congrArg some ((Classical.choose_spec hx).one h)
theorem of_pv {P : Program} {f : FuncId} {args : Array Value} {v : Value} (h : pv P f args = some v) : PureC P f args v := by
 unfold pv at h
 split at h
 ·rename_i hx; injection h with h; subst h; exact Classical.choose_spec hx
 ·cases h

/-- What a call comes to, by heaps. -/
def CallP (P : Program) (W : World) (f : FuncId) (args : Array Value) (H : Hp) (K : Value → Hp → Prop) : Prop :=
 ∀ w, Sat W H w → Calls P f args w fun e w' => ∃ v H', e = .returned v ∧ Sat W H' w' ∧ K v H'

theorem CallP.mono {P : Program} {W : World} {f : FuncId} {args : Array Value} {H : Hp} {K K' : Value → Hp → Prop} (h : CallP P W f args H K) (hk : ∀ v H', K v H' → K' v H') : CallP P W f args H K' :=
 fun w hw => (h w hw).mono fun _ _ ⟨v, H', he, hs, hK⟩ => ⟨v, H', he, hs, hk _ _ hK⟩

/-- A call, marked. -/
def callT (P : Program) (W : World) (f : FuncId) (args : Array Value) (H : Hp) (K : Value → Hp → Prop) (_x : Tag K := .mk) : Prop := CallP P W f args H K
theorem callT_of {P : Program} {W : World} {f : FuncId} {args : Array Value} {H : Hp} {K K' : Value → Hp → Prop} (h : CallP P W f args H K) (hk : ∀ v H', K v H' → K' v H') : callT P W f args H K' := h.mono hk

/-! ### Operations -/
def rdn (H : Hp) (b o n : Nat) : Option (Array Value) := match H b with
 | some (.cells c _ _) => if o + n ≤ c.size then some (c.extract o (o + n)) else none
 | _ => none
theorem rdn_of {H : Hp} {b : Nat} {c : Array Value} {T : TypeId} {f : Nat × Nat} (h : H b = some (.cells c T f)) (o n : Nat) : rdn H b o n = if o + n ≤ c.size then some (c.extract o (o + n)) else none := by
 unfold rdn; rw [h]
def onCells (x : Option Obj) (k : Array Value → TypeId → Prop) (_x : Tag k := .mk) : Prop := match x with
 | some (.cells c T (0, 0)) => k c T
 | _ => False
theorem onCells_mk (c : Array Value) (T : TypeId) (k : Array Value → TypeId → Prop) : onCells (some (.cells c T (0, 0))) k = k c T := _root_.id rfl
def onAgg (v : Value) (k : Array Value → Prop) (_x : Tag k := .mk) : Prop := match v with
 | .agg b => k b
 | _ => False
theorem onAgg_mk (x : Array Value) (k : Array Value → Prop) : onAgg (.agg x) k = k x := _root_.id rfl
def setN (c : Array Value) (o : Nat) : List Value → Array Value
 | [] => c
 | v :: r => setN (c.setIfInBounds o v) (o + 1) r
def fresh (H : Hp) (b : Nat) (p : Prop) : Prop := (∀ k, (H k).isSome = true → (k = b) = False) → (∀ k, (H k).isSome = true → (b = k) = False) → p
/-- A new block. -/
def newB (W : World) (H : Hp) (p : Nat → Prop) (_x : Tag p := .mk) : Prop := ∀ b, W.heap.size ≤ b → fresh H b (p b)
theorem newB_intro {W : World} {H : Hp} {p : Nat → Prop} (h : ∀ b, W.heap.size ≤ b → (∀ k, (H k).isSome = true → (k = b) = False) → (∀ k, (H k).isSome = true → (b = k) = False) → p b) : newB W H p := h
def allCap (n : Nat) (p : Nat → Prop) (_x : Tag p := .mk) : Prop := ∀ cap, n ≤ cap → p cap
/-- The cells of a slice's first elements. -/
def rds (H : Hp) (a : Option Addr) (n : Nat) : Option (Array Value) := match n, a with
 | 0, _ => some #[]
 | n, some ⟨b, o, none⟩ => rdn H b o n
 | _, _ => none
/-- Store a row of values behind an address. -/
def stow (H : Hp) (a : Option Addr) (off : Nat) (new : Array Value) (k : Hp → Prop) (_x : Tag k := .mk) : Prop :=
 if new.size = 0 then k H else
 onPtr (.pointer a) fun b o => onCells (H b) fun c T => o + off + new.size ≤ c.size ∧ new.toList.all Value.oneCell' = true ∧ onV (setN c (o + off) new.toList) fun c' => k (upd H b (.cells c' T (0, 0)))
def fillP (z : Array Value) : List (Nat × Value) → Array Value
 | [] => z
 | (o, v) :: r => fillP (setN z o v.cells.toList) r

/-- Where the scalar cells of a flat type stand; true: a bool. -/
def flatF (g : TypeId → Option (List (Nat × Bool))) (sz : TypeId → Option Nat) : List Field → Option (List (Nat × Bool))
 | [] => some []
 |f :: r => if f.name = "_" then none else match g f.type, sz f.type, flatF g sz r with
  | some l, some n, some k => if l.all (fun i => decide (i.1 < n)) then some (l.map (fun i => (f.offset + i.1, i.2)) ++ k) else none
  | _, _, _ => none
/-- A scalar's kind, where it is of one cell; true: a bool. -/
def flatE (P : Program) (T : TypeId) : Option Bool := match P.underlying T, (P.info? T).map (·.size) with
 | some (.int _), some 1 => some false
 | some .bool, some 1 => some true
 | _, _ => none
def flatB (P : Program) : Nat → TypeId → Option (List (Nat × Bool))
 | 0, _ => none
 |d + 1, T => match P.underlying T with
  | some (.int _) => some [(0, false)]
  | some .bool => some [(0, true)]
  | some (.struct fs) => if P.stoodInHeld T then none else flatF (flatB P d) (fun T => (P.info? T).map (·.size)) fs.toList
  | some (.array n e) => if n = 2 ∧ 0 < d then (flatE P e).map fun s => [(0, s), (1, s)] else none
  | _ => none
def eqS : Bool → Value → Value → Option Bool
 | false, .int k a, .int k' b => if k = k' then some (a == b) else none
 | true, .bool a, .bool b => some (a == b)
 | _, _, _ => none
def eqL : List (Nat × Bool) → Array Value → Array Value → Option Bool
 | [], _, _ => some true
 | (i, s) :: r, xs, ys => match xs[i]?, ys[i]? with
  |some a, some b => match eqS s a b, eqL r xs ys with
   | some t, some u => some (t && u)
   | _, _ => none
  | _, _ => none

/-- The function behind a method of a pointer's type that is the pointer's own. -/
def methB (P : Program) (t : TypeId) (name : String) : Option FuncId := match P.info? t with
 |some i => match i.methods.find? (fun m => m.name == name), P.underlying t with
  |some m, some (.pointer _) => match m.func with
   | some (f, true) => if m.path.toList = [] then if (P.funcs[f]?).any (fun fn => fn.body.isSome && fn.name != "runtime.NumGoroutine") then some f else none else none
   | _ => none
  | _, _ => none
 | none => none
inductive MO where
 | mif (T : TypeId) (x : Operand)
 | inil (neg : Bool) (x : Operand)
 | tas (T : TypeId) (z : Value) (x : Operand)
 | inv (name : String) (x : Operand) (a : List Operand)
 | aeq (neg : Bool) (l : List (Nat × Bool)) (x y : Operand)
 | mv (x : Operand)
 | pick (c a b : Operand)
 | fad (off : Nat) (x : Operand)
 | ld1 (x : Operand)
 | ldn (n : Nat) (x : Operand)
 | st1 (x v : Operand)
 | stn (n : Nat) (x v : Operand)
 | box (T : TypeId) (x : Operand)
 | alc (T : TypeId) (z : Value)
 | fld1 (off : Nat) (x : Operand)
 | fldn (off n : Nat) (x : Operand)
 | ar (op : BinOp) (x y : Operand)
 | dv (op : BinOp) (x y : Operand)
 | cmp (op : BinOp) (x y : Operand)
 | bt (op : BinOp) (x y : Operand)
 | sh (op : BinOp) (x y : Operand)
 | nt (x : Operand)
 | cv (k : IntKind) (x : Operand)
 | ext (i : Nat) (x : Operand)
 | len (x : Operand)
 | iad (sz : Nat) (x i : Operand)
 | pcall (f : FuncId) (a : List Operand)
 | call (f : FuncId) (a : List Operand)
 | beq (neg : Bool) (x y : Operand)
 | pnil (neg : Bool) (x : Operand)
 | nilck (x : Operand)
 | snil (neg : Bool) (x : Operand)
 | bsl0 (T : TypeId) (len : Nat)
 | bld (z : Array Value) (ps : List (Nat × Nat × Operand))
 | mks (T : TypeId) (bytes : Nat) (z : Value) (l c : Operand)
 | bsl (T : TypeId) (z : Array Value) (len sz : Nat) (ps : List (Nat × Operand))
 | iadA (n sz : Nat) (x i : Operand)
 | mn (x y : Operand)
 | app (T : TypeId) (sz bytes : Nat) (z : Array Value) (x y : Operand)
 | cpy (sz : Nat) (x y : Operand)
 | slc (sz : Nat) (x : Operand) (lo hi : Option Operand)
 | slc3 (sz : Nat) (x : Operand) (lo : Option Operand) (hi mx : Operand)
 | mkf (f : Fn) (first cap : List Operand)

/-- + - * on two numbers. -/
def arith (op : BinOp) (a b : Int) : Option Int := match op with
 | .add => some (a + b)
 | .sub => some (a - b)
 | .mul => some (a * b)
 | _ => none
def division (op : BinOp) (k : IntKind) (a b : Int) : Option Int := match op with
 | .quo => some (k.wrap (a.tdiv b))
 | .rem => some (a.tmod b)
 | _ => none
def compared (op : BinOp) (a b : Int) : Option Bool := match op with
 | .eql => some (a == b)
 | .neq => some (a != b)
 | .lss => some (decide (a < b))
 | .leq => some (decide (a ≤ b))
 | .gtr => some (decide (b < a))
 | .geq => some (decide (b ≤ a))
 | _ => none
def bitsOf (op : BinOp) (k : IntKind) (a b : Int) : Option Int := match op with
 | .and => some (bits .and k a b)
 | .or => some (bits .or k a b)
 | .xor => some (bits .xor k a b)
 | .andNot => some (bits .andNot k a b)
 | _ => none
def shifted (op : BinOp) (k : IntKind) (a b : Int) : Option Int := match op with
 | .shl => some (k.wrap (a * 2 ^ min b.toNat k.bits))
 | .shr => some (a.fdiv (2 ^ min b.toNat k.bits))
 | _ => none

def evs (F : Fr) : List Operand → List Value
 | [] => []
 | x :: r => ev F x :: evs F r
theorem evs_map (F : Fr) (l : List Operand) : evs F l = l.map (ev F) := by
 induction l with
 | nil => rfl
 | cons x r ih => simp [evs, ih]
def evp (F : Fr) : List (Nat × Nat × Operand) → List (Nat × Nat × Value)
 | [] => []
 | (o, n, x) :: r => (o, n, ev F x) :: evp F r
def sized (l : List (Nat × Nat × Value)) : Bool := l.all fun p => p.2.2.cells.size == p.2.1
def unsize (l : List (Nat × Nat × Value)) : List (Nat × Value) := l.map fun p => (p.1, p.2.2)
def orInt (F : Fr) (x : Option Operand) (d : Int) (k : Int → Prop) (_x : Tag k := .mk) : Prop := match x with
 | none => k d
 | some x => onInt (ev F x) fun _ n => k n

def MO.wp (P : Program) (W : World) (F : Fr) (H : Hp) (K : Value → Hp → Prop) : MO → Prop
 | mv x => onV (ev F x) fun v => K v H
 | pick c a b => onBool (ev F c) fun t => both t (onV (ev F a) fun v => K v H) (onV (ev F b) fun v => K v H)
 | fad off x => onPtr (ev F x) fun b o => onV (o + off) fun o' => K (.pointer (some ⟨b, o', none⟩)) H
 | ld1 x => onPtr (ev F x) fun b o => onSome (rd H b o) fun v => K v H
 | ldn n x => onPtr (ev F x) fun b o => onSome (rdn H b o n) fun v => K (.agg v) H
 | st1 x v => onPtr (ev F x) fun b o => onV (ev F v) fun u => onCells (H b) fun c T => o < c.size ∧ u.oneCell' = true ∧ onV (c.setIfInBounds o u) fun c' => K undef (upd H b (.cells c' T (0, 0)))
 | stn n x v => onPtr (ev F x) fun b o => onAgg (ev F v) fun vs => onCells (H b) fun c T => vs.size = n ∧ o + n ≤ c.size ∧ vs.toList.all Value.oneCell' = true ∧ onV (setN c o vs.toList) fun c' => K undef (upd H b (.cells c' T (0, 0)))
 | box T x => onV (ev F x).cells fun cs => newB W H fun b => K (.pointer (some ⟨b, 0, none⟩)) (upd H b (.cells cs T (0, 0)))
 | alc T z => onV z.cells fun cs => newB W H fun b => K (.pointer (some ⟨b, 0, none⟩)) (upd H b (.cells cs T (0, 0)))
 | fld1 off x => onAgg (ev F x) fun cs => onSome cs[off]? fun v => K v H
 | fldn off n x => onAgg (ev F x) fun cs => onV (cs.extract off (off + n)) fun c' => K (.agg c') H
 | ar op x y => onInt (ev F x) fun k a => onInt (ev F y) fun k' b => k = k' ∧ onSome (arith op a b) fun n => onV (k.wrap n) fun m => K (.int k m) H
 | dv op x y => onInt (ev F x) fun k a => onInt (ev F y) fun k' b => k = k' ∧ b ≠ 0 ∧ onSome (division op k a b) fun n => K (.int k n) H
 | cmp op x y => onInt (ev F x) fun k a => onInt (ev F y) fun k' b => k = k' ∧ onSome (compared op a b) fun t => K (.bool t) H
 | bt op x y => onInt (ev F x) fun k a => onInt (ev F y) fun k' b => k = k' ∧ onSome (bitsOf op k a b) fun n => K (.int k n) H
 | sh op x y => onInt (ev F x) fun k a => onInt (ev F y) fun k' b => 0 ≤ b ∧ onSome (shifted op k a b) fun n => K (.int k n) H
 | nt x => onBool (ev F x) fun b => onV (!b) fun b' => K (.bool b') H
 | cv k x => onInt (ev F x) fun _ n => onV (k.wrap n) fun m => K (.int k m) H
 | ext i x => onTuple (ev F x) fun vs => onSome vs[i]? fun v => K v H
 | len x => onSlice (ev F x) fun _ l _ => K (.int .i64 (l : Int)) H
 | iad sz x i => onSlice (ev F x) fun a l _ => onInt (ev F i) fun _ n => onPtr (.pointer a) fun b o => 0 ≤ n ∧ n < l ∧ onV (o + n.toNat * sz) fun o' => K (.pointer (some ⟨b, o', none⟩)) H
 | pcall f a => onSome (pv P f (evs F a).toArray) fun v => K v H
 | call f a => onV (evs F a) fun vs => callT P W f vs.toArray H K
 | aeq neg l x y => onAgg (ev F x) fun a => onAgg (ev F y) fun b => onSome (eqL l a b) fun u => onV (if neg then !u else u) fun t => K (.bool t) H
 | beq neg x y => onBool (ev F x) fun a => onBool (ev F y) fun b => onV (if neg then a != b else a == b) fun t => K (.bool t) H
 |pnil neg x => onV (ev F x) fun v => match v with
  | .pointer a => onV (if neg then !a.isNone else a.isNone) fun t => K (.bool t) H
  | _ => False
 | nilck x => onPtr (ev F x) fun b o => K (.pointer (some ⟨b, o, none⟩)) H
 | snil neg x => onSlice (ev F x) fun a _ _ => onV (if neg then !a.isNone else a.isNone) fun t => K (.bool t) H
 | bsl0 T n => newB W H fun b => K (.slice (some ⟨b, 0, none⟩) n n) (upd H b (.cells #[] T (0, 0)))
 | bld z ps => onV (evp F ps) fun l => sized l = true ∧ onV (fillP z (unsize l)) fun cs => K (.agg cs) H
 | mks T bytes z l c => onInt (ev F l) fun _ n => onInt (ev F c) fun _ m => 0 ≤ n ∧ n ≤ m ∧ bytes * m ≤ 281474976710656 ∧ m ≤ 9223372036854775807 ∧ newB W H fun b => K (.slice (some ⟨b, 0, none⟩) n.toNat m.toNat) (upd H b (.cells (Array.replicate m.toNat z) T (0, 0)))
 | bsl T z n sz ps => onV (evp F (ps.map fun p => (p.1 * sz, sz, p.2))) fun l => sized l = true ∧ onV (fillP z (unsize l)) fun cs => newB W H fun b => K (.slice (some ⟨b, 0, none⟩) n n) (upd H b (.cells cs T (0, 0)))
 | iadA n sz x i => onPtr (ev F x) fun b o => onInt (ev F i) fun _ m => 0 ≤ m ∧ m < n ∧ onV (o + m.toNat * sz) fun o' => K (.pointer (some ⟨b, o', none⟩)) H
 | mn x y => onInt (ev F x) fun k a => onInt (ev F y) fun _ b => onV (if b < a then b else a) fun n => K (.int k n) H
 | app T sz bytes z x y => onSlice (ev F x) fun a l c => onSlice (ev F y) fun a' n _ => onSome (rds H a' (n * sz)) fun new =>
   if l + n ≤ c then stow H a (l * sz) new fun H' => K (.slice a (l + n) c) H'
   else Builtin.nextslicecap (l + n) c * bytes ≤ 281474976710656 ∧ l + n ≤ 9223372036854775807 ∧ onSome (rds H a (l * sz)) fun old => allCap (l + n) fun cap => newB W H fun b => K (.slice (some ⟨b, 0, none⟩) (l + n) cap) (upd H b (.cells (old ++ new ++ Builtin.zeroCells z (cap - (l + n))) T (0, 0)))
 | cpy sz x y => onSlice (ev F x) fun a l _ => onSlice (ev F y) fun a' n _ => onV (Nat.min n l) fun m => onSome (rds H a' (m * sz)) fun new => stow H a 0 new fun H' => K (.int .i64 (m : Int)) H'
 | slc sz x lo hi => onSlice (ev F x) fun a l c => orInt F lo 0 fun i => orInt F hi l fun j => 0 ≤ i ∧ i ≤ j ∧ j ≤ c ∧ onV (if c = i.toNat then a else a.map (·.add (i.toNat * sz))) fun a' => onV (j.toNat - i.toNat) fun n => onV (c - i.toNat) fun m => K (.slice a' n m) H
 | slc3 sz x lo hi mx => onSlice (ev F x) fun a _ c => orInt F lo 0 fun i => onInt (ev F hi) fun _ j => onInt (ev F mx) fun _ m => 0 ≤ i ∧ i ≤ j ∧ j ≤ m ∧ m ≤ c ∧ onV (if m.toNat = i.toNat then a else a.map (·.add (i.toNat * sz))) fun a' => onV (j.toNat - i.toNat) fun n => onV (m.toNat - i.toNat) fun m' => K (.slice a' n m') H
 | mkf f first cap => onV (evs F first) fun u => onV (evs F cap) fun v => K (.func f u.toArray v.toArray) H
 | mif T x => onV (ev F x) fun v => K (.iface T v) H
 | inil neg x => onNil (ev F x) fun b => onV (if neg then !b else b) fun t => K (.bool t) H
 | tas T z x => onAs T z (ev F x) fun v => K v H
 | inv name x a => onIf (ev F x) fun t u => onSome (methB P t name) fun f => onV (u :: evs F a) fun vs => callT P W f vs.toArray H K

def aggB (P : Program) (T : TypeId) : Option Bool := match P.underlying T with
 | some (.struct _) | some (.array _ _) => some true
 | some _ => some false
 | none => none
def sizeB (P : Program) (T : TypeId) : Option Nat := (P.info? T).map (·.size)
def isInt (P : Program) (T : TypeId) : Bool := match P.underlying T with
 | some (.int _) => true
 | _ => false

/-- Where the parts of a struct go: offset, size, operand. -/
def places (P : Program) (fs : Array Field) (n : Nat) : List (Nat × Operand) → Option (List (Nat × Nat × Operand))
 | [] => some []
 | (i, x) :: r => match fs[i]? with
  |some f => match sizeB P f.type, places P fs n r with
   | some k, some l => if f.offset + k ≤ n then some ((f.offset, k, x) :: l) else none
   | _, _ => none
  | none => none

/-- Where the parts of an array go. -/
def placesA (k n : Nat) : List (Nat × Operand) → Option (List (Nat × Nat × Operand))
 | [] => some []
 | (i, x) :: r => match placesA k n r with
  | some l => if i * k + k ≤ n then some ((i * k, k, x) :: l) else none
  | none => none

/-- The small operation for an operation of the model. 'pure': the functions that are taken as pure. -/
def trOp (P : Program) (N : Nat) (pure : List FuncId) (o : Oper) : Option MO :=
 if o.op.operands.all (opOk N) then
  match o.op with
  | .move x | .assign x => some (.mv x)
  | .pick c a b => some (.pick c a b)
  | .box T x => some (.box T x)
  | .alloc T => match (P.info? T).bind (·.zero) with
   | some z => some (.alc T z)
   | none => none
  | .load T x => match aggB P T, sizeB P T with
   | some true, some n => some (.ldn n x)
   | some false, _ => some (.ld1 x)
   | _, _ => none
  | .store T x v => match aggB P T, sizeB P T with
   | some true, some n => some (.stn n x v)
   | some false, some 1 => some (.st1 x v)
   | _, _ => none
  | .fieldAddr S x i => match P.underlying S with
   |some (.struct fs) => match fs[i]? with
    |some f => match sizeB P f.type with
     | some (n + 1) => some (.fad f.offset x)
     | _ => none
    | none => none
   | _ => none
  | .field S x i => match P.underlying S with
   |some (.struct fs) => match fs[i]? with
    |some f => match aggB P f.type, sizeB P f.type with
     | some true, some n => some (.fldn f.offset n x)
     | some false, _ => some (.fld1 f.offset x)
     | _, _ => none
    | none => none
   | _ => none
  | .binOp op T x y _ =>
   if isInt P T then
    match op with
    | .add | .sub | .mul => some (.ar op x y)
    | .quo | .rem => some (.dv op x y)
    | .and | .or | .xor | .andNot => some (.bt op x y)
    | .shl | .shr => some (.sh op x y)
    | _ => some (.cmp op x y)
   else match P.underlying T, op with
    | some .bool, .eql => some (.beq false x y)
    | some .bool, .neq => some (.beq true x y)
    |some (.pointer _), .eql => match y with
     | .const (.pointer none) => some (.pnil false x)
     | _ => none
    |some (.pointer _), .neq => match y with
     | .const (.pointer none) => some (.pnil true x)
     | _ => none
    |some (.slice _), .eql => match y with
     | .const (.slice none 0 0) => some (.snil false x)
     | _ => none
    |some (.slice _), .neq => match y with
     | .const (.slice none 0 0) => some (.snil true x)
     | _ => none
    | some (.struct _), .eql => if P.eqGuardType P.depth T then none else (flatB P 5 T).map fun l => .aeq false l x y
    | some (.struct _), .neq => if P.eqGuardType P.depth T then none else (flatB P 5 T).map fun l => .aeq true l x y
    | some (.array _ _), .eql => if P.eqGuardType P.depth T then none else (flatB P 5 T).map fun l => .aeq false l x y
    | some (.array _ _), .neq => if P.eqGuardType P.depth T then none else (flatB P 5 T).map fun l => .aeq true l x y
    |some (.interface _), .eql => match y with
     | .const .nilIface => some (.inil false x)
     | _ => none
    |some (.interface _), .neq => match y with
     | .const .nilIface => some (.inil true x)
     | _ => none
    | _, _ => none
  | .unOp .not _ x => some (.nt x)
  | .convert S D x => match P.underlying S, P.underlying D with
   | some (.int _), some (.int k) => some (.cv k x)
   | _, _ => none
  | .extract x i => some (.ext i x)
  | .indexAddr T x i => match P.underlying T with
   |some (.slice e) => match sizeB P e with
    | some n => some (.iad n x i)
    | none => none
   |some (.array len e) => match sizeB P e with
    | some n => some (.iadA len n x i)
    | none => none
   | _ => none
  | .nilCheck x => some (.nilck x)
  | .build T ps => match P.underlying T, (P.info? T).bind (·.zero) with
   |some (.struct fs), some z => if fs.all (fun f => (sizeB P f.type).isSome) then match places P fs z.cells.size ps.toList with
    | some l => some (.bld z.cells l)
    | none => none
    else none
   |some (.array _ e), some z => match sizeB P e with
    |some k => match placesA k z.cells.size ps.toList with
     | some l => some (.bld z.cells l)
     | none => none
    | none => none
   | _, _ => none
  | .buildSlice T n ps => match P.underlying T with
   |some (.slice e) => match P.info? e with
    |some i => match i.zero with
     | some z => if n * i.size == 0 && ps.isEmpty then some (.bsl0 e n) else if n * i.size ≤ 4096 && z.cells.size == i.size && 0 < n * i.size && ps.all (fun p => p.1 < n) then some (.bsl e ((Array.range (n * i.size)).map (z.cells[· % z.cells.size]!)) n i.size ps.toList) else none
     | none => none
    | none => none
   | _ => none
  | .makeSlice T l c => match P.underlying T with
   |some (.slice e) => match P.info? e with
    |some i => match i.zero with
     | some z => if i.size == 1 && z.oneCell' then some (.mks e i.bytes z l c) else none
     | none => none
    | none => none
   | _ => none
  | .slice T x lo hi none => match P.underlying T with
   |some (.slice e) => match sizeB P e with
    | some n => some (.slc n x lo hi)
    | none => none
   | _ => none
  | .slice T x lo (some hi) (some mx) => match P.underlying T with
   |some (.slice e) => match sizeB P e with
    | some n => some (.slc3 n x lo hi mx)
    | none => none
   | _ => none
  | .makeFunc fn first cap => some (.mkf fn first.toList cap.toList)
  | .call { callee := .builtin .min, args, .. } => match args.toList with
   | [x, y] => some (.mn x y)
   | _ => none
  | .call { callee := .builtin .append, args, argTypes } => match args.toList, argTypes.toList with
   | [x, y], [t, t'] => match P.underlying t, P.underlying t' with
    |some (.slice e), some (.slice _) => match P.info? e with
     |some i => match i.zero with
      | some z => if t == t' then some (.app e i.size i.bytes z.cells x y) else none
      | none => none
     | none => none
    | _, _ => none
   | _, _ => none
  | .call { callee := .builtin .copy, args, argTypes } => match args.toList, argTypes.toList with
   | [x, y], [t, _] => match P.underlying t with
    |some (.slice e) => match sizeB P e with
     | some n => some (.cpy n x y)
     | none => none
    | _ => none
   | _, _ => none
  | .call { callee := .value (.func f), args, .. } =>
   if (P.funcs[f]?).any (fun fn => fn.body.isSome && fn.name != "runtime.NumGoroutine") then
    some (if pure.contains f then .pcall f args.toList else .call f args.toList)
   else none
  | .call { callee := .builtin .len, args, argTypes } => match args[0]?, (argTypes[0]?).bind P.underlying with
   | some x, some (.slice _) => if args.size = 1 then some (.len x) else none
   | _, _ => none
  | .makeInterface T x => if P.concrete T then some (.mif T x) else none
  | .typeAssert x _ T true => if P.concrete T then match (P.info? T).bind (·.zero) with
   | some z => some (.tas T z x)
   | none => none
   else none
  | .call { callee := .invoke x name, args, .. } => some (.inv name x args.toList)
  | _ => none
 else none



theorem Addr_add (b o n : Nat) : (⟨b, o, none⟩ : Addr).add n = ⟨b, o + n, none⟩ := by
 unfold Addr.add; split <;> simp_all

/-- What an operation must show: with a value and a heap. -/
abbrev Done (N : Nat) (F : Fr) (dst : Option Nat) (W : World) (K : Value → Hp → Prop) : Act → World → Prop :=
 fun a' w' => ∃ v H', a' = act N (putD F dst v) ∧ Sat W H' w' ∧ K v H'

section
variable {P : Program} {N : Nat} {W w : World} {F : Fr} {H : Hp} {K : Value → Hp → Prop} {Q : Exit → Act → World → Prop}

theorem onPtr_elim {v : Value} {k : Nat → Nat → Prop} (h : onPtr v k) : ∃ b o, v = .pointer (some ⟨b, o, none⟩) ∧ k b o := by
 unfold onPtr at h; split at h
 ·exact ⟨_, _, rfl, h⟩
 ·cases h
theorem onBool_elim {v : Value} {k : Bool → Prop} (h : onBool v k) : ∃ b, v = .bool b ∧ k b := by
 unfold onBool at h; split at h
 ·exact ⟨_, rfl, h⟩
 ·cases h
theorem onInt_elim {v : Value} {k : IntKind → Int → Prop} (h : onInt v k) : ∃ t n, v = .int t n ∧ k t n := by
 unfold onInt at h; split at h
 ·exact ⟨_, _, rfl, h⟩
 ·cases h
theorem onSome_elim {α : Type} {v : Option α} {k : α → Prop} (h : onSome v k) : ∃ x, v = some x ∧ k x := by
 unfold onSome at h; split at h
 ·exact ⟨_, rfl, h⟩
 ·cases h
theorem onTuple_elim {v : Value} {k : Array Value → Prop} (h : onTuple v k) : ∃ x, v = .tuple x ∧ k x := by
 unfold onTuple at h; split at h
 ·exact ⟨_, rfl, h⟩
 ·cases h
theorem onAgg_elim {v : Value} {k : Array Value → Prop} (h : onAgg v k) : ∃ x, v = .agg x ∧ k x := by
 unfold onAgg at h; split at h
 ·exact ⟨_, rfl, h⟩
 ·cases h
theorem onSlice_elim {v : Value} {k : Option Addr → Nat → Nat → Prop} (h : onSlice v k) : ∃ a l c, v = .slice a l c ∧ k a l c := by
 unfold onSlice at h; split at h
 ·exact ⟨_, _, _, rfl, h⟩
 ·cases h
theorem onNil_elim {v : Value} {k : Bool → Prop} (h : onNil v k) : ∃ b, ((v = .nilIface ∧ b = true) ∨ ∃ t u, v = .iface t u ∧ b = false) ∧ k b := by
 unfold onNil at h; split at h
 ·exact ⟨true, .inl ⟨rfl, rfl⟩, h⟩
 ·exact ⟨false, .inr ⟨_, _, rfl, rfl⟩, h⟩
 ·cases h
theorem onIf_elim {v : Value} {k : TypeId → Value → Prop} (h : onIf v k) : ∃ t u, v = .iface t u ∧ k t u := by
 unfold onIf at h; split at h
 ·exact ⟨_, _, rfl, h⟩
 ·cases h
theorem onAs_elim {T : TypeId} {z v : Value} {k : Value → Prop} (h : onAs T z v k) : ∃ r, ((v = .nilIface ∧ r = .tuple #[z, .bool false]) ∨ ∃ t u, v = .iface t u ∧ r = if t = T then .tuple #[u, .bool true] else .tuple #[z, .bool false]) ∧ k r := by
 unfold onAs at h; split at h
 ·exact ⟨_, .inl ⟨rfl, rfl⟩, h⟩
 ·rename_i t u
  split at h
  ·rename_i e; exact ⟨_, .inr ⟨t, u, rfl, (if_pos e).symm⟩, h⟩
  ·rename_i e; exact ⟨_, .inr ⟨t, u, rfl, (if_neg e).symm⟩, h⟩
 ·cases h
theorem onCells_elim {v : Option Obj} {k : Array Value → TypeId → Prop} (h : onCells v k) : ∃ c T, v = some (.cells c T (0, 0)) ∧ k c T := by
 unfold onCells at h; split at h
 ·exact ⟨_, _, rfl, h⟩
 ·cases h
theorem both_elim {b : Bool} {p q : Prop} (h : both b p q) : if b then p else q := by
 cases b
 ·exact h.2 rfl
 ·exact h.1 rfl

theorem run_isAgg {T : TypeId} {b : Bool} (h : aggB P T = some b) (w : World) : (isAgg T).run P w = .ok b w := by
 unfold aggB at h
 unfold isAgg
 rw [Sem.run_bind]
 split at h
 ·rename_i e; injection h with h; subst h; rw [run_underlying e w]; rfl
 ·rename_i e; injection h with h; subst h; rw [run_underlying e w]; rfl
 ·rename_i d e1 e2 e; injection h with h; subst h; rw [run_underlying e w]
  cases d <;> first | rfl | (exact absurd rfl (e1 _)) | (exact absurd rfl (e2 _ _))
 ·cases h
theorem run_size {T : TypeId} {n : Nat} (h : sizeB P T = some n) (w : World) : (sizeOf T).run P w = .ok n w := by
 unfold sizeB at h
 cases e : P.info? T with
 | none => rw [e] at h; cases h
 | some i => rw [e] at h; simp at h; simp [sizeOf, typeInfo, e, h]

theorem run_load1 (hw : Sat W H w) {T : TypeId} (ha : aggB P T = some false) {b o : Nat} {v : Value} (hr : rd H b o = some v) :
  (Instr.loadAt T (.pointer (some ⟨b, o, none⟩))).run P w = .ok v w := by
 simp [Instr.loadAt, Instr.sureAddr, loadVar, run_isAgg ha, hw.cell hr]
theorem run_loadn (hw : Sat W H w) {T : TypeId} {n : Nat} (ha : aggB P T = some true) (hn : sizeB P T = some n) {b o : Nat} {cs : Array Value} (hr : rdn H b o n = some cs) :
  (Instr.loadAt T (.pointer (some ⟨b, o, none⟩))).run P w = .ok (.agg cs) w := by
 have hl : (loadCells ⟨b, o, none⟩ n).run P w = .ok cs w := by
  unfold rdn at hr
  split at hr
  ·rename_i c T' f hb
   split at hr
   ·rename_i hle
    injection hr with hr; subst hr
    have := run_loadCells_list (P := P) w ⟨b, o, none⟩ (c.extract o (o + n)).toList (fun j v hv => by
     rw [Addr_add]
     have hj : j < n := by
      rcases Nat.lt_or_ge j n with h' | h'
      ·exact h'
      ·rw [Array.getElem?_toList, Array.getElem?_eq_none (by simp; omega)] at hv; cases hv
     refine hw.cell (v := v) ?_
     rw [rd_of hb]
     rw [Array.getElem?_toList, Array.getElem?_extract] at hv
     rw [if_pos (by omega)] at hv
     exact hv)
    have hlen : (c.extract o (o + n)).toList.length = n := by simp; omega
    rw [hlen, Array.toArray_toList] at this
    exact this
   ·cases hr
  ·cases hr
 simp [Instr.loadAt, Instr.sureAddr, loadVar, run_isAgg ha, run_size hn, hl]

theorem Sat.frozen {W : World} {H : Hp} {w : World} (h : Sat W H w) {b : Nat} {c : Array Value} {T : TypeId} (hb : H b = some (.cells c T (0, 0))) (o : Nat) : w.frozen? ⟨b, o, none⟩ = false := by
 unfold World.frozen?; rw [h.has _ _ hb]; simp

theorem run_store1 (hw : Sat W H w) {b o : Nat} {c : Array Value} {T' : TypeId} (hb : H b = some (.cells c T' (0, 0))) (ho : o < c.size) {v : Value} (hv : v.oneCell' = true) (m : Mode) :
  (store ⟨b, o, none⟩ v m).run P w = .ok () (w.setCell ⟨b, o, none⟩ v) := by
 rw [run_store P w _ v m hv, hw.cell (v := c[o]) (by rw [rd_of hb]; simp [ho]), hw.frozen hb]
 rfl

theorem cells_one {v : Value} (hv : v.oneCell' = true) : v.cells = #[v] := by
 cases v <;> first | rfl | cases hv

theorem run_storeCells {b : Nat} {T' : TypeId} : ∀ (vs : List Value) (c : Array Value) (o i : Nat) (H : Hp) (w : World), Sat W H w → H b = some (.cells c T' (0, 0)) → o + i + vs.length ≤ c.size → vs.all Value.oneCell' = true →
  ∃ w', (storeCells ⟨b, o, none⟩ vs i).run P w = .ok () w' ∧ Sat W (upd H b (.cells (setN c (o + i) vs) T' (0, 0))) w'
 | [], c, o, i, H, w, hw, hb, _, _ => by
  refine ⟨w, rfl, hw.mono ?_⟩
  intro k o' hk
  unfold upd at hk
  split at hk
  ·rename_i e; subst e; injection hk with hk; subst hk; exact hb
  ·exact hk
 |v :: r, c, o, i, H, w, hw, hb, hl, hv => by
  simp only [List.all_cons, Bool.and_eq_true] at hv
  simp only [List.length_cons] at hl
  have h1 := run_store1 (P := P) hw hb (o := o + i) (by omega) hv.1 .plain
  have hs := hw.set hb (o + i) v
  obtain ⟨w', hr, hs'⟩ := run_storeCells r (c.setIfInBounds (o + i) v) o (i + 1) _ _ hs (upd_same _ _ _) (by simp; omega) hv.2
  refine ⟨w', ?_, ?_⟩
  ·simp only [storeCells, Sem.run_bind, Addr_add, h1, Result.andThen_ok, hr]
  ·rw [upd_upd] at hs'
   rw [show o + (i + 1) = o + i + 1 by omega] at hs'
   exact hs'
end

section
variable {P : Program} {N : Nat} {W w : World} {F : Fr} {H : Hp} {K : Value → Hp → Prop} {Q : Exit → Act → World → Prop}

theorem fresh_of (hw : Sat W H w) {p : Prop} (h : fresh H w.heap.size p) : p :=
 h (fun k hk => by
   cases e : H k with
   | none => rw [e] at hk; cases hk
   | some o => have := hw.lt e; simp; omega)
  (fun k hk => by
   cases e : H k with
   | none => rw [e] at hk; cases hk
   | some o => have := hw.lt e; simp; omega)

theorem run_binOp_int {op : BinOp} {T : TypeId} {k : IntKind} {a b n : Int} (h : arith op a b = some n) (w : World) : (binOp op T (.int k a) (.int k b)).run P w = .ok (.int k (k.wrap n)) w := by
 cases op <;> simp [arith] at h <;> subst h <;> simp [binOp, Op.intArith]
theorem run_binOp_div {op : BinOp} {T : TypeId} {k : IntKind} {a b n : Int} (hb : b ≠ 0) (h : division op k a b = some n) (w : World) : (binOp op T (.int k a) (.int k b)).run P w = .ok (.int k n) w := by
 cases op <;> simp [division] at h <;> subst h <;> simp [binOp, Op.intDiv, hb]
theorem run_binOp_cmp {op : BinOp} {T : TypeId} {k : IntKind} {a b : Int} {t : Bool} (h : compared op a b = some t) (w : World) : (binOp op T (.int k a) (.int k b)).run P w = .ok (.bool t) w := by
 cases op <;> simp [compared] at h <;> subst h <;> simp [binOp, Op.intCmp]
theorem run_binOp_bits {op : BinOp} {T : TypeId} {k : IntKind} {a b n : Int} (h : bitsOf op k a b = some n) (w : World) : (binOp op T (.int k a) (.int k b)).run P w = .ok (.int k n) w := by
 cases op <;> simp [bitsOf] at h <;> subst h <;> simp [binOp, go_sem]
theorem run_binOp_shift {op : BinOp} {T : TypeId} {k k' : IntKind} {a b n : Int} (hb : 0 ≤ b) (h : shifted op k a b = some n) (w : World) : (binOp op T (.int k a) (.int k' b)).run P w = .ok (.int k n) w := by
 have hb' : ¬ b < 0 := by omega
 cases op <;> simp [shifted] at h <;> subst h <;> simp [binOp, Op.shift, hb']
theorem run_binOp_exec {ρ : Operand → Value} {dst : Option Tmp} {op : BinOp} {T T' : TypeId} {x y : Operand} {ty : TypeId} {pos : String} {after : Array Edge} {g : Option (Nat × Bool)} {k : IntKind} {a : Int} {v u : Value}
  (hx : ρ x = .int k a) (hy : ρ y = v) (h : (binOp op T (.int k a) v).run P w = .ok u w) :
  (execOp ρ ⟨dst, .binOp op T x y T', ty, pos, after, g⟩).run P w = .ok (.value u) w := by
 simp only [execOp, hx, hy, eqGuard_at_int]
 simp [h]

theorem call_exec {ρ : Operand → Value} {dst : Option Tmp} {f : FuncId} {args : Array Operand} {at_ : Array TypeId} {ty : TypeId} {pos : String} {after : Array Edge} {g : Option (Nat × Bool)}
  (hf : (P.funcs[f]?).any (fun fn => fn.body.isSome && fn.name != "runtime.NumGoroutine") = true) (hρ : ρ (.func f) = .func (.func f) #[] #[]) :
  (execOp ρ ⟨dst, .call { callee := .value (.func f), args := args, argTypes := at_ }, ty, pos, after, g⟩).run P w = .ok (.enter f (args.map ρ)) w := by
 cases e : P.funcs[f]? with
 | none => rw [e] at hf; cases hf
 |some fn =>
  rw [e] at hf
  simp at hf
  obtain ⟨h1, h2⟩ := hf
  have h4 : fn.body ≠ none := by intro hn; rw [hn] at h1; cases h1
  simp [execOp, resolve, hρ, Deferred.ofValue, invoke, callFunc, e, h2, h4]

end

/-- It writes nothing and makes nothing that H would have to tell. -/
def MO.quiet : MO → Bool
 | .st1 .. | .stn .. | .box .. | .alc .. | .call .. | .inv .. | .mks .. | .bsl .. | .bsl0 .. | .app .. | .cpy .. => false
 | _ => true
/-- It is quiet and no call. -/
def MO.still : MO → Bool
 | .pcall .. => false
 | m => m.quiet

/-- What running an operation comes to. -/
inductive Res (P : Program) (W : World) (R : World → Result Next) (H : Hp) (K : Value → Hp → Prop) : Bool → Bool → Prop
 | quiet {s q : Bool} (v : Value) (hk : K v H) (h : ∀ w, Sat W H w → R w = .ok (.value v) w) : Res P W R H K s q
 | eff (h : ∀ w, Sat W H w → ∃ v w' H', (R w = .ok (.value v) w' ∨ (R w = .ok .skip w' ∧ v = undef)) ∧ Sat W H' w' ∧ K v H') : Res P W R H K false false
 | pc {q : Bool} (v : Value) (hk : K v H) (f : FuncId) (args : Array Value) (h : ∀ w, R w = .ok (.enter f args) w) (hp : PureC P f args v) : Res P W R H K false q
 | call (f : FuncId) (args : Array Value) (h : ∀ w, R w = .ok (.enter f args) w) (hp : CallP P W f args H K) : Res P W R H K false false

section
variable {P : Program} {N : Nat} {W w : World} {F : Fr} {H : Hp} {K : Value → Hp → Prop}

theorem exec_binOp {ρ : Operand → Value} {dst : Option Tmp} {op : BinOp} {T T' : TypeId} {x y : Operand} {ty : TypeId} {pos : String} {after : Array Edge} {g : Option (Nat × Bool)} {u v r : Value} {w : World}
  (hx : ρ x = u) (hy : ρ y = v) (hg : eqGuard op T x y u v = Pure.pure ()) (h : (binOp op T u v).run P w = .ok r w) :
  (execOp ρ ⟨dst, .binOp op T x y T', ty, pos, after, g⟩).run P w = .ok (.value r) w := by
 simp only [execOp, hx, hy, hg]
 simp [h]

theorem exec_agg {ρ : Operand → Value} {dst : Option Tmp} {op : BinOp} {T T' : TypeId} {x y : Operand} {ty : TypeId} {pos : String} {after : Array Edge} {g : Option (Nat × Bool)} {u v r : Value} {w : World}
  (hx : ρ x = u) (hy : ρ y = v) (hg : (eqGuard op T x y u v).run P w = .ok () w) (h : (binOp op T u v).run P w = .ok r w) :
  (execOp ρ ⟨dst, .binOp op T x y T', ty, pos, after, g⟩).run P w = .ok (.value r) w := by
 simp only [execOp, hx, hy, Sem.run_bind, hg, Result.andThen_ok, h, Sem.run_pure]

theorem eqL_append : ∀ (l k : List (Nat × Bool)) (xs ys : Array Value) (t : Bool), eqL (l ++ k) xs ys = some t → ∃ u v, eqL l xs ys = some u ∧ eqL k xs ys = some v ∧ t = (u && v)
 | [], k, xs, ys, t, h => ⟨true, t, rfl, h, rfl⟩
 | (i, s) :: l, k, xs, ys, t, h => by
  simp only [List.cons_append, eqL] at h
  split at h
  ·rename_i a b ha hb
   split at h
   ·rename_i u v hu hv
    injection h with h; subst h
    obtain ⟨u', v', h1, h2, rfl⟩ := eqL_append l k xs ys v hv
    exact ⟨u && u', v', by simp only [eqL, ha, hb, hu, h1], h2, by rw [Bool.and_assoc]⟩
   ·cases h
  ·cases h
theorem eqL_shift (o n : Nat) : ∀ (l : List (Nat × Bool)) (xs ys : Array Value) (t : Bool), l.all (fun i => decide (i.1 < n)) = true → eqL (l.map (fun i => (o + i.1, i.2))) xs ys = some t → eqL l (xs.extract o (o + n)) (ys.extract o (o + n)) = some t
 | [], xs, ys, t, _, h => h
 | (i, s) :: l, xs, ys, t, hl, h => by
  simp only [List.all_cons, Bool.and_eq_true, decide_eq_true_eq] at hl
  simp only [List.map_cons, eqL] at h
  split at h
  ·rename_i a b ha hb
   split at h
   ·rename_i u v hu hv
    injection h with h; subst h
    have e1 : (xs.extract o (o + n))[i]? = some a := by rw [Array.getElem?_extract]; have := (Array.getElem?_eq_some_iff.1 ha).1; rw [if_pos (by omega)]; exact ha
    have e2 : (ys.extract o (o + n))[i]? = some b := by rw [Array.getElem?_extract]; have := (Array.getElem?_eq_some_iff.1 hb).1; rw [if_pos (by omega)]; exact hb
    simp only [eqL, e1, e2, hu, eqL_shift o n l xs ys v hl.2 hv]
   ·cases h
  ·cases h
theorem run_scalar {T : TypeId} {s : Bool} (ht : if s then P.underlying T = some .bool else ∃ k, P.underlying T = some (.int k)) {a b : Value} {t : Bool} (h : eqS s a b = some t) (d : Nat) (w : World) : (Op.equalIn (d + 1) T a b).run P w = .ok t w := by
 unfold eqS at h
 split at h
 ·rename_i k a k' b
  split at h
  ·rename_i e; subst e; injection h with h; subst h
   obtain ⟨k2, ht⟩ : ∃ k, P.underlying T = some (.int k) := ht
   exact run_equalIn_int w d T k k2 a b ht
  ·cases h
 ·rename_i a b; injection h with h; subst h
  exact run_equalIn_bool w d T a b ht
 ·cases h
theorem run_part1 {T : TypeId} (ha : aggB P T = some false) {cs : Array Value} {o : Nat} {v : Value} (hv : cs[o]? = some v) (w : World) : (part T cs o).run P w = .ok v w := by
 simp [part, run_isAgg ha, hv]
theorem run_partn {T : TypeId} {n : Nat} (ha : aggB P T = some true) (hn : sizeB P T = some n) {cs : Array Value} {o : Nat} (w : World) : (part T cs o).run P w = .ok (.agg (cs.extract o (o + n))) w := by
 simp [part, run_isAgg ha, run_size hn]
theorem eqL_one {i : Nat} {s : Bool} {xs ys : Array Value} {t : Bool} (h : eqL [(i, s)] xs ys = some t) : ∃ a b, xs[i]? = some a ∧ ys[i]? = some b ∧ eqS s a b = some t := by
 simp only [eqL] at h
 split at h
 ·rename_i a b ha hb
  split at h
  ·rename_i u v hu hv
   injection h with h; injection hv with hv; subst h; subst hv
   exact ⟨a, b, ha, hb, by rw [hu, Bool.and_true]⟩
  ·cases h
 ·cases h
theorem flat_agg {d : Nat} {T : TypeId} {l : List (Nat × Bool)} (h : flatB P d T = some l) : (aggB P T = some true) ∨ (aggB P T = some false ∧ ∃ s, l = [(0, s)] ∧ if s then P.underlying T = some .bool else ∃ k, P.underlying T = some (.int k)) := by
 cases d with
 | zero => cases h
 |succ d =>
  unfold flatB at h
  split at h
  ·rename_i k e; injection h with h; exact .inr ⟨by unfold aggB; rw [e], false, h.symm, ⟨k, e⟩⟩
  ·rename_i e; injection h with h; exact .inr ⟨by unfold aggB; rw [e], true, h.symm, e⟩
  ·rename_i fs e; exact .inl (by unfold aggB; rw [e])
  ·rename_i n el e; exact .inl (by unfold aggB; rw [e])
  ·cases h
theorem flatE_spec {e : TypeId} {s : Bool} (h : flatE P e = some s) : (if s then P.underlying e = some .bool else ∃ k, P.underlying e = some (.int k)) ∧ sizeB P e = some 1 ∧ aggB P e = some false := by
 unfold flatE at h
 split at h
 ·rename_i k h1 h2; injection h with h; subst h; exact ⟨⟨k, h1⟩, h2, by unfold aggB; rw [h1]⟩
 ·rename_i h1 h2; injection h with h; subst h; exact ⟨h1, h2, by unfold aggB; rw [h1]⟩
 ·cases h
theorem run_equalIn_two {D : Nat} {T e : TypeId} {s : Bool} (hu : P.underlying T = some (.array 2 e)) (hs : if s then P.underlying e = some .bool else ∃ k, P.underlying e = some (.int k)) (hn : sizeB P e = some 1) (ha : aggB P e = some false)
  {xs ys : Array Value} {t : Bool} (h : eqL [(0, s), (1, s)] xs ys = some t) (w : World) : (Op.equalIn (D + 2) T (.agg xs) (.agg ys)).run P w = .ok t w := by
 obtain ⟨u, v, h1, h2, rfl⟩ := eqL_append [(0, s)] [(1, s)] _ _ _ h
 obtain ⟨a0, b0, ea0, eb0, es0⟩ := eqL_one h1
 obtain ⟨a1, b1, ea1, eb1, es1⟩ := eqL_one h2
 have p0 := run_part1 ha ea0 w
 have p1 := run_part1 ha ea1 w
 have q0 := run_part1 ha eb0 w
 have q1 := run_part1 ha eb1 w
 have e0 := run_scalar hs es0 D w
 have e1 := run_scalar hs es1 D w
 have hz := run_size hn (w := w)
 unfold Op.equalIn
 simp only [Sem.run_bind, run_underlying hu, Result.andThen_ok, hz, Std.Legacy.Range.forIn_eq_forIn_range', Std.Legacy.Range.size]
 simp only [List.range', List.forIn_cons, List.forIn_nil, Nat.zero_mul, Nat.one_mul, Nat.mul_one, Nat.add_zero, Nat.zero_add, Sem.run_bind, p0, p1, q0, q1, e0, e1, Result.andThen_ok]
 cases u <;> cases v <;> simp [p0, p1, q0, q1, e0, e1, List.range', List.forIn_cons]
theorem run_flat : ∀ (d : Nat) {T : TypeId} {l : List (Nat × Bool)}, flatB P d T = some l → aggB P T = some true → ∀ (D : Nat), d ≤ D → ∀ {xs ys : Array Value} {t : Bool}, eqL l xs ys = some t → ∀ (w : World),
  (Op.equalIn D T (.agg xs) (.agg ys)).run P w = .ok t w
 | 0, T, l, h, _, _, _, _, _, _, _, _ => by cases h
 |d + 1, T, l, h, ha, D, hD, xs, ys, t, ht, w => by
  obtain ⟨D, rfl⟩ : ∃ k, D = k + 1 := ⟨D - 1, by omega⟩
  unfold flatB at h
  split at h
  ·rename_i k e; unfold aggB at ha; rw [e] at ha; cases ha
  ·rename_i e; unfold aggB at ha; rw [e] at ha; cases ha
  ·rename_i fs e
   split at h
   ·cases h
   ·rename_i hst
    have hf : P.fieldsOf T = fs := by unfold Program.fieldsOf; rw [e]
    rw [run_equalIn_struct w D T xs ys (by rw [hf]; exact e) (by simpa using hst), hf]
    generalize fs.toList = l' at h
    clear hf e ha
    induction l' generalizing l t w with
    | nil => simp only [flatF, Option.some.injEq] at h; subst h; simp only [eqL, Option.some.injEq] at ht; subst ht; simp [Op.eqFields]
    |cons f r ih =>
     simp only [flatF] at h
     split at h
     ·cases h
     ·rename_i hname
      split at h
      ·rename_i lf n k hlf hn hk
       split at h
       ·rename_i hlt
        injection h with h; subst h
        obtain ⟨u, v, h1, h2, rfl⟩ := eqL_append _ _ _ _ _ ht
        have key : ∃ a b, (part f.type xs f.offset).run P w = .ok a w ∧ (part f.type ys f.offset).run P w = .ok b w ∧ (Op.equalIn D f.type a b).run P w = .ok u w := by
         rcases flat_agg hlf with hag | ⟨hag, s, rfl, hs⟩
         ·refine ⟨_, _, run_partn hag hn w, run_partn hag hn w, ?_⟩
          exact run_flat d hlf hag D (by omega) (eqL_shift _ _ _ _ _ _ hlt h1) w
         ·obtain ⟨a, b, ea, eb, es⟩ := eqL_one h1
          obtain ⟨D', rfl⟩ : ∃ k, D = k + 1 := by
           cases d with
           | zero => cases hlf
           | succ d => exact ⟨D - 1, by omega⟩
          exact ⟨a, b, run_part1 hag ea w, run_part1 hag eb w, run_scalar hs es D' w⟩
        obtain ⟨a, b, ea, eb, ee⟩ := key
        simp only [Op.eqFields, if_pos hname, Sem.run_bind, ea, eb, Result.andThen_ok, ee, Sem.run_ite]
        cases u
        ·simp
        ·simp [ih _ _ h2 w hk]
       ·cases h
      ·cases h
  ·rename_i n el e
   split at h
   ·rename_i hnd
    obtain ⟨rfl, hd⟩ := hnd
    obtain ⟨s, hse, rfl⟩ := Option.map_eq_some_iff.1 h
    obtain ⟨g1, g2, g3⟩ := flatE_spec hse
    obtain ⟨D', rfl⟩ : ∃ k, D = k + 1 := ⟨D - 1, by omega⟩
    exact run_equalIn_two e g1 g2 g3 ht w
   ·cases h
  ·cases h

theorem run_ptr_nil {T e : TypeId} (hu : P.underlying T = some (.pointer e)) (p : Option Addr) (w : World) : (binOp .eql T (.pointer p) (.pointer none)).run P w = .ok (.bool p.isNone) w :=
 run_eql_pointer_nil w T p (by rw [hu]; simp [Program.pointee, hu])
theorem run_ptr_nonil {T e : TypeId} (hu : P.underlying T = some (.pointer e)) (p : Option Addr) (w : World) : (binOp .neq T (.pointer p) (.pointer none)).run P w = .ok (.bool (!p.isNone)) w :=
 run_neq_pointer_nil w T p (by rw [hu]; simp [Program.pointee, hu])

theorem run_zero {T : TypeId} {z : Value} (hz : (P.info? T).bind (·.zero) = some z) (w : World) : (zeroValue T).run P w = .ok z w := by
 cases e : P.info? T with
 | none => rw [e] at hz; cases hz
 |some i =>
  rw [e] at hz
  have : i.zero = some z := by simpa using hz
  simp [zeroValue, typeInfo, e, this]

theorem setN_zip : ∀ (vs : List Value) (c : Array Value) (off i : Nat), (vs.zipIdx i).foldl (fun cs (x : Value × Nat) => cs.setIfInBounds (off + x.2) x.1) c = setN c (off + i) vs
 | [], c, off, i => rfl
 |v :: r, c, off, i => by
  simp only [List.zipIdx_cons, List.foldl_cons, setN]
  rw [setN_zip r _ off (i + 1)]
  rfl
theorem size_setN : ∀ (vs : List Value) (c : Array Value) (o : Nat), (setN c o vs).size = c.size
 | [], _, _ => rfl
 | v :: r, c, o => by rw [setN, size_setN r]; simp

theorem fill_zip (c : Array Value) (off : Nat) (v : Value) : (v.cells.zipIdx.foldl (fun cs (x : Value × Nat) => cs.setIfInBounds (off + x.2) x.1) c) = setN c off v.cells.toList := by
 rw [← Array.foldl_toList, Array.toList_zipIdx, setN_zip]; rfl

theorem fill_run {place : Nat → Option (Nat × Nat)} : ∀ (l : List (Nat × Nat × Nat × Value)) (c : Array Value), (∀ p ∈ l, place p.1 = some (p.2.1, p.2.2.1) ∧ p.2.2.2.cells.size = p.2.2.1 ∧ p.2.1 + p.2.2.1 ≤ c.size) →
  Instr.fill place c (l.map fun p => (p.1, p.2.2.2)) = some (fillP c (l.map fun p => (p.2.1, p.2.2.2)))
 | [], c, _ => rfl
 | (i, o, n, v) :: r, c, h => by
  obtain ⟨h1, h2, h3⟩ := h (i, o, n, v) (by simp)
  simp only at h1 h2 h3
  simp only [List.map_cons, Instr.fill, h1, fillP]
  rw [if_neg (by simp [h2]; omega), fill_zip]
  exact fill_run r _ fun p hp => by
   have := h p (by simp [hp])
   rw [size_setN]; exact this

theorem run_rdn (hw : Sat W H w) {b o n : Nat} {cs : Array Value} (hr : rdn H b o n = some cs) : (loadCells ⟨b, o, none⟩ n).run P w = .ok cs w := by
 unfold rdn at hr
 split at hr
 ·rename_i c T' f hb
  split at hr
  ·rename_i hle
   injection hr with hr; subst hr
   have := run_loadCells_list (P := P) w ⟨b, o, none⟩ (c.extract o (o + n)).toList (fun j v hv => by
    rw [Addr_add]
    have hj : j < n := by
     rcases Nat.lt_or_ge j n with h' | h'
     ·exact h'
     ·rw [Array.getElem?_toList, Array.getElem?_eq_none (by simp; omega)] at hv; cases hv
    refine hw.cell (v := v) ?_
    rw [rd_of hb]
    rw [Array.getElem?_toList, Array.getElem?_extract] at hv
    rw [if_pos (by omega)] at hv
    exact hv)
   have hlen : (c.extract o (o + n)).toList.length = n := by simp; omega
   rw [hlen, Array.toArray_toList] at this
   exact this
  ·cases hr
 ·cases hr

theorem run_firstCells (hw : Sat W H w) {a : Option Addr} {sz n l c : Nat} {cs : Array Value} (hr : rds H a (n * sz) = some cs) : (Builtin.firstCells sz n (.slice a l c)).run P w = .ok cs w := by
 cases a with
 |none =>
  unfold rds at hr
  split at hr
  ·injection hr with hr; subst hr; simp [Builtin.firstCells]
  ·simp_all
  ·cases hr
 |some a =>
  obtain ⟨b, o, s⟩ := a
  unfold rds at hr
  split at hr
  ·rename_i e
   injection hr with hr; subst hr
   simp [Builtin.firstCells, e, loadCells, loadCellsFrom]
  ·rename_i e _
   injection e with e; injection e with e1 e2 e3
   subst e1 e2 e3
   simp only [Builtin.firstCells]
   exact run_rdn hw hr
  ·cases hr

theorem run_stow (hw : Sat W H w) {b o off : Nat} {new : Array Value} {k : Hp → Prop} (h : stow H (some ⟨b, o, none⟩) off new k) :
  ∃ w' H', (storeCells ⟨b, o + off, none⟩ new.toList).run P w = .ok () w' ∧ Sat W H' w' ∧ k H' := by
 unfold stow at h
 split at h
 ·rename_i e
  have : new.toList = [] := by simpa using e
  rw [this]
  exact ⟨w, H, rfl, hw, h⟩
 ·obtain ⟨b', o', hp, h⟩ := onPtr_elim h
  injection hp with hp; injection hp with hp; injection hp with e1 e2
  subst e1 e2
  obtain ⟨c, T, hb, h1, h2, h3⟩ := onCells_elim h
  obtain ⟨w', hr, hs⟩ := run_storeCells (P := P) new.toList c (o + off) 0 H w hw hb (by simp; omega) h2
  exact ⟨w', _, hr, hs, h3⟩
theorem stow_none {off : Nat} {new : Array Value} {k : Hp → Prop} (h : stow H none off new k) : new.size = 0 ∧ k H := by
 unfold stow at h
 split at h
 ·rename_i e; exact ⟨e, h⟩
 ·obtain ⟨b', o', hp, h⟩ := onPtr_elim h
  cases hp

theorem orInt_elim {x : Option Operand} {d : Int} {k : Int → Prop} (h : orInt F x d k) : ∃ n, ((x = none ∧ n = d) ∨ ∃ y t, x = some y ∧ ev F y = .int t n) ∧ k n := by
 cases x with
 | none => exact ⟨d, .inl ⟨rfl, rfl⟩, h⟩
 | some y => obtain ⟨t, n, e, hk⟩ := onInt_elim h; exact ⟨n, .inr ⟨y, t, rfl, e⟩, hk⟩

theorem run_sliceBounds {lo hi : Option Operand} {l c : Nat} {i j : Int} (hlo : (lo = none ∧ i = 0) ∨ ∃ y t, lo = some y ∧ ev F y = .int t i) (hhi : (hi = none ∧ j = l) ∨ ∃ y t, hi = some y ∧ ev F y = .int t j)
  (h0 : 0 ≤ i) (h1 : i ≤ j) (h2 : j ≤ c) (w : World) : (Instr.sliceBounds true l c (lo.map (ev F)) (hi.map (ev F)) none).run P w = .ok (i.toNat, j.toNat, c) w := by
 have hj0 : 0 ≤ j := by omega
 have hij : i ≤ (j.toNat : Int) := by omega
 have hmx : max j 0 = j := by omega
 rcases hlo with ⟨rfl, rfl⟩ | ⟨y, t, rfl, hy⟩ <;> rcases hhi with ⟨rfl, rfl⟩ | ⟨y', t', rfl, hy'⟩ <;>
  simp [Instr.sliceBounds, Instr.sliceBound, asIntOf, *]

theorem places_spec {fs : Array Field} {n : Nat} : ∀ (ps : List (Nat × Operand)) (l : List (Nat × Nat × Operand)), places P fs n ps = some l →
  ∃ q : List (Nat × Nat × Nat × Operand), ps = q.map (fun p => (p.1, p.2.2.2)) ∧ l = q.map (fun p => (p.2.1, p.2.2.1, p.2.2.2)) ∧ ∀ p ∈ q, (∃ f, fs[p.1]? = some f ∧ f.offset = p.2.1 ∧ sizeB P f.type = some p.2.2.1) ∧ p.2.1 + p.2.2.1 ≤ n
 | [], l, h => by simp only [places, Option.some.injEq] at h; subst h; exact ⟨[], rfl, rfl, by simp⟩
 | (i, x) :: r, l, h => by
  simp only [places] at h
  split at h
  ·rename_i f hf
   split at h
   ·rename_i k l' hk hl'
    split at h
    ·rename_i hle
     injection h with h; subst h
     obtain ⟨q, e1, e2, hq⟩ := places_spec r l' hl'
     refine ⟨(i, f.offset, k, x) :: q, by rw [List.map_cons, ← e1], by rw [List.map_cons, ← e2], ?_⟩
     intro p hp
     rcases List.mem_cons.1 hp with rfl | hp
     ·exact ⟨⟨f, hf, rfl, hk⟩, hle⟩
     ·exact hq p hp
    ·cases h
   ·cases h
  ·cases h

theorem evp_map (l : List (Nat × Nat × Operand)) : evp F l = l.map fun p => (p.1, p.2.1, ev F p.2.2) := by
 induction l with
 | nil => rfl
 | cons p r ih => obtain ⟨a, b, c⟩ := p; simp [evp, ih]

theorem run_places {fs : Array Field} (hall : ∀ f ∈ fs, (sizeB P f.type).isSome = true) (w : World) : (fs.mapM (m := Sem) fun f => do pure (f.offset, ← sizeOf f.type)).run P w = .ok (fs.map fun f => (f.offset, (sizeB P f.type).getD 0)) w := by
 rw [Array.mapM_eq_mapM_toList]
 have key : ∀ l : List Field, (∀ f ∈ l, (sizeB P f.type).isSome = true) → (l.mapM (m := Sem) fun f => do pure (f.offset, ← sizeOf f.type)).run P w = .ok (l.map fun f => (f.offset, (sizeB P f.type).getD 0)) w := by
  intro l
  induction l with
  | nil => intro _; simp
  |cons f r ih =>
   intro h
   obtain ⟨n, hn⟩ := Option.isSome_iff_exists.1 (h f (by simp))
   simp only [List.mapM_cons, Sem.run_bind, run_size hn, Result.andThen_ok, Sem.run_pure, ih fun x hx => h x (by simp [hx])]
   simp [hn]
 simp only [Sem.run_map, key fs.toList (fun f hf => hall f (by simpa using hf)), Result.andThen_ok]
 have e : (fs.toList.map fun f => (f.offset, (sizeB P f.type).getD 0)).toArray = fs.map fun f => (f.offset, (sizeB P f.type).getD 0) := by
  apply Array.ext'; simp
 rw [e]

theorem res_build {dst : Option Tmp} {T : TypeId} {ps : Array (Nat × Operand)} {ty : TypeId} {pos : String} {after : Array Edge} {g : Option (Nat × Bool)} {fs : Array Field} {z : Value} {l : List (Nat × Nat × Operand)} {s q : Bool}
  (hu : P.underlying T = some (.struct fs)) (hz : (P.info? T).bind (·.zero) = some z) (hall : fs.all (fun f => (sizeB P f.type).isSome) = true) (hl : places P fs z.cells.size ps.toList = some l) (hm : (MO.bld z.cells l).wp P W F H K) :
  Res P W (fun w => (execOp (ev F) ⟨dst, .build T ps, ty, pos, after, g⟩).run P w) H K s q := by
 obtain ⟨hsz, hk⟩ := hm
 refine .quiet _ hk fun w hw => ?_
 obtain ⟨q, e1, e2, hq⟩ := places_spec _ _ hl
 have hplace := run_places (P := P) (fs := fs) (fun f hf => Array.all_eq_true_iff_forall_mem.1 hall f hf) w
 have hfill : Instr.fill (fun x => (fs.map fun f => (f.offset, (sizeB P f.type).getD 0))[x]?) z.cells (ps.toList.map fun p => (p.1, ev F p.2)) = some (fillP z.cells (unsize (evp F l))) := by
  have := fill_run (place := fun x => (fs.map fun f => (f.offset, (sizeB P f.type).getD 0))[x]?) (q.map fun p => (p.1, p.2.1, p.2.2.1, ev F p.2.2.2)) z.cells (by
   intro p hp
   obtain ⟨p', hp', rfl⟩ := List.mem_map.1 hp
   obtain ⟨⟨f, hf, ho, hs⟩, hle⟩ := hq p' hp'
   refine ⟨by simp [hf, ho, hs], ?_, hle⟩
   have hmem : (p'.2.1, p'.2.2.1, ev F p'.2.2.2) ∈ evp F l := by
    rw [evp_map, e2]; simp only [List.map_map, List.mem_map]
    exact ⟨p', hp', rfl⟩
   have := List.all_eq_true.1 hsz _ hmem
   simpa using this)
  rw [e1]
  simp only [List.map_map, Function.comp_def] at this ⊢
  rw [this, unsize, evp_map, e2]
  simp only [List.map_map, Function.comp_def]
 have hto : (ps.map fun x => (x.1, ev F x.2)).toList = ps.toList.map fun p => (p.1, ev F p.2) := by simp
 simp only [execOp, Instr.build, Sem.run_bind, run_zero hz, Result.andThen_ok, run_underlying hu, hplace, hto, hfill, Sem.run_pure]

theorem placesA_spec {k n : Nat} : ∀ (ps : List (Nat × Operand)) (l : List (Nat × Nat × Operand)), placesA k n ps = some l →
  ∃ q : List (Nat × Nat × Nat × Operand), ps = q.map (fun p => (p.1, p.2.2.2)) ∧ l = q.map (fun p => (p.2.1, p.2.2.1, p.2.2.2)) ∧ ∀ p ∈ q, (p.1 * k = p.2.1 ∧ k = p.2.2.1) ∧ p.2.1 + p.2.2.1 ≤ n
 | [], l, h => by simp only [placesA, Option.some.injEq] at h; subst h; exact ⟨[], rfl, rfl, by simp⟩
 | (i, x) :: r, l, h => by
  simp only [placesA] at h
  split at h
  ·rename_i l' hl'
   split at h
   ·rename_i hle
    injection h with h; subst h
    obtain ⟨q, e1, e2, hq⟩ := placesA_spec r l' hl'
    refine ⟨(i, i * k, k, x) :: q, by rw [List.map_cons, ← e1], by rw [List.map_cons, ← e2], ?_⟩
    intro p hp
    rcases List.mem_cons.1 hp with rfl | hp
    ·exact ⟨⟨rfl, rfl⟩, hle⟩
    ·exact hq p hp
   ·cases h
  ·cases h
theorem res_buildA {dst : Option Tmp} {T : TypeId} {ps : Array (Nat × Operand)} {ty : TypeId} {pos : String} {after : Array Edge} {g : Option (Nat × Bool)} {len k : Nat} {e : TypeId} {z : Value} {l : List (Nat × Nat × Operand)} {s q : Bool}
  (hu : P.underlying T = some (.array len e)) (hz : (P.info? T).bind (·.zero) = some z) (hk : sizeB P e = some k) (hl : placesA k z.cells.size ps.toList = some l) (hm : (MO.bld z.cells l).wp P W F H K) :
  Res P W (fun w => (execOp (ev F) ⟨dst, .build T ps, ty, pos, after, g⟩).run P w) H K s q := by
 obtain ⟨hsz, hkk⟩ := hm
 refine .quiet _ hkk fun w hw => ?_
 obtain ⟨q, e1, e2, hq⟩ := placesA_spec _ _ hl
 have hfill : Instr.fill (fun x => some (x * k, k)) z.cells (ps.toList.map fun p => (p.1, ev F p.2)) = some (fillP z.cells (unsize (evp F l))) := by
  have := fill_run (place := fun x => some (x * k, k)) (q.map fun p => (p.1, p.2.1, p.2.2.1, ev F p.2.2.2)) z.cells (by
   intro p hp
   obtain ⟨p', hp', rfl⟩ := List.mem_map.1 hp
   obtain ⟨⟨ho, hs⟩, hle⟩ := hq p' hp'
   refine ⟨by simp [ho, ← hs], ?_, hle⟩
   have hmem : (p'.2.1, p'.2.2.1, ev F p'.2.2.2) ∈ evp F l := by
    rw [evp_map, e2]; simp only [List.map_map, List.mem_map]
    exact ⟨p', hp', rfl⟩
   have := List.all_eq_true.1 hsz _ hmem
   simpa using this)
  rw [e1]
  simp only [List.map_map, Function.comp_def] at this ⊢
  rw [this, unsize, evp_map, e2]
  simp only [List.map_map, Function.comp_def]
 have hto : (ps.map fun x => (x.1, ev F x.2)).toList = ps.toList.map fun p => (p.1, ev F p.2) := by simp
 simp only [execOp, Instr.build, Sem.run_bind, run_zero hz, Result.andThen_ok, run_underlying hu, run_size hk, hto, hfill, Sem.run_pure]

theorem run_fieldAddr {S : TypeId} {fs : Array Field} {f : Field} {i n b o : Nat} (hu : P.underlying S = some (.struct fs)) (hf : fs[i]? = some f) (hn : sizeB P f.type = some (n + 1)) (w : World) :
  (Instr.fieldAt S (.pointer (some ⟨b, o, none⟩)) i).run P w = .ok (.pointer (some ⟨b, o + f.offset, none⟩)) w := by
 simp [Instr.fieldAt, run_underlying hu, hf, Instr.sureAddr, fieldPlace, run_size hn, Addr_add]
end

section
variable {P : Program} {N : Nat} {W : World} {F : Fr} {H : Hp} {K : Value → Hp → Prop}

end

section
variable {P : Program} {N : Nat} {W : World} {F : Fr} {H : Hp} {K : Value → Hp → Prop}

theorem eqGuard_ni (op : BinOp) (T : TypeId) (x : Operand) (c : Value) : eqGuard op T x (.const c) .nilIface .nilIface = Pure.pure () := by cases op <;> cases x <;> rfl
theorem eqGuard_if (op : BinOp) (T : TypeId) (x y : Operand) (t : TypeId) (u : Value) : eqGuard op T x y (.iface t u) .nilIface = Pure.pure () := by cases op <;> rfl
theorem run_equalIn_ni {T : TypeId} {ms : Array (String × TypeId)} (hu : P.underlying T = some (.interface ms)) (d : Nat) (w : World) : (Op.equalIn (d + 1) T .nilIface .nilIface).run P w = .ok true w := by
 simp [Op.equalIn, run_underlying hu]
theorem run_equalIn_if {T : TypeId} {ms : Array (String × TypeId)} (hu : P.underlying T = some (.interface ms)) (t : TypeId) (u : Value) (d : Nat) (w : World) : (Op.equalIn (d + 1) T (.iface t u) .nilIface).run P w = .ok false w := by
 simp [Op.equalIn, run_underlying hu]
theorem run_bin_ni {op : BinOp} {neg : Bool} (ho : op = if neg then .neq else .eql) {T : TypeId} {ms : Array (String × TypeId)} (hu : P.underlying T = some (.interface ms)) (w : World) : (binOp op T .nilIface .nilIface).run P w = .ok (.bool (if neg then !true else true)) w := by
 have h := run_equalIn_ni hu 9999 w
 subst ho
 cases neg <;> simp [binOp, Op.equal, Op.maxDepth, h]
theorem run_bin_if {op : BinOp} {neg : Bool} (ho : op = if neg then .neq else .eql) {T : TypeId} {ms : Array (String × TypeId)} (hu : P.underlying T = some (.interface ms)) (t : TypeId) (u : Value) (w : World) : (binOp op T (.iface t u) .nilIface).run P w = .ok (.bool (if neg then !false else false)) w := by
 have h := run_equalIn_if hu t u 9999 w
 subst ho
 cases neg <;> simp [binOp, Op.equal, Op.maxDepth, h]
theorem run_method {t : TypeId} {f : FuncId} {name : String} (h : methB P t name = some f) (n : Nat) (v : Value) (w : World) : (method (n + 1) t v name).run P w = .ok (f, v) w := by
 unfold methB at h
 split at h
 ·rename_i i hi
  split at h
  ·rename_i m e hm hu
   split at h
   ·rename_i g hf
    split at h
    ·rename_i hp
     split at h
     ·injection h with h; subst h
      simp [method, typeInfo, hi, hm, hp, follow, hf, receiverAt, run_underlying hu, Place.get]
     ·cases h
    ·cases h
   ·cases h
  ·cases h
 ·cases h
theorem methB_fn {t : TypeId} {f : FuncId} {name : String} (h : methB P t name = some f) : (P.funcs[f]?).any (fun fn => fn.body.isSome && fn.name != "runtime.NumGoroutine") = true := by
 unfold methB at h
 split at h
 ·split at h
  ·split at h
   ·split at h
    ·split at h
     ·rename_i hx; injection h with h; subst h; exact hx
     ·cases h
    ·cases h
   ·cases h
  ·cases h
 ·cases h
theorem run_callFunc {f : FuncId} (hf : (P.funcs[f]?).any (fun fn => fn.body.isSome && fn.name != "runtime.NumGoroutine") = true) (args : Array Value) (w : World) : (callFunc f args).run P w = .ok (.enter f args) w := by
 cases e : P.funcs[f]? with
 | none => rw [e] at hf; cases hf
 |some fn =>
  rw [e] at hf
  simp at hf
  obtain ⟨h1, h2⟩ := hf
  have h4 : fn.body ≠ none := by intro hn; rw [hn] at h1; cases h1
  simp [callFunc, e, h2, h4]
theorem run_callMethod {t : TypeId} {f : FuncId} {name : String} (h : methB P t name = some f) (v : Value) (args : Array Value) (w : World) : (callMethod (.iface t v) name args).run P w = .ok (.enter f (#[v] ++ args)) w := by
 have hm := run_method h (P.types.size + 99) v w
 simp only [callMethod, Sem.run_bind, run_program, Result.andThen_ok]
 rw [show P.types.size + Made.depth = P.types.size + 99 + 1 from rfl, hm]
 simp only [Result.andThen_ok]
 exact run_callFunc (methB_fn h) _ w
theorem inv_exec {ρ : Operand → Value} {dst : Option Tmp} {f : FuncId} {x : Operand} {name : String} {args : Array Operand} {at_ : Array TypeId} {ty : TypeId} {pos : String} {after : Array Edge} {g : Option (Nat × Bool)} {t : TypeId} {u : Value}
  (hx : ρ x = .iface t u) (hf : methB P t name = some f) (w : World) :
  (execOp ρ ⟨dst, .call { callee := .invoke x name, args := args, argTypes := at_ }, ty, pos, after, g⟩).run P w = .ok (.enter f (#[u] ++ args.map ρ)) w := by
 have h := run_callMethod hf u (args.map ρ) w
 have e : (#[Value.iface t u] ++ args.map ρ).extract 1 (#[Value.iface t u] ++ args.map ρ).size = args.map ρ := by
  apply Array.ext'
  simp [List.take_of_length_le]
 have e0 : (#[Value.iface t u] ++ args.map ρ)[0]? = some (Value.iface t u) := by
  rw [Array.getElem?_append_left (by simp)]; rfl
 simp only [execOp, resolve, hx, Sem.run_bind, Sem.run_pure, Result.andThen_ok, invoke, e0, e, h]

set_option maxHeartbeats 1000000 in
theorem res_op {pure : List FuncId} {o : Oper} {m : MO} (h : trOp P N pure o = some m) (hm : m.wp P W F H K) : Res P W (fun w => (execOp (ev F) o).run P w) H K m.still m.quiet := by
 unfold trOp at h
 split at h
 case isFalse => cases h
 rename_i hok
 clear hok
 obtain ⟨dst, op, ty, pos, after, g⟩ := o
 simp only at h
 split at h
 ·injection h with h; subst h; exact .quiet _ hm fun w hw => by simp [execOp]
 ·injection h with h; subst h; exact .quiet _ hm fun w hw => by simp [execOp]
 ·
  injection h with h; subst h
  obtain ⟨t, ht, hk⟩ := onBool_elim hm
  have hk := both_elim hk
  cases t
  ·exact .quiet _ hk fun w hw => by simp [execOp, ht, asBool]
  ·exact .quiet _ hk fun w hw => by simp [execOp, ht, asBool]
 ·
  injection h with h; subst h
  exact .eff fun w hw => ⟨_, _, _, .inl (by simp [execOp, Instr.box, newVar, newRow]), hw.alloc _, fresh_of hw (hm _ hw.size)⟩
 ·
  split at h
  ·rename_i z hz
   injection h with h; subst h
   exact .eff fun w hw => ⟨_, _, _, .inl (by simp [execOp, Instr.alloc, run_zero hz, newVar, newRow]), hw.alloc _, fresh_of hw (hm _ hw.size)⟩
  ·cases h
 ·
  split at h
  ·rename_i ha hn
   injection h with h; subst h
   obtain ⟨b, o, hx, hk⟩ := onPtr_elim hm
   obtain ⟨v, hv, hk⟩ := onSome_elim hk
   exact .quiet _ hk fun w hw => by simp [execOp, hx, run_loadn hw ha hn hv]
  ·rename_i ha
   injection h with h; subst h
   obtain ⟨b, o, hx, hk⟩ := onPtr_elim hm
   obtain ⟨v, hv, hk⟩ := onSome_elim hk
   exact .quiet _ hk fun w hw => by simp [execOp, hx, run_load1 hw ha hv]
  ·cases h
 ·
  split at h
  ·rename_i ha hn
   injection h with h; subst h
   obtain ⟨b, o, hx, hk⟩ := onPtr_elim hm
   obtain ⟨vs, hv, hk⟩ := onAgg_elim hk
   obtain ⟨c, T', hb, h1, h2, h3, hk⟩ := onCells_elim hk
   refine .eff fun w hw => ?_
   obtain ⟨w', hr, hs⟩ := run_storeCells (P := P) vs.toList c o 0 H w hw hb (by simp; omega) h3
   exact ⟨_, _, _, .inr ⟨by simp [execOp, hx, hv, Instr.storeAt, Instr.sureAddr, storeVar, run_size hn, Value.cells, h1, hr], rfl⟩, hs, hk⟩
  ·rename_i ha hn
   injection h with h; subst h
   obtain ⟨b, o, hx, hk⟩ := onPtr_elim hm
   obtain ⟨c, T', hb, h2, h3, hk⟩ := onCells_elim hk
   exact .eff fun w hw => ⟨_, _, _, .inr ⟨by simp [execOp, hx, Instr.storeAt, Instr.sureAddr, storeVar, run_size hn, cells_one h3, storeCells, Addr_add, run_store1 hw hb h2 h3], rfl⟩, hw.set hb _ _, hk⟩
  ·cases h
 ·
  split at h
  ·rename_i fs hu
   split at h
   ·rename_i f hf
    split at h
    ·rename_i n hn
     injection h with h; subst h
     obtain ⟨b, o, hx, hk⟩ := onPtr_elim hm
     exact .quiet _ hk fun w hw => by simp [execOp, hx, run_fieldAddr hu hf hn]
    ·cases h
   ·cases h
  ·cases h
 ·
  split at h
  ·rename_i fs hu
   split at h
   ·rename_i f hf
    split at h
    ·rename_i n ha hn
     injection h with h; subst h
     obtain ⟨cs, hx, hk⟩ := onAgg_elim hm
     exact .quiet _ hk fun w hw => by simp [execOp, hx, Instr.field, run_underlying hu, hf, asAgg, part, run_isAgg ha, run_size hn]
    ·rename_i ha
     injection h with h; subst h
     obtain ⟨cs, hx, hk⟩ := onAgg_elim hm
     obtain ⟨v, hv, hk⟩ := onSome_elim hk
     exact .quiet _ hk fun w hw => by simp [execOp, hx, Instr.field, run_underlying hu, hf, asAgg, part, run_isAgg ha, hv]
    ·cases h
   ·cases h
  ·cases h
 ·
  rename_i bop T x y T'
  split at h
  ·have num : ∀ {k : Value → Value → Prop}, True := fun {_} => trivial
   split at h
   ·injection h with h; subst h
    obtain ⟨k, a, hx, hk⟩ := onInt_elim hm; obtain ⟨k', b, hy, hk⟩ := onInt_elim hk; obtain ⟨rfl, hk⟩ := hk; obtain ⟨n, hn, hk⟩ := onSome_elim hk
    exact .quiet _ hk fun w hw => run_binOp_exec hx hy (run_binOp_int hn w)
   ·injection h with h; subst h
    obtain ⟨k, a, hx, hk⟩ := onInt_elim hm; obtain ⟨k', b, hy, hk⟩ := onInt_elim hk; obtain ⟨rfl, hk⟩ := hk; obtain ⟨n, hn, hk⟩ := onSome_elim hk
    exact .quiet _ hk fun w hw => run_binOp_exec hx hy (run_binOp_int hn w)
   ·injection h with h; subst h
    obtain ⟨k, a, hx, hk⟩ := onInt_elim hm; obtain ⟨k', b, hy, hk⟩ := onInt_elim hk; obtain ⟨rfl, hk⟩ := hk; obtain ⟨n, hn, hk⟩ := onSome_elim hk
    exact .quiet _ hk fun w hw => run_binOp_exec hx hy (run_binOp_int hn w)
   ·injection h with h; subst h
    obtain ⟨k, a, hx, hk⟩ := onInt_elim hm; obtain ⟨k', b, hy, hk⟩ := onInt_elim hk; obtain ⟨rfl, hb, hk⟩ := hk; obtain ⟨n, hn, hk⟩ := onSome_elim hk
    exact .quiet _ hk fun w hw => run_binOp_exec hx hy (run_binOp_div hb hn w)
   ·injection h with h; subst h
    obtain ⟨k, a, hx, hk⟩ := onInt_elim hm; obtain ⟨k', b, hy, hk⟩ := onInt_elim hk; obtain ⟨rfl, hb, hk⟩ := hk; obtain ⟨n, hn, hk⟩ := onSome_elim hk
    exact .quiet _ hk fun w hw => run_binOp_exec hx hy (run_binOp_div hb hn w)
   ·injection h with h; subst h
    obtain ⟨k, a, hx, hk⟩ := onInt_elim hm; obtain ⟨k', b, hy, hk⟩ := onInt_elim hk; obtain ⟨rfl, hk⟩ := hk; obtain ⟨n, hn, hk⟩ := onSome_elim hk
    exact .quiet _ hk fun w hw => run_binOp_exec hx hy (run_binOp_bits hn w)
   ·injection h with h; subst h
    obtain ⟨k, a, hx, hk⟩ := onInt_elim hm; obtain ⟨k', b, hy, hk⟩ := onInt_elim hk; obtain ⟨rfl, hk⟩ := hk; obtain ⟨n, hn, hk⟩ := onSome_elim hk
    exact .quiet _ hk fun w hw => run_binOp_exec hx hy (run_binOp_bits hn w)
   ·injection h with h; subst h
    obtain ⟨k, a, hx, hk⟩ := onInt_elim hm; obtain ⟨k', b, hy, hk⟩ := onInt_elim hk; obtain ⟨rfl, hk⟩ := hk; obtain ⟨n, hn, hk⟩ := onSome_elim hk
    exact .quiet _ hk fun w hw => run_binOp_exec hx hy (run_binOp_bits hn w)
   ·injection h with h; subst h
    obtain ⟨k, a, hx, hk⟩ := onInt_elim hm; obtain ⟨k', b, hy, hk⟩ := onInt_elim hk; obtain ⟨rfl, hk⟩ := hk; obtain ⟨n, hn, hk⟩ := onSome_elim hk
    exact .quiet _ hk fun w hw => run_binOp_exec hx hy (run_binOp_bits hn w)
   ·injection h with h; subst h
    obtain ⟨k, a, hx, hk⟩ := onInt_elim hm; obtain ⟨k', b, hy, hk⟩ := onInt_elim hk; obtain ⟨hb, hk⟩ := hk; obtain ⟨n, hn, hk⟩ := onSome_elim hk
    exact .quiet _ hk fun w hw => run_binOp_exec hx hy (run_binOp_shift hb hn w)
   ·injection h with h; subst h
    obtain ⟨k, a, hx, hk⟩ := onInt_elim hm; obtain ⟨k', b, hy, hk⟩ := onInt_elim hk; obtain ⟨hb, hk⟩ := hk; obtain ⟨n, hn, hk⟩ := onSome_elim hk
    exact .quiet _ hk fun w hw => run_binOp_exec hx hy (run_binOp_shift hb hn w)
   ·injection h with h; subst h
    obtain ⟨k, a, hx, hk⟩ := onInt_elim hm; obtain ⟨k', b, hy, hk⟩ := onInt_elim hk; obtain ⟨rfl, hk⟩ := hk; obtain ⟨n, hn, hk⟩ := onSome_elim hk
    exact .quiet _ hk fun w hw => run_binOp_exec hx hy (run_binOp_cmp hn w)
  ·split at h
   ·rename_i hu
    injection h with h; subst h
    obtain ⟨a, hx, hk⟩ := onBool_elim hm; obtain ⟨b, hy, hk⟩ := onBool_elim hk
    exact .quiet _ hk fun w hw => exec_binOp hx hy (by rfl) (run_eql_bool w T a b hu)
   ·rename_i hu
    injection h with h; subst h
    obtain ⟨a, hx, hk⟩ := onBool_elim hm; obtain ⟨b, hy, hk⟩ := onBool_elim hk
    exact .quiet _ hk fun w hw => exec_binOp hx hy (by rfl) (run_neq_bool w T a b hu)
   ·rename_i e hu
    split at h
    ·injection h with h; subst h
     have hm : ∃ a, ev F x = .pointer a ∧ K (.bool a.isNone) H := by
      unfold MO.wp onV at hm
      simp only at hm
      split at hm
      ·rename_i a e1; exact ⟨a, e1, hm⟩
      ·cases hm
     obtain ⟨a, hx, hk⟩ := hm
     refine .quiet _ hk fun w hw => ?_
     exact exec_binOp hx rfl (by rfl) (run_ptr_nil hu a w)
    ·cases h
   ·rename_i e hu
    split at h
    ·injection h with h; subst h
     have hm : ∃ a, ev F x = .pointer a ∧ K (.bool (!a.isNone)) H := by
      unfold MO.wp onV at hm
      simp only at hm
      split at hm
      ·rename_i a e1; exact ⟨a, e1, hm⟩
      ·cases hm
     obtain ⟨a, hx, hk⟩ := hm
     refine .quiet _ hk fun w hw => ?_
     exact exec_binOp hx rfl (by rfl) (run_ptr_nonil hu a w)
    ·cases h
   ·rename_i e hu
    split at h
    ·injection h with h; subst h
     obtain ⟨a, l, c, hx, hk⟩ := onSlice_elim hm
     exact .quiet _ hk fun w hw => exec_binOp hx rfl (by rfl) (run_eql_slice_nil w _ e a l c hu)
    ·cases h
   ·rename_i e hu
    split at h
    ·injection h with h; subst h
     obtain ⟨a, l, c, hx, hk⟩ := onSlice_elim hm
     exact .quiet _ hk fun w hw => exec_binOp hx rfl (by rfl) (run_neq_slice_nil w _ e a l c hu)
    ·cases h
   ·rename_i fs hu
    split at h
    ·cases h
    ·rename_i hg
     obtain ⟨l, hl, rfl⟩ := Option.map_eq_some_iff.1 h
     obtain ⟨a, hx, hk⟩ := onAgg_elim hm; obtain ⟨b, hy, hk⟩ := onAgg_elim hk; obtain ⟨t, ht, hk⟩ := onSome_elim hk
     exact .quiet _ hk fun w hw => exec_agg hx hy (run_eqGuard_agg w _ _ _ _ _ _ (by simpa using hg)) (by rw [run_eql_struct, run_flat 5 hl (by unfold aggB; rw [hu]) 10000 (by decide) ht w]; rfl)
   ·rename_i fs hu
    split at h
    ·cases h
    ·rename_i hg
     obtain ⟨l, hl, rfl⟩ := Option.map_eq_some_iff.1 h
     obtain ⟨a, hx, hk⟩ := onAgg_elim hm; obtain ⟨b, hy, hk⟩ := onAgg_elim hk; obtain ⟨t, ht, hk⟩ := onSome_elim hk
     exact .quiet _ hk fun w hw => exec_agg hx hy (run_eqGuard_agg w _ _ _ _ _ _ (by simpa using hg)) (by rw [run_neq_struct, run_flat 5 hl (by unfold aggB; rw [hu]) 10000 (by decide) ht w]; rfl)
   ·rename_i n el hu
    split at h
    ·cases h
    ·rename_i hg
     obtain ⟨l, hl, rfl⟩ := Option.map_eq_some_iff.1 h
     obtain ⟨a, hx, hk⟩ := onAgg_elim hm; obtain ⟨b, hy, hk⟩ := onAgg_elim hk; obtain ⟨t, ht, hk⟩ := onSome_elim hk
     exact .quiet _ hk fun w hw => exec_agg hx hy (run_eqGuard_agg w _ _ _ _ _ _ (by simpa using hg)) (by rw [run_eql_struct, run_flat 5 hl (by unfold aggB; rw [hu]) 10000 (by decide) ht w]; rfl)
   ·rename_i n el hu
    split at h
    ·cases h
    ·rename_i hg
     obtain ⟨l, hl, rfl⟩ := Option.map_eq_some_iff.1 h
     obtain ⟨a, hx, hk⟩ := onAgg_elim hm; obtain ⟨b, hy, hk⟩ := onAgg_elim hk; obtain ⟨t, ht, hk⟩ := onSome_elim hk
     exact .quiet _ hk fun w hw => exec_agg hx hy (run_eqGuard_agg w _ _ _ _ _ _ (by simpa using hg)) (by rw [run_neq_struct, run_flat 5 hl (by unfold aggB; rw [hu]) 10000 (by decide) ht w]; rfl)
   ·rename_i ms hu
    split at h
    ·injection h with h; subst h
     have hm : onNil (ev F x) (fun b => onV (if false = true then !b else b) fun t => K (.bool t) H) := hm
     obtain ⟨b, hx, hk⟩ := onNil_elim hm
     rcases hx with ⟨hx, rfl⟩ | ⟨t, u, hx, rfl⟩
     ·exact .quiet _ hk fun w hw => exec_binOp hx rfl (eqGuard_ni _ _ _ _) (run_bin_ni (neg := false) rfl hu w)
     ·exact .quiet _ hk fun w hw => exec_binOp hx rfl (eqGuard_if _ _ _ _ _ _) (run_bin_if (neg := false) rfl hu t u w)
    ·cases h
   ·rename_i ms hu
    split at h
    ·injection h with h; subst h
     have hm : onNil (ev F x) (fun b => onV (if true = true then !b else b) fun t => K (.bool t) H) := hm
     obtain ⟨b, hx, hk⟩ := onNil_elim hm
     rcases hx with ⟨hx, rfl⟩ | ⟨t, u, hx, rfl⟩
     ·exact .quiet _ hk fun w hw => exec_binOp hx rfl (eqGuard_ni _ _ _ _) (run_bin_ni (neg := true) rfl hu w)
     ·exact .quiet _ hk fun w hw => exec_binOp hx rfl (eqGuard_if _ _ _ _ _ _) (run_bin_if (neg := true) rfl hu t u w)
    ·cases h
   ·cases h
 ·
  injection h with h; subst h
  obtain ⟨b, hx, hk⟩ := onBool_elim hm
  exact .quiet _ hk fun w hw => by simp [execOp, hx, Op.unary]
 ·
  split at h
  ·rename_i k1 k2 h1 h2
   injection h with h; subst h
   obtain ⟨k, n, hx, hk⟩ := onInt_elim hm
   exact .quiet _ hk fun w hw => by simp [execOp, hx, convert, run_underlying h1, run_underlying h2, Conv.intToInt]
  ·cases h
 ·
  injection h with h; subst h
  obtain ⟨vs, hx, hk⟩ := onTuple_elim hm
  obtain ⟨v, hv, hk⟩ := onSome_elim hk
  exact .quiet _ hk fun w hw => by simp [execOp, hx, Instr.extract, hv]
 ·
  split at h
  ·rename_i e hu
   split at h
   ·rename_i n hn
    injection h with h; subst h
    obtain ⟨a, l, c, hx, hk⟩ := onSlice_elim hm
    obtain ⟨k, i, hi, hk⟩ := onInt_elim hk
    obtain ⟨b, o, ha, hk'⟩ := onPtr_elim hk
    obtain ⟨h0, h1, hk2⟩ := hk'
    have ha' : a = some ⟨b, o, none⟩ := by injection ha
    rw [ha'] at hx
    exact .quiet _ hk2 fun w hw => by simp [execOp, hx, hi, Instr.indexAt, asIntOf, run_underlying hu, h0, h1, run_size hn, Addr_add]
   ·cases h
  ·rename_i len e hu
   split at h
   ·rename_i n hn
    injection h with h; subst h
    obtain ⟨b, o, hx, hk⟩ := onPtr_elim hm
    obtain ⟨k, i, hi, h0, h1, hk⟩ := onInt_elim hk
    exact .quiet _ hk fun w hw => by simp [execOp, hx, hi, Instr.indexAt, asIntOf, run_underlying hu, Instr.sureAddr, h0, h1, run_size hn, Addr_add]
   ·cases h
  ·cases h
 ·
  injection h with h; subst h
  obtain ⟨b, o, hx, hk⟩ := onPtr_elim hm
  exact .quiet _ hk fun w hw => by simp [execOp, hx]
 ·
  split at h
  ·rename_i fs z hu hz
   split at h
   ·rename_i hall
    split at h
    ·rename_i l hl
     injection h with h; subst h
     exact res_build hu hz hall hl hm
    ·cases h
   ·cases h
  ·rename_i len e z hu hz
   split at h
   ·rename_i k hk
    split at h
    ·rename_i l hl
     injection h with h; subst h
     exact res_buildA hu hz hk hl hm
    ·cases h
   ·cases h
  ·cases h
 ·
  rename_i T n ps
  split at h
  ·rename_i e hu
   split at h
   ·rename_i i hi
    split at h
    ·rename_i z hz
     split at h
     ·rename_i hcond
      injection h with h; subst h
      simp only [Bool.and_eq_true, beq_iff_eq] at hcond
      obtain ⟨hc0, hc1⟩ := hcond
      have hps : ps = #[] := by simpa using hc1
      subst hps
      refine .eff fun w hw => ⟨_, _, _, .inl ?_, hw.alloc _, fresh_of hw (hm _ hw.size)⟩
      have hs : (sizeOf e).run P w = .ok i.size w := run_size (by simp [sizeB, hi]) w
      simp only [execOp, Instr.buildSlice, Sem.run_bind, run_underlying hu, Result.andThen_ok, hs, hc0]
      have hr0 : Array.range 0 = #[] := by apply Array.ext' <;> simp
      simp [Instr.fill, newRow, hr0]
     split at h
     ·rename_i hcond
      injection h with h; subst h
      simp only [Bool.and_eq_true, decide_eq_true_eq, beq_iff_eq] at hcond
      obtain ⟨⟨⟨hc1, hc2⟩, hc3⟩, hc4⟩ := hcond
      obtain ⟨hsz, hk⟩ := hm
      refine .eff fun w hw => ?_
      have hs : (sizeOf e).run P w = .ok i.size w := run_size (by simp [sizeB, hi]) w
      have hzr : (zeroValue e).run P w = .ok z w := run_zero (by simp [hi, hz]) w
      have hsz0 : ((Array.range (n * i.size)).map (z.cells[· % z.cells.size]!)).size = n * i.size := by simp
      have hfill : Instr.fill (fun j => some (j * i.size, i.size)) ((Array.range (n * i.size)).map (z.cells[· % z.cells.size]!)) (ps.toList.map fun p => (p.1, ev F p.2)) = some (fillP ((Array.range (n * i.size)).map (z.cells[· % z.cells.size]!)) (unsize (evp F (ps.toList.map fun p => (p.1 * i.size, i.size, p.2))))) := by
       have := fill_run (place := fun j => some (j * i.size, i.size)) (ps.toList.map fun p => (p.1, p.1 * i.size, i.size, ev F p.2)) ((Array.range (n * i.size)).map (z.cells[· % z.cells.size]!)) (by
        intro p hp
        obtain ⟨p', hp', rfl⟩ := List.mem_map.1 hp
        have hlt : p'.1 < n := by
         have := Array.all_eq_true_iff_forall_mem.1 hc4 p' (by simpa using hp')
         simpa using this
        refine ⟨rfl, ?_, ?_⟩
        ·have hmem : (p'.1 * i.size, i.size, ev F p'.2) ∈ evp F (ps.toList.map fun p => (p.1 * i.size, i.size, p.2)) := by
          rw [evp_map]; simp only [List.map_map, List.mem_map]
          exact ⟨p', hp', rfl⟩
         have := List.all_eq_true.1 hsz _ hmem
         simpa using this
        ·rw [hsz0]
         have := Nat.mul_le_mul_right i.size hlt
         simp only [Nat.succ_mul] at this
         exact this)
       simp only [List.map_map, Function.comp_def] at this ⊢
       rw [this, unsize, evp_map]
       simp only [List.map_map, Function.comp_def]
      have hto : (ps.map fun x => (x.1, ev F x.2)).toList = ps.toList.map fun p => (p.1, ev F p.2) := by simp
      refine ⟨_, _, _, .inl ?_, hw.alloc _, fresh_of hw (hk _ hw.size)⟩
      have hbig : ¬ (2 ^ 24 < n * i.size) := by omega
      have h00 : ¬ n * i.size = 0 := by omega
      simp only [execOp, Instr.buildSlice, Sem.run_bind, run_underlying hu, Result.andThen_ok, hs, if_neg hbig, if_neg h00]
      simp [hzr, hfill, newRow]
     ·cases h
    ·cases h
   ·cases h
  ·cases h
 ·
  split at h
  ·rename_i e hu
   split at h
   ·rename_i i hi
    split at h
    ·rename_i z hz
     split at h
     ·rename_i hcond
      injection h with h; subst h
      simp only [Bool.and_eq_true, beq_iff_eq] at hcond
      obtain ⟨k1, n, hl, hk⟩ := onInt_elim hm
      obtain ⟨k2, mm, hc, h0, h1, h2, h3, hk⟩ := onInt_elim hk
      refine .eff fun w hw => ⟨_, _, _, .inl ?_, hw.alloc _, fresh_of hw (hk _ hw.size)⟩
      have hr := run_make (P := P) w _ e i z hu hi hz k1 k2 n mm h0 h1 h2 h3
      have hcells : madeCells z.cells (mm.toNat * i.size) = Array.replicate mm.toNat z := by
       rw [cells_one hcond.2, hcond.1, Nat.mul_one]
       apply Array.ext
       ·simp [madeCells]
       ·intro j h1 h2
        simp [madeCells, Nat.mod_one]
      rw [hcells] at hr
      simp [execOp, hl, hc, hr]
     ·cases h
    ·cases h
   ·cases h
  ·cases h
 ·
  split at h
  ·rename_i e hu
   split at h
   ·rename_i n hn
    injection h with h; subst h
    obtain ⟨a, l, c, hx, hk⟩ := onSlice_elim hm
    obtain ⟨i, hi, hk1⟩ := orInt_elim hk
    obtain ⟨j, hj, h0, h1, h2, hk2⟩ := orInt_elim hk1
    refine .quiet _ hk2 fun w hw => ?_
    have hb := run_sliceBounds (P := P) hi hj h0 h1 h2 w
    simp only [execOp, hx, Instr.sliceAt, Sem.run_bind, run_underlying hu, Result.andThen_ok, Instr.slice, Option.map_none]
    simp [hb, run_size hn]
   ·cases h
  ·cases h
 ·
  rename_i T x lo hi mx
  split at h
  ·rename_i e hu
   split at h
   ·rename_i n hn
    injection h with h; subst h
    obtain ⟨a, l, c, hx, hk⟩ := onSlice_elim hm
    obtain ⟨i, hi', hk1⟩ := orInt_elim hk
    obtain ⟨kj, j, hj, hk2⟩ := onInt_elim hk1
    obtain ⟨km, m, hmx, h0, h1, h2, h3, hk3⟩ := onInt_elim hk2
    refine .quiet _ hk3 fun w hw => ?_
    have hb : (Instr.sliceBounds true l c (lo.map (ev F)) (some (ev F hi)) (some (ev F mx))).run P w = .ok (i.toNat, j.toNat, m.toNat) w := by
     have g1 : 0 ≤ m := by omega
     have g2 : 0 ≤ j := by omega
     have g3 : i ≤ (j.toNat : Int) := by omega
     have g4 : j ≤ (m.toNat : Int) := by omega
     have g5 : max j 0 = j := by omega
     have g6 : max m 0 = m := by omega
     rcases hi' with ⟨rfl, rfl⟩ | ⟨y, t, rfl, hy⟩ <;> simp [Instr.sliceBounds, Instr.sliceBound, asIntOf, *]
    simp only [execOp, hx, Instr.sliceAt, Sem.run_bind, run_underlying hu, Result.andThen_ok, Instr.slice, Option.map_some]
    simp [hb, run_size hn]
   ·cases h
  ·cases h
 ·
  injection h with h; subst h
  refine .quiet _ hm fun w hw => ?_
  rename_i fn first cap
  have e1 : (evs F first.toList).toArray = first.map (ev F) := by rw [evs_map, ← List.map_toArray, Array.toArray_toList]
  have e2 : (evs F cap.toList).toArray = cap.map (ev F) := by rw [evs_map, ← List.map_toArray, Array.toArray_toList]
  simp [execOp, Instr.makeFunc, e1, e2]
 ·
  rename_i args ats
  split at h
  ·rename_i x y hargs
   injection h with h; subst h
   obtain ⟨k, a, hx, hk⟩ := onInt_elim hm; obtain ⟨k', b, hy, hk⟩ := onInt_elim hk
   refine .quiet _ hk fun w hw => ?_
   have hargs' : args = #[x, y] := by apply Array.ext'; simpa using hargs
   subst hargs'
   simp [execOp, resolve, invoke, builtin, Builtin.min_, Builtin.min2, hx, hy]
  ·cases h
 ·
  rename_i args ats
  split at h
  ·rename_i x y t t' hargs hats
   split at h
   ·rename_i e e' hu hu'
    split at h
    ·rename_i i hi
     split at h
     ·rename_i z hz
      split at h
      ·rename_i ht
       injection h with h; subst h
       have hargs' : args = #[x, y] := by apply Array.ext'; simpa using hargs
       have hats' : ats = #[t, t'] := by apply Array.ext'; simpa using hats
       subst hargs' hats'
       obtain ⟨a, l, c, hx, hk⟩ := onSlice_elim hm
       obtain ⟨a', n, c', hy, hk⟩ := onSlice_elim hk
       obtain ⟨new, hnew, hk⟩ := onSome_elim hk
       have hsz : ∀ w, (sizeOf e).run P w = .ok i.size w := fun w => run_size (by simp [sizeB, hi]) w
       have hzr : ∀ w, (zeroValue e).run P w = .ok z w := fun w => run_zero (by simp [hi, hz]) w
       have hti : ∀ w, (typeInfo e).run P w = .ok i w := fun w => by simp [typeInfo, hi]
       refine .eff fun w hw => ?_
       have hf := run_firstCells (P := P) (l := n) (c := c') hw hnew
       split at hk
       ·rename_i hroom
        cases a with
        |none =>
         have hk := stow_none hk
         exact ⟨_, w, H, .inl (by simp [execOp, resolve, invoke, builtin, Builtin.append_, hx, hy, run_underlying hu, run_underlying hu', hsz, Builtin.lenOf, hroom, hf]), hw, hk.2⟩
        |some ad =>
         obtain ⟨b, o, sp⟩ := ad
         by_cases hn0 : new.size = 0
         ·unfold stow at hk
          rw [if_pos hn0] at hk
          have hnl : new = #[] := by simpa using hn0
          subst hnl
          exact ⟨_, w, H, .inl (by simp [execOp, resolve, invoke, builtin, Builtin.append_, hx, hy, run_underlying hu, run_underlying hu', hsz, Builtin.lenOf, hroom, hf, storeCells]), hw, hk⟩
         ·have hsp : sp = none := by
           unfold stow at hk
           rw [if_neg hn0] at hk
           obtain ⟨b', o', hp, _⟩ := onPtr_elim hk
           injection hp with hp; injection hp with hp; injection hp
          subst hsp
          obtain ⟨w', H', hr, hs, hk⟩ := run_stow (P := P) hw hk
          exact ⟨_, w', H', .inl (by simp [execOp, resolve, invoke, builtin, Builtin.append_, hx, hy, run_underlying hu, run_underlying hu', hsz, Builtin.lenOf, hroom, hf, Addr_add, hr]), hs, hk⟩
       ·rename_i hroom
        obtain ⟨h48, h63, hk⟩ := hk
        obtain ⟨old, hold, hk⟩ := onSome_elim hk
        have hw2 : Sat W H w.drew := hw.drew _
        have hfo := run_firstCells (P := P) (l := l) (c := c) hw2 hold
        have hfn := run_firstCells (P := P) (l := n) (c := c') hw2 hnew
        have hcap := grownCap_ge w (l + n) c e
        have hk := fresh_of hw2 (hk _ hcap _ hw2.size)
        refine ⟨_, _, _, .inl ?_, hw2.alloc _, hk⟩
        have h63' : ¬ (9223372036854775807 < ((l : Int) + (n : Int))) := by omega
        have h48' : ¬ (281474976710656 < Builtin.nextslicecap (l + n) c * i.bytes) := by omega
        simp [execOp, resolve, invoke, builtin, Builtin.append_, hx, hy, run_underlying hu, run_underlying hu', hsz, hzr, hti, Builtin.lenOf, hroom, hfo, hfn, h63', h48', Question.forced, newRow, grownCap]
      ·cases h
     ·cases h
    ·cases h
   ·cases h
  ·cases h
 ·
  rename_i args ats
  split at h
  ·rename_i x y t t' hargs hats
   split at h
   ·rename_i e hu
    split at h
    ·rename_i n hn
     injection h with h; subst h
     have hargs' : args = #[x, y] := by apply Array.ext'; simpa using hargs
     have hats' : ats = #[t, t'] := by apply Array.ext'; simpa using hats
     subst hargs' hats'
     obtain ⟨a, l, c, hx, hk⟩ := onSlice_elim hm
     obtain ⟨a', m', c', hy, hk⟩ := onSlice_elim hk
     obtain ⟨new, hnew, hk⟩ := onSome_elim hk
     refine .eff fun w hw => ?_
     have hf := run_firstCells (P := P) (l := m') (c := c') hw hnew
     cases a with
     |none =>
      have hk := stow_none hk
      exact ⟨_, w, H, .inl (by simp [execOp, resolve, invoke, builtin, Builtin.copy_, hx, hy, run_underlying hu, run_size hn, Builtin.lenOf, hf, goInt]), hw, hk.2⟩
     |some ad =>
      obtain ⟨b, o, sp⟩ := ad
      by_cases hn0 : new.size = 0
      ·unfold stow at hk
       rw [if_pos hn0] at hk
       have hnl : new = #[] := by simpa using hn0
       subst hnl
       exact ⟨_, w, H, .inl (by simp [execOp, resolve, invoke, builtin, Builtin.copy_, hx, hy, run_underlying hu, run_size hn, Builtin.lenOf, hf, goInt, storeCells]), hw, hk⟩
      ·have hsp : sp = none := by
        unfold stow at hk
        rw [if_neg hn0] at hk
        obtain ⟨b', o', hp, _⟩ := onPtr_elim hk
        injection hp with hp; injection hp with hp; injection hp
       subst hsp
       obtain ⟨w', H', hr, hs, hk⟩ := run_stow (P := P) hw hk
       rw [Nat.add_zero] at hr
       exact ⟨_, w', H', .inl (by simp [execOp, resolve, invoke, builtin, Builtin.copy_, hx, hy, run_underlying hu, run_size hn, Builtin.lenOf, hf, goInt, hr]), hs, hk⟩
    ·cases h
   ·cases h
  ·cases h
 ·
  split at h
  ·rename_i hf
   injection h with h
   split at h
   ·subst h
    obtain ⟨v, hv, hk⟩ := onSome_elim hm
    rw [evs_map] at hv
    exact .pc v hk _ _ (fun w => call_exec hf rfl) (by have := of_pv hv; rwa [← List.map_toArray, Array.toArray_toList] at this)
   ·subst h
    have hm := hm
    simp only [MO.wp, onV, callT] at hm
    rw [evs_map, ← List.map_toArray, Array.toArray_toList] at hm
    exact .call _ _ (fun w => call_exec hf rfl) hm
  ·cases h
 ·
  rename_i args ats
  split at h
  ·rename_i x e hx0 hu
   split at h
   ·rename_i hsz
    injection h with h; subst h
    obtain ⟨a, l, c, hx, hk⟩ := onSlice_elim hm
    refine .quiet _ hk fun w hw => ?_
    have hargs : args = #[x] := by
     apply Array.ext
     ·simpa using hsz
     ·intro i h1 h2
      have : i = 0 := by simp at h2; omega
      subst this
      have := hx0
      simp only [Array.getElem?_eq_getElem h1] at this
      simpa using this
    subst hargs
    cases eat : ats[0]? with
    | none => rw [eat] at hu; cases hu
    |some t0 =>
     rw [eat] at hu
     have hu' : P.underlying t0 = some (.slice e) := by simpa using hu
     simp [execOp, resolve, invoke, builtin, Builtin.len_, eat, hx, run_underlying hu', goInt]
   ·cases h
  ·cases h
 ·
  split at h
  ·rename_i hc
   injection h with h; subst h
   exact .quiet _ hm fun w hw => by simp [execOp, run_makeInterface w _ _ hc]
  ·cases h
 ·
  rename_i x xT T
  split at h
  ·rename_i hc
   split at h
   ·rename_i z hz
    injection h with h; subst h
    have hm : onAs T z (ev F x) (fun v => K v H) := hm
    obtain ⟨r, hx, hk⟩ := onAs_elim hm
    unfold Program.concrete at hc
    cases hd : P.underlying T with
    | none => rw [hd] at hc; simp at hc
    |some d =>
     rcases hx with ⟨hx, rfl⟩ | ⟨t, u, hx, rfl⟩
     ·refine .quiet _ hk fun w hw => ?_
      have hz' := run_zero hz w
      cases d <;> first | (rw [hd] at hc; simp at hc; done) | simp [execOp, hx, Instr.typeAssert, run_underlying hd, hz']
     ·refine .quiet _ hk fun w hw => ?_
      have hz' := run_zero hz w
      by_cases e : t = T
      ·subst e
       cases d <;> first | (rw [hd] at hc; simp at hc; done) | simp [execOp, hx, Instr.typeAssert, run_underlying hd]
      ·cases d <;> first | (rw [hd] at hc; simp at hc; done) | simp [execOp, hx, Instr.typeAssert, run_underlying hd, hz', e]
   ·cases h
  ·cases h
 ·
  rename_i rx name args ats
  injection h with h; subst h
  have hm : onIf (ev F rx) (fun t u => onSome (methB P t name) fun f => onV (u :: evs F args.toList) fun vs => callT P W f vs.toArray H K) := hm
  obtain ⟨t, u, hx, hk⟩ := onIf_elim hm
  obtain ⟨f, hf, hk⟩ := onSome_elim hk
  have hk := hk
  simp only [onV, callT] at hk
  rw [evs_map] at hk
  refine .call f _ (fun w => inv_exec hx hf w) ?_
  have e : (u :: List.map (ev F) args.toList).toArray = #[u] ++ args.map (ev F) := by
   apply Array.ext'; simp
  rw [e] at hk
  exact hk
 ·cases h
end

section
variable {P : Program} {N : Nat} {W w : World} {F : Fr} {H : Hp} {K : Value → Hp → Prop} {Q : Exit → Act → World → Prop}

theorem trOp_eval {pure : List FuncId} {o : Oper} {m : MO} (h : trOp P N pure o = some m) : execOp (act N F).eval o = execOp (ev F) o := by
 unfold trOp at h
 split at h
 ·rename_i hok
  have hev : ∀ x ∈ o.op.operands, (act N F).eval x = ev F x := fun x hx => act_eval F (Array.all_eq_true_iff_forall_mem.1 hok x hx)
  exact execOp_congr o (fun cs b e => by rw [e] at h; simp at h) hev
 ·cases h

theorem sound_op {pure : List FuncId} {o : Oper} {m : MO} (h : trOp P N pure o = some m) (hw : Sat W H w) (hm : m.wp P W F H K) :
  o.wp P (act N F) w (Done N F o.dst W K) Q := by
 have he := trOp_eval (F := F) h
 have hr := res_op h hm
 unfold Oper.wp
 rw [he]
 generalize m.still = s at hr
 generalize m.quiet = q at hr
 cases hr with
 | quiet v hk hrun => rw [hrun w hw, Oper.upon_value]; exact ⟨v, H, act_put _ _ _ _, hw, hk⟩
 |eff hrun =>
  obtain ⟨v, w', H', hr | ⟨hr, hv⟩, hs, hk⟩ := hrun w hw
  ·rw [hr, Oper.upon_value]; exact ⟨v, H', act_put _ _ _ _, hs, hk⟩
  ·rw [hr, Oper.upon_skip]; subst hv; exact ⟨undef, H', act_put _ _ _ _, hs, hk⟩
 |pc v hk f args hrun hp =>
  rw [hrun w, Oper.upon_enter]
  refine (hp.2 W H w hw).mono fun e w' ⟨he, hs⟩ => ?_
  subst he
  exact ⟨v, H, act_put _ _ _ _, hs, hk⟩
 |call f args hrun hp =>
  rw [hrun w, Oper.upon_enter]
  refine (hp w hw).mono fun e w' ⟨v, H', he, hs, hk⟩ => ?_
  subst he
  exact ⟨v, H', act_put _ _ _ _, hs, hk⟩

theorem quiet_op {pure : List FuncId} {o : Oper} {m : MO} (h : trOp P N pure o = some m) (hq : m.quiet = true) (hm : m.wp P W F H K) :
  ∃ v, K v H ∧ ∀ w, Sat W H w → (m.still = true → (execOp (act N F).eval o).run P w = .ok (.value v) w) ∧ o.quietAt P (act N F) (Sat W H) w v := by
 have he := trOp_eval (F := F) h
 have hr := res_op h hm
 unfold Oper.quietAt
 rw [he]
 generalize hs : m.still = s at hr
 rw [hq] at hr
 cases hr with
 | quiet v hk hrun => exact ⟨v, hk, fun w hw => ⟨fun _ => hrun w hw, by rw [hrun w hw]; exact ⟨rfl, rfl⟩⟩⟩
 | pc v hk f args hrun hp => exact ⟨v, hk, fun w hw => ⟨fun x => absurd x (by simp), by rw [hrun w]; exact ⟨rfl, hp.2 W H w hw⟩⟩⟩
end
/-! ### Instructions, regions -/
structure MI where
 dst : Option Nat
 op : MO
 guard : Option (Nat × Bool)

def onGuard (v : Value) (want : Bool) (p q : Prop) (_x : Tag (p, q) := .mk) : Prop := match v with
 | .bool b => if want then both b p q else both b q p
 | _ => q
theorem onGuard_true (b : Bool) (p q : Prop) : onGuard (.bool b) true p q = both b p q := _root_.id rfl
theorem onGuard_false (b : Bool) (p q : Prop) : onGuard (.bool b) false p q = both b q p := _root_.id rfl
theorem onGuard_undef (w : Bool) (p q : Prop) : onGuard undef w p q = q := _root_.id rfl

def guarded (F : Fr) (g : Option (Nat × Bool)) (p q : Prop) : Prop := match g with
 | none => p
 | some (s, want) => onGuard (gt F s) want p q

def rwp (P : Program) (W : World) : List MI → (Fr → Hp → Prop) → Fr → Hp → Prop
 | [], K, F, H => K F H
 | ⟨d, m, g⟩ :: r, K, F, H => guarded F g (m.wp P W F H fun v H' => rwp P W r K (putD F d v) H') (rwp P W r K (putD F d undef) H)

/-- In which order the steps of a drawing region are taken: a still one first; else each of those that may come up. -/
inductive ST where
 | done
 | take (i : MI) (next : ST)
 | alt (last : Bool) (i : MI) (next more : ST)
 | stop

/-- What is known of blocks while a region is on: cells that stay, but those that are free to change. -/
def agree (fr : List Nat) : List Value → List Value → Nat → Prop
 | [], [], _ => True
 | a :: l, b :: m, i => (fr.contains i = true ∨ b = a) ∧ agree fr l m (i + 1)
 | _, _, _ => False
def hold1 (x : Option Obj) (c : Array Value) (fr : List Nat) : Prop := match x with
 | some (.cells c' _ _) => agree fr c.toList c'.toList 0
 | _ => False
def hold : List (Nat × Array Value × List Nat) → Hp → Prop
 | [], _ => True
 | (k, c, fr) :: r, H => hold1 (H k) c fr ∧ hold r H
def kp : List (Nat × Array Value × List Nat) → Nat → Nat → Value → Prop
 | [], _, _, _ => False
 | (k, c, fr) :: r, b, o, v => if b = k then fr.contains o = false ∧ c[o]? = some v else kp r b o v
def kpn : List (Nat × Array Value × List Nat) → Nat → Nat → Nat → Array Value → Prop
 | [], _, _, _, _ => False
 | (k, c, fr) :: r, b, o, n, v => if b = k then fr.all (fun i => decide (i < o) || decide (o + n ≤ i)) = true ∧ o + n ≤ c.size ∧ c.extract o (o + n) = v else kpn r b o n v

theorem agree_refl (fr : List Nat) : ∀ (l : List Value) (i : Nat), agree fr l l i
 | [], _ => trivial
 | _ :: l, i => ⟨.inr rfl, agree_refl fr l (i + 1)⟩
theorem agree_at (fr : List Nat) : ∀ (l m : List Value) (i : Nat), agree fr l m i → m.length = l.length ∧ ∀ j, fr.contains (i + j) = false → m[j]? = l[j]?
 | [], [], _, _ => ⟨rfl, fun _ _ => rfl⟩
 |a :: l, b :: m, i, h => by
  obtain ⟨h1, h2⟩ := agree_at fr l m (i + 1) h.2
  refine ⟨by simp [h1], fun j hj => ?_⟩
  cases j with
  |zero =>
   rcases h.1 with h' | h'
   ·rw [Nat.add_zero] at hj; rw [hj] at h'; cases h'
   ·simp [h']
  | succ j => simpa using h2 j (by rw [← hj]; congr 1; omega)
 | [], _ :: _, _, h => by cases h
 | _ :: _, [], _, h => by cases h
theorem hold1_elim {x : Option Obj} {c : Array Value} {fr : List Nat} (h : hold1 x c fr) : ∃ c' T f, x = some (.cells c' T f) ∧ c'.size = c.size ∧ ∀ j, fr.contains j = false → c'[j]? = c[j]? := by
 unfold hold1 at h
 split at h
 ·rename_i c' T f
  obtain ⟨h1, h2⟩ := agree_at fr _ _ 0 h
  exact ⟨c', T, f, rfl, by simpa using h1, fun j hj => by simpa using h2 j (by rw [Nat.zero_add]; exact hj)⟩
 ·cases h
theorem kp_rd : ∀ (l : List (Nat × Array Value × List Nat)) {H : Hp} {b o : Nat} {v : Value}, hold l H → kp l b o v → rd H b o = some v
 | [], _, _, _, _, _, h => by cases h
 | (k, c, fr) :: r, H, b, o, v, h, hk => by
  unfold kp at hk
  split at hk
  ·rename_i e; subst e
   obtain ⟨c', T, f, hx, hs, ha⟩ := hold1_elim h.1
   rw [rd_of hx, ha o hk.1, hk.2]
  ·exact kp_rd r h.2 hk
theorem kpn_rdn : ∀ (l : List (Nat × Array Value × List Nat)) {H : Hp} {b o n : Nat} {v : Array Value}, hold l H → kpn l b o n v → rdn H b o n = some v
 | [], _, _, _, _, _, _, h => by cases h
 | (k, c, fr) :: r, H, b, o, n, v, h, hk => by
  unfold kpn at hk
  split at hk
  ·rename_i e; subst e
   obtain ⟨c', T, f, hx, hs, ha⟩ := hold1_elim h.1
   obtain ⟨h1, h2, h3⟩ := hk
   rw [rdn_of hx, if_pos (by omega), ← h3]
   congr 1
   apply Array.ext
   ·simp [hs]
   ·intro i i1 i2
    have hi : i < n := by simp at i2; omega
    have hno : fr.contains (o + i) = false := by
     cases e : fr.contains (o + i) with
     | false => rfl
     |true =>
      rw [List.contains_iff_mem] at e
      have := List.all_eq_true.1 h1 _ e
      simp at this; omega
    have := ha (o + i) hno
    simp only [Array.getElem_extract]
    rw [Array.getElem?_eq_getElem (by omega), Array.getElem?_eq_getElem (by omega)] at this
    simpa using this
  ·exact kpn_rdn r h.2 hk

/-- A still step of a drawn region: what it reads is read of what stays. -/
def MO.twp (P : Program) (W : World) (R : List (Nat × Array Value × List Nat)) (F : Fr) (H : Hp) (k : Value → Prop) : MO → Prop
 | .ld1 x => onPtr (ev F x) fun b o => onSome (rd H b o) fun v => kp R b o v ∧ k v
 | .ldn n x => onPtr (ev F x) fun b o => onSome (rdn H b o n) fun v => kpn R b o n v ∧ k (.agg v)
 | m => m.wp P W F H fun v _ => k v

theorem MO.flat_op {P : Program} {W : World} {F : Fr} {H : Hp} {K : Value → Hp → Prop} {m : MO} (hs : m.still = true) (h1 : ∀ x, m ≠ .ld1 x) (h2 : ∀ n x, m ≠ .ldn n x) (h : m.wp P W F H K) :
  ∃ v, K v H ∧ ∀ (H' : Hp) (K' : Value → Hp → Prop), K' v H' → m.wp P W F H' K' := by
 cases m
 case ld1 x => exact absurd rfl (h1 x)
 case ldn n x => exact absurd rfl (h2 n x)
 case st1 => cases hs
 case stn => cases hs
 case box => cases hs
 case alc => cases hs
 case call => cases hs
 case pcall => cases hs
 case mks => cases hs
 case bsl => cases hs
 case bsl0 => cases hs
 case app => cases hs
 case cpy => cases hs
 case inv => cases hs
 case mif T x => exact ⟨_, h, fun H' K' h' => h'⟩
 case inil neg x =>
  have h : onNil (ev F x) (fun b => onV (if neg then !b else b) fun t => K (.bool t) H) := h
  obtain ⟨b, hx, hk⟩ := onNil_elim h
  rcases hx with ⟨hx, rfl⟩ | ⟨t, u, hx, rfl⟩
  ·exact ⟨_, hk, fun H' K' h' => by simp only [MO.wp, hx, onNil_nil]; exact h'⟩
  ·exact ⟨_, hk, fun H' K' h' => by simp only [MO.wp, hx, onNil_mk]; exact h'⟩
 case tas T z x =>
  have h : onAs T z (ev F x) (fun v => K v H) := h
  obtain ⟨r, hx, hk⟩ := onAs_elim h
  rcases hx with ⟨hx, rfl⟩ | ⟨t, u, hx, rfl⟩
  ·exact ⟨_, hk, fun H' K' h' => by simp only [MO.wp, hx, onAs_nil]; exact h'⟩
  ·refine ⟨_, hk, fun H' K' h' => ?_⟩
   by_cases e : t = T
   ·subst e; rw [if_pos rfl] at h'; simp only [MO.wp, hx, onAs_hit]; exact h'
   ·rw [if_neg e] at h'; simp only [MO.wp, hx, onAs_miss z u _ (by simpa using e)]; exact h'
 case mv x => exact ⟨_, h, fun H' K' h' => h'⟩
 case mkf f a b => exact ⟨_, h, fun H' K' h' => h'⟩
 case pick c a b =>
  obtain ⟨t, ht, hk⟩ := onBool_elim h
  have hk := both_elim hk
  cases t
  ·exact ⟨_, hk, fun H' K' h' => by simp only [MO.wp, ht, onBool_mk, both_false]; exact h'⟩
  ·exact ⟨_, hk, fun H' K' h' => by simp only [MO.wp, ht, onBool_mk, both_true]; exact h'⟩
 case fad off x => obtain ⟨b, o, hx, hk⟩ := onPtr_elim h; exact ⟨_, hk, fun H' K' h' => by simp only [MO.wp, hx, onPtr_mk]; exact h'⟩
 case nilck x => obtain ⟨b, o, hx, hk⟩ := onPtr_elim h; exact ⟨_, hk, fun H' K' h' => by simp only [MO.wp, hx, onPtr_mk]; exact h'⟩
 case fld1 off x =>
  obtain ⟨cs, hx, hk⟩ := onAgg_elim h; obtain ⟨v, hv, hk⟩ := onSome_elim hk
  exact ⟨_, hk, fun H' K' h' => by simp only [MO.wp, hx, onAgg_mk, hv, onSome_mk]; exact h'⟩
 case fldn off n x => obtain ⟨cs, hx, hk⟩ := onAgg_elim h; exact ⟨_, hk, fun H' K' h' => by simp only [MO.wp, hx, onAgg_mk]; exact h'⟩
 case ar op x y =>
  obtain ⟨k, a, hx, hk⟩ := onInt_elim h; obtain ⟨k', b, hy, hk⟩ := onInt_elim hk; obtain ⟨e, hk⟩ := hk; obtain ⟨n, hn, hk⟩ := onSome_elim hk
  exact ⟨_, hk, fun H' K' h' => by simp only [MO.wp, hx, hy, onInt_mk, hn, onSome_mk]; exact ⟨e, h'⟩⟩
 case dv op x y =>
  obtain ⟨k, a, hx, hk⟩ := onInt_elim h; obtain ⟨k', b, hy, hk⟩ := onInt_elim hk; obtain ⟨e, e', hk⟩ := hk; obtain ⟨n, hn, hk⟩ := onSome_elim hk
  exact ⟨_, hk, fun H' K' h' => by simp only [MO.wp, hx, hy, onInt_mk, hn, onSome_mk]; exact ⟨e, e', h'⟩⟩
 case cmp op x y =>
  obtain ⟨k, a, hx, hk⟩ := onInt_elim h; obtain ⟨k', b, hy, hk⟩ := onInt_elim hk; obtain ⟨e, hk⟩ := hk; obtain ⟨n, hn, hk⟩ := onSome_elim hk
  exact ⟨_, hk, fun H' K' h' => by simp only [MO.wp, hx, hy, onInt_mk, hn, onSome_mk]; exact ⟨e, h'⟩⟩
 case bt op x y =>
  obtain ⟨k, a, hx, hk⟩ := onInt_elim h; obtain ⟨k', b, hy, hk⟩ := onInt_elim hk; obtain ⟨e, hk⟩ := hk; obtain ⟨n, hn, hk⟩ := onSome_elim hk
  exact ⟨_, hk, fun H' K' h' => by simp only [MO.wp, hx, hy, onInt_mk, hn, onSome_mk]; exact ⟨e, h'⟩⟩
 case sh op x y =>
  obtain ⟨k, a, hx, hk⟩ := onInt_elim h; obtain ⟨k', b, hy, hk⟩ := onInt_elim hk; obtain ⟨e, hk⟩ := hk; obtain ⟨n, hn, hk⟩ := onSome_elim hk
  exact ⟨_, hk, fun H' K' h' => by simp only [MO.wp, hx, hy, onInt_mk, hn, onSome_mk]; exact ⟨e, h'⟩⟩
 case mn x y =>
  obtain ⟨k, a, hx, hk⟩ := onInt_elim h; obtain ⟨k', b, hy, hk⟩ := onInt_elim hk
  exact ⟨_, hk, fun H' K' h' => by simp only [MO.wp, hx, hy, onInt_mk]; exact h'⟩
 case nt x => obtain ⟨b, hx, hk⟩ := onBool_elim h; exact ⟨_, hk, fun H' K' h' => by simp only [MO.wp, hx, onBool_mk]; exact h'⟩
 case cv kd x => obtain ⟨k, a, hx, hk⟩ := onInt_elim h; exact ⟨_, hk, fun H' K' h' => by simp only [MO.wp, hx, onInt_mk]; exact h'⟩
 case ext i x =>
  obtain ⟨cs, hx, hk⟩ := onTuple_elim h; obtain ⟨v, hv, hk⟩ := onSome_elim hk
  exact ⟨_, hk, fun H' K' h' => by simp only [MO.wp, hx, onTuple_mk, hv, onSome_mk]; exact h'⟩
 case len x => obtain ⟨a, l, c, hx, hk⟩ := onSlice_elim h; exact ⟨_, hk, fun H' K' h' => by simp only [MO.wp, hx, onSlice_mk]; exact h'⟩
 case snil neg x => obtain ⟨a, l, c, hx, hk⟩ := onSlice_elim h; exact ⟨_, hk, fun H' K' h' => by simp only [MO.wp, hx, onSlice_mk]; exact h'⟩
 case iad sz x i =>
  obtain ⟨a, l, c, hx, hk⟩ := onSlice_elim h; obtain ⟨k, n, hi, hk⟩ := onInt_elim hk; obtain ⟨b, o, ha, e1, e2, hk⟩ := onPtr_elim hk
  exact ⟨_, hk, fun H' K' h' => by simp only [MO.wp, hx, hi, ha, onSlice_mk, onInt_mk, onPtr_mk]; exact ⟨e1, e2, h'⟩⟩
 case iadA n sz x i =>
  obtain ⟨b, o, hx, hk⟩ := onPtr_elim h; obtain ⟨k, m, hi, e1, e2, hk⟩ := onInt_elim hk
  exact ⟨_, hk, fun H' K' h' => by simp only [MO.wp, hx, hi, onInt_mk, onPtr_mk]; exact ⟨e1, e2, h'⟩⟩
 case beq neg x y =>
  obtain ⟨a, hx, hk⟩ := onBool_elim h; obtain ⟨b, hy, hk⟩ := onBool_elim hk
  exact ⟨_, hk, fun H' K' h' => by simp only [MO.wp, hx, hy, onBool_mk]; exact h'⟩
 case aeq neg l x y =>
  obtain ⟨a, hx, hk⟩ := onAgg_elim h; obtain ⟨b, hy, hk⟩ := onAgg_elim hk; obtain ⟨t, ht, hk⟩ := onSome_elim hk
  exact ⟨_, hk, fun H' K' h' => by simp only [MO.wp, hx, hy, onAgg_mk, ht, onSome_mk]; exact h'⟩
 case pnil neg x =>
  unfold MO.wp onV at h
  simp only at h
  split at h
  ·rename_i a e; exact ⟨_, h, fun H' K' h' => by simp only [MO.wp, e, onV_mk]; exact h'⟩
  ·cases h
 case bld z ps =>
  obtain ⟨h1, hk⟩ := h
  exact ⟨_, hk, fun H' K' h' => ⟨h1, h'⟩⟩
 case slc sz x lo hi =>
  obtain ⟨a, l, c, hx, hk⟩ := onSlice_elim h
  have key : ∀ (H' : Hp) (K' : Value → Hp → Prop), MO.wp P W F H' K' (.slc sz x lo hi) = orInt F lo 0 fun i => orInt F hi l fun j => 0 ≤ i ∧ i ≤ j ∧ j ≤ c ∧ onV (if c = i.toNat then a else a.map (·.add (i.toNat * sz))) fun a' => onV (j.toNat - i.toNat) fun n => onV (c - i.toNat) fun m => K' (.slice a' n m) H' := fun H' K' => by
   simp only [MO.wp, hx, onSlice_mk]
  rw [key] at h
  cases lo with
  |none =>
   cases hi with
   | none => obtain ⟨e1, e2, e3, hk⟩ := h; exact ⟨_, hk, fun H' K' h' => by rw [key]; exact ⟨e1, e2, e3, h'⟩⟩
   | some y => obtain ⟨t, j, hj, e1, e2, e3, hk⟩ := onInt_elim h; exact ⟨_, hk, fun H' K' h' => by rw [key]; simp only [orInt, hj, onInt_mk]; exact ⟨e1, e2, e3, h'⟩⟩
  |some z =>
   obtain ⟨t', i, hi', h⟩ := onInt_elim h
   cases hi with
   | none => obtain ⟨e1, e2, e3, hk⟩ := h; exact ⟨_, hk, fun H' K' h' => by rw [key]; simp only [orInt, hi', onInt_mk]; exact ⟨e1, e2, e3, h'⟩⟩
   | some y => obtain ⟨t, j, hj, e1, e2, e3, hk⟩ := onInt_elim h; exact ⟨_, hk, fun H' K' h' => by rw [key]; simp only [orInt, hi', hj, onInt_mk]; exact ⟨e1, e2, e3, h'⟩⟩
 case slc3 sz x lo hi mx =>
  obtain ⟨a, l, c, hx, hk⟩ := onSlice_elim h
  have key : ∀ (H' : Hp) (K' : Value → Hp → Prop), MO.wp P W F H' K' (.slc3 sz x lo hi mx) = orInt F lo 0 fun i => onInt (ev F hi) fun _ j => onInt (ev F mx) fun _ m => 0 ≤ i ∧ i ≤ j ∧ j ≤ m ∧ m ≤ c ∧ onV (if m.toNat = i.toNat then a else a.map (·.add (i.toNat * sz))) fun a' => onV (j.toNat - i.toNat) fun n => onV (m.toNat - i.toNat) fun m' => K' (.slice a' n m') H' := fun H' K' => by
   simp only [MO.wp, hx, onSlice_mk]
  rw [key] at h
  cases lo with
  | none => obtain ⟨t, j, hj, h⟩ := onInt_elim h; obtain ⟨t2, j2, hj2, e1, e2, e3, e4, hk⟩ := onInt_elim h; exact ⟨_, hk, fun H' K' h' => by rw [key]; simp only [orInt, hj, hj2, onInt_mk]; exact ⟨e1, e2, e3, e4, h'⟩⟩
  | some z => obtain ⟨t0, i, hi0, h⟩ := onInt_elim h; obtain ⟨t, j, hj, h⟩ := onInt_elim h; obtain ⟨t2, j2, hj2, e1, e2, e3, e4, hk⟩ := onInt_elim h; exact ⟨_, hk, fun H' K' h' => by rw [key]; simp only [orInt, hi0, hj, hj2, onInt_mk]; exact ⟨e1, e2, e3, e4, h'⟩⟩

theorem MO.take_op {P : Program} {W : World} {R : List (Nat × Array Value × List Nat)} {F : Fr} {H : Hp} {k : Value → Prop} {m : MO} (hs : m.still = true) (h : m.twp P W R F H k) :
  ∃ v, k v ∧ ∀ H', hold R H' → m.wp P W F H' fun v' _ => v' = v := by
 by_cases h1 : ∃ x, m = .ld1 x
 ·obtain ⟨x, rfl⟩ := h1
  obtain ⟨b, o, hx, hk⟩ := onPtr_elim h; obtain ⟨v, hv, hk1, hk2⟩ := onSome_elim hk
  exact ⟨v, hk2, fun H' hH => by simp only [MO.wp, hx, onPtr_mk, kp_rd R hH hk1, onSome_mk]⟩
 ·by_cases h2 : ∃ n x, m = .ldn n x
  ·obtain ⟨n, x, rfl⟩ := h2
   obtain ⟨b, o, hx, hk⟩ := onPtr_elim h; obtain ⟨v, hv, hk1, hk2⟩ := onSome_elim hk
   exact ⟨_, hk2, fun H' hH => by simp only [MO.wp, hx, onPtr_mk, kpn_rdn R hH hk1, onSome_mk]⟩
  ·have h' : m.wp P W F H fun v _ => k v := by
    cases m <;> first | exact h | exact absurd ⟨_, rfl⟩ h1 | exact absurd ⟨_, _, rfl⟩ h2
   obtain ⟨v, hk, hall⟩ := MO.flat_op hs (fun x e => h1 ⟨x, e⟩) (fun n x e => h2 ⟨n, x, e⟩) h'
   exact ⟨v, hk, fun H' _ => hall H' _ rfl⟩

/-- The steps of a region that draws its order: the still ones read what stays in whichever order. -/
def dwp (P : Program) (W : World) (R : List (Nat × Array Value × List Nat)) : ST → (Fr → Hp → Prop) → Fr → Hp → Prop
 | .done, K, F, H => K F H
 | .take ⟨d, m, g⟩ r, K, F, H => guarded F g (m.twp P W R F H fun v => dwp P W R r K (putD F d v) H) (dwp P W R r K (putD F d undef) H)
 | .alt last ⟨d, m, g⟩ r more, K, F, H => (guarded F g (m.wp P W F H fun v H' => (last = true ∨ hold R H') ∧ dwp P W R r K (putD F d v) H') (dwp P W R r K (putD F d undef) H)) ∧ dwp P W R more K F H
 | .stop, _, _, _ => True
/-- The same; what is known may grow behind a step. -/
def dwpX (P : Program) (W : World) : ST → List (Nat × Array Value × List Nat) → (Fr → Hp → Prop) → Fr → Hp → Prop
 | .done, _, K, F, H => K F H
 | .take ⟨d, m, g⟩ r, R, K, F, H => guarded F g (m.twp P W R F H fun v => dwpX P W r R K (putD F d v) H) (dwpX P W r R K (putD F d undef) H)
 | .alt last ⟨d, m, g⟩ r more, R, K, F, H => (guarded F g (m.wp P W F H fun v H' => ∃ E, (last = true ∨ hold (R ++ E) H') ∧ dwpX P W r (R ++ E) K (putD F d v) H') (dwpX P W r R K (putD F d undef) H)) ∧ dwpX P W more R K F H
 | .stop, _, _, _, _ => True
theorem hold_append : ∀ (R E : List (Nat × Array Value × List Nat)) {H : Hp}, hold (R ++ E) H → hold R H
 | [], _, _, _ => trivial
 | (k, c, fr) :: r, E, _, h => ⟨h.1, hold_append r E h.2⟩

def trI (P : Program) (N : Nat) (pure : List FuncId) (ops : Array Oper) (o : Oper) : Option MI :=
 match trOp P N pure o, o.guard with
 | some m, none => some ⟨o.dst, m, none⟩
 |some m, some (j, want) => match (ops[j]?).bind (·.dst) with
  | some s => if s < N then some ⟨o.dst, m, some (s, want)⟩ else none
  | none => none
 | none, _ => none

theorem trI_op {P : Program} {N : Nat} {pure : List FuncId} {ops : Array Oper} {o : Oper} {i : MI} (h : trI P N pure ops o = some i) : trOp P N pure o = some i.op ∧ i.dst = o.dst := by
 unfold trI at h
 split at h
 ·rename_i m hm hg; injection h with h; subst h; exact ⟨hm, rfl⟩
 ·rename_i m j want hm hg
  split at h
  ·split at h
   ·injection h with h; subst h; exact ⟨hm, rfl⟩
   ·cases h
  ·cases h
 ·cases h

theorem yielded_act {N : Nat} {ops : Array Oper} {j s : Nat} (F : Fr) (hj : (ops[j]?).bind (·.dst) = some s) (hs : s < N) (want : Bool) :
  (yielded ops (act N F).tmps j == some want) = true ↔ gt F s = .bool want := by
 unfold yielded
 rw [hj]
 simp only [Option.bind_some, act_get F hs]
 constructor
 ·intro h
  split at h
  ·rename_i b e; simp at h; subst h; injection e
  ·simp at h
 ·intro h; rw [h]; simp

theorem trI_guard {P : Program} {N : Nat} {pure : List FuncId} {ops : Array Oper} {o : Oper} {i : MI} (h : trI P N pure ops o = some i) {F : Fr} {p q : Prop} (hg : guarded F i.guard p q) :
  if Region.wanted o (yielded ops (act N F).tmps) = true then p else q := by
 unfold trI at h
 split at h
 ·rename_i m hm hgd; injection h with h; subst h
  rw [if_pos (by simp [Region.wanted, hgd])]; exact hg
 ·rename_i m j want hm hgd
  split at h
  ·rename_i s hs
   split at h
   ·rename_i hlt
    injection h with h; subst h
    simp only [guarded] at hg
    have hw : Region.wanted o (yielded ops (act N F).tmps) = (yielded ops (act N F).tmps j == some want) := by simp only [Region.wanted, hgd]
    rw [hw]
    have hy := yielded_act (N := N) F hs hlt want
    unfold onGuard at hg
    split at hg
    ·rename_i b e
     rw [e] at hy
     by_cases hb : b = want
     ·subst hb
      rw [if_pos (hy.2 rfl)]
      cases b
      ·exact hg.2 rfl
      ·exact hg.1 rfl
     ·rw [if_neg (fun x => hb (by have := hy.1 x; injection this))]
      cases b <;> cases want <;> first | exact absurd rfl hb | exact hg.2 rfl | exact hg.1 rfl
    ·rename_i e
     rw [if_neg (fun x => e want (hy.1 x))]
     exact hg
   ·cases h
  ·cases h
 ·cases h

section
variable {P : Program} {N : Nat} {W : World} {pure : List FuncId} {ops : Array Oper}

theorem sound_region {Q : Exit → Act → World → Prop} : ∀ (l : List Oper) (ml : List MI) (F : Fr) (H : Hp) (K : Fr → Hp → Prop) (w : World), l.mapM (trI P N pure ops) = some ml → Sat W H w → rwp P W ml K F H →
  (∀ F' H' w', Sat W H' w' → K F' H' → Q .normal (act N F') w') → wpList P ops Q l (act N F) w
 | [], ml, F, H, K, w, hl, hw, hr, hK => by
  simp at hl; subst hl
  exact hK F H w hw hr
 |o :: l, ml, F, H, K, w, hl, hw, hr, hK => by
  simp only [List.mapM_cons, Option.bind_eq_bind, Option.bind_eq_some_iff, Option.pure_def, Option.some.injEq] at hl
  obtain ⟨i, hi, ml', hl', rfl⟩ := hl
  obtain ⟨d, m, g⟩ := i
  have hop := trI_op hi
  simp only at hop
  have hg := trI_guard hi hr
  unfold wpList
  split
  ·rename_i hwd
   rw [if_pos hwd] at hg
   refine .inl (Oper.wp_mono (fun a w' h => ?_) (sound_op hop.1 hw hg))
   obtain ⟨v, H', rfl, hs, hk⟩ := h
   rw [← hop.2]
   exact sound_region l ml' _ H' K w' hl' hs hk hK
  ·rename_i hwd
   rw [if_neg hwd] at hg
   rw [act_put, ← hop.2]
   exact sound_region l ml' _ H K w hl' hw hg hK

theorem quiet_region : ∀ (l : List Oper) (ml : List MI) (F : Fr) (H : Hp) (K : Fr → Hp → Prop), l.mapM (trI P N pure ops) = some ml → ml.all (fun i => i.op.quiet) = true → rwp P W ml K F H →
  wpQuiet P ops (Sat W H) (fun a => ∃ F', a = act N F' ∧ K F' H) l (act N F)
 | [], ml, F, H, K, hl, hq, hr => by
  simp at hl; subst hl
  exact ⟨F, rfl, hr⟩
 |o :: l, ml, F, H, K, hl, hq, hr => by
  simp only [List.mapM_cons, Option.bind_eq_bind, Option.bind_eq_some_iff, Option.pure_def, Option.some.injEq] at hl
  obtain ⟨i, hi, ml', hl', rfl⟩ := hl
  obtain ⟨d, m, g⟩ := i
  have hop := trI_op hi
  simp only at hop
  simp only [List.all_cons, Bool.and_eq_true] at hq
  have hg := trI_guard hi hr
  unfold wpQuiet
  split
  ·rename_i hwd
   rw [if_pos hwd] at hg
   obtain ⟨v, hk, hrun⟩ := quiet_op hop.1 hq.1 hg
   refine ⟨v, fun w hw => (hrun w hw).2, ?_⟩
   rw [act_put, ← hop.2]
   exact quiet_region l ml' _ H K hl' hq.2 hk
  ·rename_i hwd
   rw [if_neg hwd] at hg
   rw [act_put, ← hop.2]
   exact quiet_region l ml' _ H K hl' hq.2 hg

/-- What waits for number i, in whichever order. -/
def waits (md : Region.Mode) (ops : Array Oper) (i : Nat) : Array Bool :=
 (List.range ops.size).foldl (fun D k => D.push (((ops[k]?).map fun o => o.after.any fun e => Region.binds md e && (e.on == i || D.getD e.on false)).getD false)) #[]
def waitsOk (md : Region.Mode) (ops : Array Oper) (i : Nat) (D : Array Bool) (listed : Array Bool) : Bool :=
 (List.range D.size).all fun k => !D.getD k false || (!listed.getD k true && ((ops[k]?).map fun o => o.after.any fun e => Region.binds md e && (e.on == i || D.getD e.on false)).getD true)
def isLast (f : Option Nat) (i : Nat) : Bool := match f with
 | some k => k == i
 | none => false
/-- Number i may be taken ahead of what writes last. -/
def ahead (md : Region.Mode) (ops : Array Oper) (f : Option Nat) (i : Nat) (listed : Array Bool) : Bool := match f with
 | none => true
 | some k => (waits md ops i).getD k false && !(waits md ops i).getD i false && waitsOk md ops i (waits md ops i) listed

def sched (P : Program) (N : Nat) (pure : List FuncId) (ops : Array Oper) (f : Option Nat) : Nat → Array Bool → Option ST
 | 0, listed => if (Region.ready .any ops listed).isEmpty then some .done else none
 |n + 1, listed =>
  let rs := Region.ready .any ops listed
  match rs.find? (fun i => Region.free .any ops listed i && ((ops[i]?).bind (trI P N pure ops)).any (fun m => m.op.still) && ahead .any ops f i listed) with
  |some i => match (ops[i]?).bind (trI P N pure ops), sched P N pure ops f n (listed.setIfInBounds i true) with
   | some m, some r => some (.take m r)
   | _, _ => none
  |none => match rs with
   | [] => some .done
   |rs => rs.foldr (fun i acc => match (ops[i]?).bind (trI P N pure ops), sched P N pure ops f n (listed.setIfInBounds i true), acc with
    | some m, some r, some more => some (.alt (isLast f i) m r more)
    | _, _, _ => none) (some .stop)
/-- The number that comes last and writes, if all still ones are ahead of it. -/
def lastOf (P : Program) (N : Nat) (pure : List FuncId) (ops : Array Oper) : Option Nat :=
 let k := ops.size - 1
 if ((ops[k]?).bind (trI P N pure ops)).any (fun m => !m.op.still) && (List.range ops.size).all (fun i => !((ops[i]?).bind (trI P N pure ops)).any (fun m => m.op.still) || (waits .any ops i).getD k false) then some k else none

/-- Whatever order is picked, and behind every step, till the last one is done, S holds. -/
def wpAnyG (P : Program) (md : Region.Mode) (ops : Array Oper) (Q : Exit → Act → World → Prop) (S : Array Bool → World → Prop) : Nat → Array Bool → Act → World → Prop
 | 0, listed, a, w => Region.ready md ops listed = [] ∧ Q .normal a w
 |n + 1, listed, a, w => (Region.ready md ops listed = [] → Q .normal a w) ∧
  ∀ i ∈ Region.ready md ops listed, wpOp P ops Q i (fun a' w' => S (listed.setIfInBounds i true) w' ∧ wpAnyG P md ops Q S n (listed.setIfInBounds i true) a' w') a w
theorem wpAny_of_G {md : Region.Mode} {Q : Exit → Act → World → Prop} {S : Array Bool → World → Prop} : ∀ (n : Nat) (listed : Array Bool) (a : Act) (w : World), wpAnyG P md ops Q S n listed a w → wpAny P md ops Q n listed a w
 | 0, _, _, _, h => h
 | n + 1, _, _, _, h => ⟨h.1, fun i hi => wpOp_mono (fun a' w' h' => wpAny_of_G n _ a' w' h'.2) (h.2 i hi)⟩

theorem wpAnyG_mono {md : Region.Mode} {Q : Exit → Act → World → Prop} {S S' : Array Bool → World → Prop} (hS : ∀ l w, S l w → S' l w) : ∀ (n : Nat) (listed : Array Bool) (a : Act) (w : World), wpAnyG P md ops Q S n listed a w → wpAnyG P md ops Q S' n listed a w
 | 0, _, _, _, h => h
 | n + 1, _, _, _, h => ⟨h.1, fun i hi => wpOp_mono (fun a' w' h' => ⟨hS _ _ h'.1, wpAnyG_mono hS n _ a' w' h'.2⟩) (h.2 i hi)⟩
theorem unlisted {listed : Array Bool} {k : Nat} (h : listed.getD k true = false) : listed.getD k false = false := by
 rcases Nat.lt_or_ge k listed.size with h' | h'
 ·simp [h'] at h ⊢; exact h
 ·simp [Array.getElem?_eq_none h'] at h

theorem g_first {md : Region.Mode} {Q : Exit → Act → World → Prop} {S0 : World → Prop} {fin : Array Bool → Prop} {D : Array Bool} {i : Nat} {oi : Oper} {v : Value} (hi : ops[i]? = some oi)
  (hsel : ∀ (j : Nat) (o : Oper) cs b, ops[j]? = some o → o.op ≠ .select cs b) (hQ : ∀ c a w, Q (.panic c) (a.put oi.dst v) w → Q (.panic c) a w)
  (hD : ∀ k ok, D.getD k false = true → ops[k]? = some ok → ∃ e ∈ ok.after, Region.binds md e = true ∧ (e.on = i ∨ D.getD e.on false = true))
  (hDi : D.getD i false = false) (hfin : ∀ listed : Array Bool, (∀ k, D.getD k false = true → listed.getD k true = false) → ¬ fin listed) :
  ∀ (n : Nat) (listed : Array Bool) (a : Act) (w : World),
   (∀ j oj, ops[j]? = some oj → j ≠ i → listed.getD j true = false → (∀ e ∈ oj.after, Region.binds md e = true → e.on ≠ i) → oi.apart ops oj = true) →
   i ∈ Region.ready md ops listed → (∀ k, D.getD k false = true → listed.getD k true = false) → YieldsIf P ops S0 oi v a → S0 w →
   wpAnyG P md ops Q (fun l w => fin l ∨ S0 w) n (listed.setIfInBounds i true) (a.put oi.dst v) w → wpAnyG P md ops Q (fun l w => fin l ∨ S0 w) (n + 1) listed a w := by
 intro n
 induction n with
 |zero =>
  intro listed a w _ hr _ hy hS h
  refine ⟨fun e => absurd (e ▸ hr) (by simp), fun j hj => ?_⟩
  rcases Decidable.em (j = i) with rfl | hne
  ·exact hy.wpOp hi hS ⟨.inr hS, h⟩
  ·exact absurd (h.1 ▸ ready_mono hj hne) (by simp)
 |succ n ih =>
  intro listed a w hfree hr hdl hy hS h
  refine ⟨fun e => absurd (e ▸ hr) (by simp), fun j hj => ?_⟩
  rcases Decidable.em (j = i) with rfl | hne
  ·exact hy.wpOp hi hS ⟨.inr hS, h⟩
  obtain ⟨hju, oj, hoj, hedges⟩ := mem_ready.1 hj
  have hiu := (mem_ready.1 hr).1
  have hon : ∀ e ∈ oj.after, Region.binds md e = true → e.on ≠ i := fun e he hb heq => by
   have h1 := hedges e he hb
   rw [heq, unlisted hiu] at h1; cases h1
  have hjD : D.getD j false = false := by
   cases hx : D.getD j false with
   | false => rfl
   |true =>
    obtain ⟨e, he, hb, h2⟩ := hD j oj hx hoj
    have h1 := hedges e he hb
    rcases h2 with h2 | h2
    ·exact absurd h2 (hon e he hb)
    ·rw [unlisted (hdl _ h2)] at h1; cases h1
  have hset : ∀ k, k ≠ j → (listed.setIfInBounds j true).getD k true = listed.getD k true := fun k hk => getD_set_ne true (Ne.symm hk)
  have hdl' : ∀ k, D.getD k false = true → (listed.setIfInBounds j true).getD k true = false := fun k hk => by
   rw [hset k (fun e => by rw [e, hjD] at hk; cases hk)]; exact hdl k hk
  have hfree' : ∀ k ok, ops[k]? = some ok → k ≠ i → (listed.setIfInBounds j true).getD k true = false → (∀ e ∈ ok.after, Region.binds md e = true → e.on ≠ i) → oi.apart ops ok = true := fun k ok hk hki hun hno => by
   refine hfree k ok hk hki ?_ hno
   rcases Decidable.em (k = j) with rfl | hkj
   ·exact hju
   ·rw [hset k hkj] at hun; exact hun
  have hstep := wpOp_putIf hoj (hfree j oj hoj hne hju hon) (fun cs b => hsel i oi cs b hi) (fun cs b => hsel j oj cs b hoj) hQ hy (h.2 j (ready_mono hj hne))
  refine wpOp_mono (fun a' w' hpost => ?_) hstep
  obtain ⟨hy', hS', h'⟩ := hpost
  have hS0 : S0 w' := by
   rcases hS' with hf | hS'
   ·refine absurd hf (hfin _ fun k hk => ?_)
    have hki : k ≠ i := fun e => by rw [e, hDi] at hk; cases hk
    have hkj : k ≠ j := fun e => by rw [e, hjD] at hk; cases hk
    rw [getD_set_ne true (Ne.symm hkj), getD_set_ne true (Ne.symm hki)]; exact hdl k hk
   ·exact hS'
  refine ⟨.inr hS0, ih (listed.setIfInBounds j true) a' w' hfree' (ready_mono hr (Ne.symm hne)) hdl' hy' hS0 ?_⟩
  rw [Array.setIfInBounds_comm _ _ hne]
  exact h'

theorem alt_each {R : List (Nat × Array Value × List Nat)} {f0 : Option Nat} {f : Nat → Option MI} {g : Nat → Option ST} {K : Fr → Hp → Prop} {F : Fr} {H : Hp} : ∀ (rs : List Nat) (t : ST),
  rs.foldr (fun i acc => match f i, g i, acc with | some m, some r, some more => some (ST.alt (isLast f0 i) m r more) | _, _, _ => none) (some .stop) = some t → dwpX P W t R K F H →
  ∀ i ∈ rs, ∃ m r, f i = some m ∧ g i = some r ∧ guarded F m.guard (m.op.wp P W F H fun v H' => ∃ E, (isLast f0 i = true ∨ hold (R ++ E) H') ∧ dwpX P W r (R ++ E) K (putD F m.dst v) H') (dwpX P W r R K (putD F m.dst undef) H)
 | [], t, h, hd, i, hi => by cases hi
 |j :: rs, t, h, hd, i, hi => by
  simp only [List.foldr_cons] at h
  split at h
  ·rename_i m r more h1 h2 h3
   injection h with h; subst h
   obtain ⟨d, mo, g'⟩ := m
   simp only [dwpX] at hd
   rcases List.mem_cons.1 hi with rfl | hi
   ·exact ⟨_, r, h1, h2, hd.1⟩
   ·exact alt_each rs more h3 hd.2 i hi
  ·cases h

theorem waits_spec {md : Region.Mode} {i : Nat} {D listed : Array Bool} (h : waitsOk md ops i D listed = true) (k : Nat) (hk : D.getD k false = true) :
  listed.getD k true = false ∧ ∀ ok, ops[k]? = some ok → ∃ e ∈ ok.after, Region.binds md e = true ∧ (e.on = i ∨ D.getD e.on false = true) := by
 have hlt : k < D.size := by
  rcases Nat.lt_or_ge k D.size with h' | h'
  ·exact h'
  ·simp [Array.getElem?_eq_none h'] at hk
 have h1 := List.all_eq_true.1 h k (List.mem_range.2 hlt)
 simp only [hk, Bool.not_true, Bool.false_or, Bool.and_eq_true, Bool.not_eq_true'] at h1
 refine ⟨h1.1, fun ok hok => ?_⟩
 have h2 := h1.2
 rw [hok] at h2
 simp only [Option.map_some, Option.getD_some] at h2
 obtain ⟨e, he, hx⟩ := Array.any_eq_true'.1 h2
 simp only [Bool.and_eq_true, Bool.or_eq_true, beq_iff_eq] at hx
 exact ⟨e, he, hx.1, hx.2⟩

def finAt (f : Option Nat) (l : Array Bool) : Prop := match f with
 | some k => l.getD k false = true
 | none => False

theorem draw_region {f : Option Nat} {Q : Exit → Act → World → Prop} (hsel : Region.noSelect ops = true) (hQ : ∀ c a a' w, Q (.panic c) a w → Q (.panic c) a' w) :
  ∀ (n : Nat) (R : List (Nat × Array Value × List Nat)) (listed : Array Bool) (sl : ST) (F : Fr) (H : Hp) (K : Fr → Hp → Prop) (w : World), sched P N pure ops f n listed = some sl → Sat W H w → (finAt f listed ∨ hold R H) →
   dwpX P W sl R K F H → (∀ F' H' w', Sat W H' w' → K F' H' → Q .normal (act N F') w') → wpAnyG P .any ops Q (fun l w => finAt f l ∨ ∃ H', hold R H' ∧ Sat W H' w) n listed (act N F) w
 | 0, R, listed, sl, F, H, K, w, hs, hw, hsub, hd, hK => by
  unfold sched at hs
  split at hs
  ·rename_i he
   injection hs with hs; subst hs
   exact ⟨by simpa using he, hK F H w hw hd⟩
  ·cases hs
 |n + 1, R, listed, sl, F, H, K, w, hs, hw, hsub, hd, hK => by
  unfold sched at hs
  simp only at hs
  split at hs
  ·rename_i i hfind
   split at hs
   ·rename_i m r hm hr
    injection hs with hs; subst hs
    obtain ⟨oi, hoi, hmi⟩ := Option.bind_eq_some_iff.1 hm
    have hp := List.find?_some hfind
    simp only [Bool.and_eq_true] at hp
    obtain ⟨⟨hp1, hp2⟩, hp3⟩ := hp
    have hmem := List.mem_of_find?_eq_some hfind
    have hstill : m.op.still = true := by
     rw [hm] at hp2
     simpa using hp2
    obtain ⟨d, mo, g⟩ := m
    have hop := trI_op hmi
    simp only at hop hstill
    simp only [dwpX] at hd
    have hg := trI_guard hmi hd
    -- what waits for i, the last one among it
    obtain ⟨D, hDi, hD, hDl, hfin⟩ : ∃ D : Array Bool, D.getD i false = false ∧ (∀ k ok, D.getD k false = true → ops[k]? = some ok → ∃ e ∈ ok.after, Region.binds .any e = true ∧ (e.on = i ∨ D.getD e.on false = true)) ∧
      (∀ k, D.getD k false = true → listed.getD k true = false) ∧ ∀ l : Array Bool, (∀ k, D.getD k false = true → l.getD k true = false) → ¬ finAt f l := by
     cases f with
     | none => exact ⟨#[], by simp, fun k ok h => by simp at h, fun k h => by simp at h, fun l _ h => h⟩
     |some k =>
      simp only [ahead, Bool.and_eq_true, Bool.not_eq_true'] at hp3
      obtain ⟨⟨h1, h2⟩, h3⟩ := hp3
      exact ⟨waits .any ops i, h2, fun j ok hj hok => (waits_spec h3 j hj).2 ok hok, fun j hj => (waits_spec h3 j hj).1, fun l hl hf => by
       have h5 := unlisted (hl k h1)
       have h6 : l.getD k false = true := hf
       rw [h5] at h6; cases h6⟩
    have hH : hold R H := hsub.resolve_left (hfin listed hDl)
    have hS0 : ∃ H', hold R H' ∧ Sat W H' w := ⟨H, hH, hw⟩
    have take : ∀ v, YieldsIf P ops (fun w => ∃ H', hold R H' ∧ Sat W H' w) oi v (act N F) → wpAnyG P .any ops Q (fun l w => finAt f l ∨ ∃ H', hold R H' ∧ Sat W H' w) n (listed.setIfInBounds i true) ((act N F).put oi.dst v) w →
      wpAnyG P .any ops Q (fun l w => finAt f l ∨ ∃ H', hold R H' ∧ Sat W H' w) (n + 1) listed (act N F) w := fun v hy h =>
     g_first hoi (Region.noSelect_spec hsel) (fun c a w h => hQ c _ _ w h) hD hDi hfin n listed (act N F) w (Region.free_spec hoi hp1) hmem hDl hy hS0 h
    by_cases hwd : Region.wanted oi (yielded ops (act N F).tmps) = true
    ·rw [if_pos hwd] at hg
     have hq : mo.quiet = true := by cases mo <;> first | rfl | exact hstill
     obtain ⟨v, hk, hall⟩ := MO.take_op hstill hg
     refine take v (.inl ⟨hwd, fun w' ⟨H', hR', hw'⟩ => by
      obtain ⟨v', e, hrun⟩ := quiet_op hop.1 hq (hall H' hR')
      subst e
      exact (hrun w' hw').1 hstill⟩) ?_
     rw [act_put, ← hop.2]
     exact draw_region hsel hQ n R _ r _ H K w hr hw (.inr hH) hk hK
    ·rw [if_neg hwd] at hg
     refine take undef (.inr ⟨by simpa using hwd, rfl⟩) ?_
     rw [act_put, ← hop.2]
     exact draw_region hsel hQ n R _ r _ H K w hr hw (.inr hH) hg hK
   ·cases hs
  ·split at hs
   ·rename_i hnil
    injection hs with hs; subst hs
    refine ⟨fun _ => hK F H w hw hd, fun i hi => ?_⟩
    rw [hnil] at hi; cases hi
   ·rename_i hne
    refine ⟨fun e => absurd e hne, fun j hj => ?_⟩
    obtain ⟨m, r, hm, hr, hg⟩ := alt_each _ _ hs hd j hj
    obtain ⟨oi, hoi, hmi⟩ := Option.bind_eq_some_iff.1 hm
    have hop := trI_op hmi
    have hg := trI_guard hmi hg
    have hlast : isLast f j = true → finAt f (listed.setIfInBounds j true) := fun hl => by
     cases f with
     | none => cases hl
     |some k =>
      have e : k = j := by simpa [isLast] using hl
      subst e
      have hju := (mem_ready.1 hj).1
      have hlt : k < listed.size := by
       rcases Nat.lt_or_ge k listed.size with h' | h'
       ·exact h'
       ·simp [Array.getElem?_eq_none h'] at hju
      show (listed.setIfInBounds k true).getD k false = true
      simp [hlt]
    have hkeep : finAt f listed → finAt f (listed.setIfInBounds j true) := fun hl => by
     cases f with
     | none => exact hl
     | some k => exact getD_set_true hl
    unfold wpOp
    simp only [hoi]
    split
    ·rename_i hwd
     rw [if_pos hwd] at hg
     refine .inl (Oper.wp_mono (fun a w' h => ?_) (sound_op hop.1 hw hg))
     obtain ⟨v, H', rfl, hs', E, hsub', hk⟩ := h
     have hz : finAt f (listed.setIfInBounds j true) ∨ hold (R ++ E) H' := hsub'.imp hlast id
     refine ⟨hz.imp id fun hR => ⟨H', hold_append R E hR, hs'⟩, ?_⟩
     rw [← hop.2]
     exact wpAnyG_mono (fun l w h => h.imp id fun ⟨H2, h1, h2⟩ => ⟨H2, hold_append R E h1, h2⟩) n _ _ _ (draw_region hsel hQ n (R ++ E) _ r _ H' K w' hr hs' hz hk hK)
    ·rename_i hwd
     rw [if_neg hwd] at hg
     have hz : finAt f (listed.setIfInBounds j true) ∨ hold R H := hsub.imp hkeep id
     refine ⟨hz.imp id fun hR => ⟨H, hR, hw⟩, ?_⟩
     rw [act_put, ← hop.2]
     exact draw_region hsel hQ n R _ r _ H K w hr hw hz hg hK
end

inductive MC where
 | skip
 | ret
 | exit (id : Nat)
 | reg (l : List MI)
 | draw (l : ST)
 | seq (a b : MC)
 | cond (c : Operand) (a b : MC)
 | block (id : Nat) (a : MC)
 | loop (a : MC)
 | no

def trC (P : Program) (N : Nat) (pure : List FuncId) : Code → Option MC
 | .skip => some .skip
 | .ret => some .ret
 | .exit id => some (.exit id)
 | .region _ ops false => match ops.toList.mapM (trI P N pure ops) with
  | some l => some (.reg l)
  | none => some .no
 | .region _ ops true => match ops.toList.mapM (trI P N pure ops) with
  |some l =>
   if l.all (fun i => i.op.quiet) && Region.lexB .any ops then some (.reg l)
   else if Region.noSelect ops then match sched P N pure ops (lastOf P N pure ops) ops.size (Array.replicate ops.size false) with
    | some sl => some (.draw sl)
    | none => some .no
   else some .no
  | none => some .no
 | .seq a b => match trC P N pure a, trC P N pure b with
  | some x, some y => some (.seq x y)
  | _, _ => none
 | .cond c a b => match opOk N c, trC P N pure a, trC P N pure b with
  | true, some x, some y => some (.cond c x y)
  | _, _, _ => none
 | .block id a => match trC P N pure a with
  | some x => some (.block id x)
  | none => none
 | .loop a => match trC P N pure a with
  | some x => some (.loop x)
  | none => none
 | _ => some .no

def thn (next : Fr → Hp → Prop) (Q : Exit → Fr → Hp → Prop) : Exit → Fr → Hp → Prop
 | .normal, F, H => next F H
 | e, F, H => Q e F H
def blk (id : Nat) (Q : Exit → Fr → Hp → Prop) : Exit → Fr → Hp → Prop
 | .exit j, F, H => if j = id then Q .normal F H else Q (.exit j) F H
 | e, F, H => Q e F H

def mwp (P : Program) (W : World) : MC → (Exit → Fr → Hp → Prop) → Fr → Hp → Prop
 | .skip, Q, F, H => Q .normal F H
 | .ret, Q, F, H => Q .ret F H
 | .exit id, Q, F, H => Q (.exit id) F H
 | .reg l, Q, F, H => rwp P W l (Q .normal) F H
 | .draw l, Q, F, H => ∃ R, hold R H ∧ dwpX P W l R (Q .normal) F H
 | .seq a b, Q, F, H => mwp P W a (thn (mwp P W b Q) Q) F H
 | .cond c a b, Q, F, H => onBool (ev F c) fun t => both t (mwp P W a Q F H) (mwp P W b Q F H)
 | .block id a, Q, F, H => mwp P W a (blk id Q) F H
 | .loop a, Q, F, H => ∃ (I : Fr → Hp → Prop) (μ : Fr → Hp → Nat), I F H ∧ ∀ F' H', I F' H' → mwp P W a (thn (fun F2 H2 => I F2 H2 ∧ μ F2 H2 < μ F' H') Q) F' H'
 | .no, _, _, _ => False

/-- A post over frames and heaps, as one over the model's states. -/
def lift (N : Nat) (W : World) (Q : Exit → Fr → Hp → Prop) : Exit → Act → World → Prop
 | .panic _, _, _ => False
 | .outgrown, _, _ => False
 | e, a, w => ∃ F H, a = act N F ∧ Sat W H w ∧ Q e F H

section
variable {P : Program} {N : Nat} {W : World} {pure : List FuncId}

theorem lift_thn {next : Fr → Hp → Prop} {Q : Exit → Fr → Hp → Prop} {K : Act → World → Prop} (hK : ∀ F H w, Sat W H w → next F H → K (act N F) w) (e : Exit) (a : Act) (w : World) (h : lift N W (thn next Q) e a w) : Exit.then K (lift N W Q) e a w := by
 cases e with
 | normal => obtain ⟨F, H, rfl, hs, hn⟩ := h; exact hK F H w hs hn
 | exit id => exact h
 | goto l => exact h
 | ret => exact h
 | panic c => exact h
 | outgrown => exact h
theorem lift_blk {id : Nat} {Q : Exit → Fr → Hp → Prop} (e : Exit) (a : Act) (w : World) (h : lift N W (blk id Q) e a w) : Exit.inBlock id (lift N W Q) e a w := by
 cases e with
 | normal => exact h
 |exit j =>
  obtain ⟨F, H, rfl, hs, hn⟩ := h
  simp only [blk] at hn
  simp only [Exit.inBlock]
  split
  ·rename_i e; rw [if_pos e] at hn; exact ⟨F, H, rfl, hs, hn⟩
  ·rename_i e; rw [if_neg e] at hn; exact ⟨F, H, rfl, hs, hn⟩
 | goto l => exact h
 | ret => exact h
 | panic c => exact h
 | outgrown => exact h

theorem loop_rule {a : Code} {Q : Exit → Fr → Hp → Prop} (x : MC) (I : Fr → Hp → Prop) (μ : Fr → Hp → Nat)
  (hround : ∀ F H w, Sat W H w → I F H → a.wp P (lift N W (thn (fun F2 H2 => I F2 H2 ∧ μ F2 H2 < μ F H) Q)) (act N F) w) (F : Fr) (H : Hp) (w : World) (hw : Sat W H w) (h0 : I F H) :
  (Code.loop a).wp P (lift N W Q) (act N F) w := by
 intro b k cs
 have key : ∀ n F H w, μ F H = n → Sat W H w → I F H →
   ∃ e a' w', lift N W Q e a' w' ∧ Arrives P (lone (b.at (act N F) (.code a :: .inLoop a :: k)) cs w) b k cs e a' w' := by
  intro n
  induction n using Nat.strongRecOn with
  | _ n ih =>
   intro F H w hn hw hI
   obtain ⟨e, a₁, w₁, hq, harr⟩ := hround F H w hw hI b (.inLoop a :: k) cs
   cases e with
   |normal =>
    obtain ⟨F2, H2, rfl, hs, hI2, hlt⟩ := hq
    obtain ⟨e₂, a₂, w₂, hq₂, harr₂⟩ := ih (μ F2 H2) (hn ▸ hlt) F2 H2 w₁ rfl hs hI2
    exact ⟨e₂, a₂, w₂, hq₂, .of_steps (Steps.trans harr (.one step_inLoop)) harr₂⟩
   | exit id => exact ⟨.exit id, a₁, w₁, hq, .pass (x := .inLoop a) rfl (fun _ _ => .inl (by simp)) harr⟩
   | goto l => exact ⟨.goto l, a₁, w₁, hq, .pass (x := .inLoop a) rfl (fun _ _ => .inl (by simp)) harr⟩
   | ret => exact ⟨.ret, a₁, w₁, hq, .pass (x := .inLoop a) rfl (fun _ _ => .inl (by simp)) harr⟩
   | panic c => exact ⟨.panic c, a₁, w₁, hq, .pass (x := .inLoop a) rfl (fun _ _ => .inl (by simp)) harr⟩
   | outgrown => exact ⟨.outgrown, a₁, w₁, hq, .pass (x := .inLoop a) rfl (fun _ _ => .inl (by simp)) harr⟩
 obtain ⟨e, a', w', hq, harr⟩ := key _ F H w rfl hw h0
 exact ⟨e, a', w', hq, .of_steps (.one step_loop) harr⟩

theorem sound_code (hm : P.follows .mixedOrders = true) : ∀ (c : Code) (m : MC) (Q : Exit → Fr → Hp → Prop) (F : Fr) (H : Hp) (w : World), trC P N pure c = some m → Sat W H w → mwp P W m Q F H →
  c.wp P (lift N W Q) (act N F) w
 | .skip, m, Q, F, H, w, ht, hw, h => by
  simp only [trC, Option.some.injEq] at ht; subst ht
  exact wp_skip ⟨F, H, rfl, hw, h⟩
 | .ret, m, Q, F, H, w, ht, hw, h => by
  simp only [trC, Option.some.injEq] at ht; subst ht
  exact wp_ret ⟨F, H, rfl, hw, h⟩
 | .exit id, m, Q, F, H, w, ht, hw, h => by
  simp only [trC, Option.some.injEq] at ht; subst ht
  exact wp_exit ⟨F, H, rfl, hw, h⟩
 | .region id ops false, m, Q, F, H, w, ht, hw, h => by
  simp only [trC] at ht
  split at ht
  ·rename_i l hl
   injection ht with ht; subst ht
   exact wp_region_list (sound_region ops.toList l F H _ w hl hw h fun F' H' w' hs hk => ⟨F', H', rfl, hs, hk⟩)
  ·injection ht with ht; subst ht; exact False.elim h
 | .region id ops true, m, Q, F, H, w, ht, hw, h => by
  simp only [trC] at ht
  split at ht
  ·rename_i l hl
   split at ht
   ·rename_i hq
    injection ht with ht; subst ht
    simp only [Bool.and_eq_true] at hq
    have hr := quiet_region (ops := ops) ops.toList l F H (Q .normal) hl hq.1 h
    refine wp_region_quiet (C := Sat W H) hm hq.2 (hw.drew _) ?_
    have mono : ∀ (l' : List Oper) (a : Act) (K K' : Act → Prop), (∀ a, K a → K' a) → wpQuiet P ops (Sat W H) K l' a → wpQuiet P ops (Sat W H) K' l' a := by
     intro l'
     induction l' with
     | nil => intro a K K' hk h'; exact hk _ h'
     |cons o r ih =>
      intro a K K' hk h'
      unfold wpQuiet at h' ⊢
      split
      ·rename_i hwd
       rw [if_pos hwd] at h'
       exact Oper.quiet_mono (fun a h2 => ih a K K' hk h2) h'
      ·rename_i hwd
       rw [if_neg hwd] at h'
       exact ih _ K K' hk h'
    refine mono ops.toList _ _ _ (fun a' h' => ?_) hr
    obtain ⟨F', rfl, hk⟩ := h'
    exact fun w' hs => ⟨F', H, rfl, hs, hk⟩
   ·split at ht
    ·rename_i hsel
     split at ht
     ·rename_i sl hsl
      injection ht with ht; subst ht
      obtain ⟨Hs, hsub, hd⟩ := h
      exact wp_region_any hm (wpAny_of_G _ _ _ _ (draw_region hsel (fun c a a' w h => h) _ _ _ sl F H (Q .normal) _ hsl (hw.drew _) (.inr hsub) hd fun F' H' w' hs hk => ⟨F', H', rfl, hs, hk⟩))
     ·injection ht with ht; subst ht; exact False.elim h
    ·injection ht with ht; subst ht; exact False.elim h
  ·injection ht with ht; subst ht; exact False.elim h
 | .seq a b, m, Q, F, H, w, ht, hw, h => by
  simp only [trC] at ht
  split at ht
  ·rename_i x y hx hy
   injection ht with ht; subst ht
   exact wp_seq (Code.wp_mono (lift_thn fun F' H' w' hs hn => sound_code hm b y Q F' H' w' hy hs hn) (sound_code hm a x _ F H w hx hw h))
  ·cases ht
 | .cond c a b, m, Q, F, H, w, ht, hw, h => by
  simp only [trC] at ht
  split at ht
  ·rename_i x y hc hx hy
   injection ht with ht; subst ht
   obtain ⟨t, hv, hb⟩ := onBool_elim h
   refine wp_cond_split (t := t) (by rw [act_eval F hc]; exact hv) (fun e => ?_) (fun e => ?_)
   ·exact sound_code hm a x Q F H w hx hw (hb.1 e)
   ·exact sound_code hm b y Q F H w hy hw (hb.2 e)
  ·cases ht
 | .block id a, m, Q, F, H, w, ht, hw, h => by
  simp only [trC] at ht
  split at ht
  ·rename_i x hx
   injection ht with ht; subst ht
   exact wp_block (Code.wp_mono lift_blk (sound_code hm a x _ F H w hx hw h))
  ·cases ht
 | .loop a, m, Q, F, H, w, ht, hw, h => by
  simp only [trC] at ht
  split at ht
  ·rename_i x hx
   injection ht with ht; subst ht
   obtain ⟨I, μ, h0, hround⟩ := h
   have hI : ∃ F' H', act N F = act N F' ∧ Sat W H' w ∧ I F' H' := ⟨F, H, rfl, hw, h0⟩
   -- a loop whose measure is read off the frame and the heap: by strong induction on the measure
   exact loop_rule x I μ (fun F' H' w' hs hi => sound_code hm a x _ F' H' w' hx hs (hround F' H' hi)) F H w hw h0
  ·cases ht
 | .rangeFunc .., m, Q, F, H, w, ht, hw, h => by
  simp only [trC, Option.some.injEq] at ht; subst ht; exact False.elim h
 | .scope _, m, Q, F, H, w, ht, hw, h => by
  simp only [trC, Option.some.injEq] at ht; subst ht; exact False.elim h
 | .label _, m, Q, F, H, w, ht, hw, h => by
  simp only [trC, Option.some.injEq] at ht; subst ht; exact False.elim h
 | .goto _, m, Q, F, H, w, ht, hw, h => by
  simp only [trC, Option.some.injEq] at ht; subst ht; exact False.elim h
 | .refuse _, m, Q, F, H, w, ht, hw, h => by
  simp only [trC, Option.some.injEq] at ht; subst ht; exact False.elim h

/-! ### Functions -/
inductive RV where
 | t (n : Nat)
 | c1 (a : Nat)
 | cn (a n : Nat)

def trR (P : Program) (N : Nat) : ResultVar → Option RV
 | .tmp t => if t < N then some (.t t) else none
 | .cell a T => if a < N then match aggB P T, sizeB P T with
  | some true, some n => some (.cn a n)
  | some false, _ => some (.c1 a)
  | _, _ => none
  else none

def rvs : List RV → Fr → Hp → (List Value → Prop) → Prop
 | [], _, _, K => K []
 | .t n :: r, F, H, K => rvs r F H fun vs => K (gt F n :: vs)
 | .c1 a :: r, F, H, K => onPtr (gt F a) fun b o => onSome (rd H b o) fun v => rvs r F H fun vs => K (v :: vs)
 | .cn a n :: r, F, H, K => onPtr (gt F a) fun b o => onSome (rdn H b o n) fun v => rvs r F H fun vs => K (.agg v :: vs)

def tupled : List Value → Value
 | [v] => v
 | vs => .tuple vs.toArray

/-- The post of a function's body. -/
def fpost (rs : List RV) (K : Value → Hp → Prop) : Exit → Fr → Hp → Prop
 | .normal, F, H => rvs rs F H fun vs => K (tupled vs) H
 | .ret, F, H => rvs rs F H fun vs => K (tupled vs) H
 | _, _, _ => False

structure MF where
 N : Nat
 rs : List RV
 code : MC

def trF (P : Program) (pure : List FuncId) (fn : Func) : Option MF :=
 match fn.body, fn.results.toList.mapM (trR P fn.ntmps) with
 |some c, some rs => match trC P fn.ntmps pure c with
  | some m => some ⟨fn.ntmps, rs, m⟩
  | none => none
 | _, _ => none

def initF : Nat → List Value → Fr
 | _, [] => []
 | n, v :: r => (n, v) :: initF (n + 1) r

theorem gt_initF : ∀ (l : List Value) (n i : Nat), gt (initF n l) i = if n ≤ i ∧ i < n + l.length then l.getD (i - n) undef else undef
 | [], n, i => by simp [initF, gt]
 |v :: r, n, i => by
  simp only [initF, gt, gt_initF r (n + 1) i, List.length_cons]
  by_cases h : n = i
  ·subst h; simp
  ·rw [if_neg h]
   by_cases h2 : n + 1 ≤ i ∧ i < n + 1 + r.length
   ·rw [if_pos h2, if_pos (by omega)]
    obtain ⟨k, hk⟩ : ∃ k, i - n = k + 1 := ⟨i - n - 1, by omega⟩
    have : i - (n + 1) = k := by omega
    rw [this, hk]; simp
   ·rw [if_neg h2, if_neg (by omega)]

theorem act_init (N : Nat) (args : Array Value) (h : args.size ≤ N) : ({ tmps := args ++ Array.replicate (N - args.size) undef, defers := [] } : Act) = act N (initF 0 args.toList) := by
 unfold act
 simp only [Act.mk.injEq, and_true]
 apply Array.ext
 ·simp; omega
 ·intro i h1 h2
  have hi : i < N := by simpa using h2
  rw [Array.getElem_ofFn, gt_initF]
  simp only [Nat.zero_le, true_and, Array.length_toList, Nat.zero_add, Nat.sub_zero]
  by_cases hs : i < args.size
  ·rw [if_pos hs, Array.getElem_append_left hs]; simp [hs]
  ·rw [if_neg hs, Array.getElem_append_right (by omega)]; simp

theorem run_asAddr {P : Program} (a : Addr) (w : World) : (asAddr (.pointer (some a))).run P w = .ok a w := rfl

theorem run_rvs {P : Program} {N : Nat} {W : World} {w : World} {F : Fr} {H : Hp} (hw : Sat W H w) : ∀ (l : List ResultVar) (rs : List RV) (K : List Value → Prop), l.mapM (trR P N) = some rs → rvs rs F H K →
  ∃ vs, (l.mapM (m := Sem) fun | .tmp t => Pure.pure ((act N F).tmps.getD t undef) | .cell a t => do loadVar t (← asAddr ((act N F).tmps.getD a undef))).run P w = .ok vs w ∧ K vs
 | [], rs, K, h, hk => by
  simp at h; subst h
  exact ⟨[], by simp, hk⟩
 |x :: l, rs, K, h, hk => by
  simp only [List.mapM_cons, Option.bind_eq_bind, Option.bind_eq_some_iff, Option.pure_def, Option.some.injEq] at h
  obtain ⟨rv, hrv, rs', hrs, rfl⟩ := h
  cases x with
  |tmp t =>
   simp only [trR] at hrv
   split at hrv
   ·rename_i hlt
    injection hrv with hrv; subst hrv
    obtain ⟨vs, hr, hK⟩ := run_rvs hw l rs' _ hrs hk
    refine ⟨gt F t :: vs, ?_, hK⟩
    have hg : (act N F).tmps.getD t undef = gt F t := by simp [act, hlt]
    simp only [List.mapM_cons, Sem.run_bind, Sem.run_pure, Result.andThen_ok, hr, hg]
   ·cases hrv
  |cell a T =>
   simp only [trR] at hrv
   split at hrv
   ·rename_i hlt
    have hg : (act N F).tmps.getD a undef = gt F a := by simp [act, hlt]
    split at hrv
    ·rename_i n ha hn
     injection hrv with hrv; subst hrv
     obtain ⟨b, o, hp, hk⟩ := onPtr_elim hk
     obtain ⟨cs, hc, hk⟩ := onSome_elim hk
     obtain ⟨vs, hr, hK⟩ := run_rvs hw l rs' _ hrs hk
     refine ⟨.agg cs :: vs, ?_, hK⟩
     have hld := run_loadn (P := P) hw ha hn hc
     simp only [Instr.loadAt, Instr.sureAddr] at hld
     simp only [Sem.run_bind, Sem.run_pure, Result.andThen_ok] at hld
     simp only [List.mapM_cons, Sem.run_bind, hg, hp, run_asAddr, Sem.run_pure, Result.andThen_ok, hld, hr]
    ·rename_i ha
     injection hrv with hrv; subst hrv
     obtain ⟨b, o, hp, hk⟩ := onPtr_elim hk
     obtain ⟨cs, hc, hk⟩ := onSome_elim hk
     obtain ⟨vs, hr, hK⟩ := run_rvs hw l rs' _ hrs hk
     refine ⟨cs :: vs, ?_, hK⟩
     have hld := run_load1 (P := P) hw ha hc
     simp only [Instr.loadAt, Instr.sureAddr] at hld
     simp only [Sem.run_bind, Sem.run_pure, Result.andThen_ok] at hld
     simp only [List.mapM_cons, Sem.run_bind, hg, hp, run_asAddr, Sem.run_pure, Result.andThen_ok, hld, hr]
    ·cases hrv
   ·cases hrv

theorem CallP.of {P : Program} {f : FuncId} {fn : Func} {N0 : Nat} {rs0 : List RV} {c0 : MC} {W : World} {args : Array Value} {H : Hp} {K : Value → Hp → Prop} (hm : P.follows .mixedOrders = true) (hf : P.funcs[f]? = some fn)
  (ht : trF P pure fn = some ⟨N0, rs0, c0⟩) (hn : args.size ≤ N0) (h : ∀ W : World, (∀ b o, H b = some o → b < W.heap.size) → mwp P W c0 (fpost rs0 K) (initF 0 args.toList) H) : CallP P W f args H K := by
 intro w hw
 unfold trF at ht
 split at ht
 ·rename_i c rs hb hrs
  split at ht
  ·rename_i mc hmc
   injection ht with ht; injection ht with t1 t2 t3; subst t1 t2 t3
   have hw' : Sat w H w := ⟨rfl, rfl, rfl, Nat.le_refl _, hw.has⟩
   refine calls_of_wp hf hb ?_
   rw [act_init fn.ntmps args hn]
   refine Code.wp_mono (fun e a w' hq => ?_) (sound_code (N := fn.ntmps) hm c mc _ _ H w hmc hw' (h w fun b o hb => hw.lt hb))
   have fin : ∀ {F : Fr} {H' : Hp}, a = act fn.ntmps F → Sat w H' w' → rvs rs F H' (fun vs => K (tupled vs) H') → a.defers = [] ∧ ∃ v, (results fn a.tmps).run P w' = .ok v w' ∧ ∃ v' H', Ending.returned v = .returned v' ∧ Sat W H' w' ∧ K v' H' := by
    intro F H' ha hs hr
    subst ha
    obtain ⟨vs, hrun, hK⟩ := run_rvs hs _ rs _ hrs hr
    refine ⟨rfl, tupled vs, ?_, tupled vs, H', rfl, ⟨hs.os.trans hw.os, hs.tape.trans hw.tape, hs.output.trans hw.output, Nat.le_trans hw.size hs.size, hs.has⟩, hK⟩
    unfold results
    rw [Array.mapM_eq_mapM_toList]
    simp only [Sem.run_bind, Sem.run_map]
    refine (congrArg (fun r => Result.andThen (Result.andThen r fun a w' => Result.ok (List.toArray a) w') _) hrun).trans ?_
    simp only [Result.andThen_ok, Sem.run_pure]
    congr 1
    cases vs with
    | nil => rfl
    | cons v r => cases r <;> simp [tupled]
   cases e with
   | normal => obtain ⟨F, H', ha, hs, hr⟩ := hq; exact fin ha hs hr
   | ret => obtain ⟨F, H', ha, hs, hr⟩ := hq; exact fin ha hs hr
   | exit id => obtain ⟨F, H', ha, hs, hr⟩ := hq; exact hr.elim
   | goto l => obtain ⟨F, H', ha, hs, hr⟩ := hq; exact hr.elim
   | panic c => exact hq.elim
   | outgrown => exact hq.elim
  ·cases ht
 ·cases ht
end


/-! ### The laws by which the small machine is run (for simp, from the head on) -/
section
variable (P : Program) (W : World) (F : Fr) (H : Hp) (K : Value → Hp → Prop) (L : Fr → Hp → Prop) (Q : Exit → Fr → Hp → Prop)
theorem e_skip : mwp P W .skip Q F H = Q .normal F H := _root_.id rfl
theorem e_ret : mwp P W .ret Q F H = Q .ret F H := _root_.id rfl
theorem e_exit (id : Nat) : mwp P W (.exit id) Q F H = Q (.exit id) F H := _root_.id rfl
theorem e_reg (l : List MI) : mwp P W (.reg l) Q F H = rwp P W l (Q .normal) F H := _root_.id rfl
theorem e_seq (a b : MC) : mwp P W (.seq a b) Q F H = mwp P W a (thn (mwp P W b Q) Q) F H := _root_.id rfl
theorem e_cond (c : Operand) (a b : MC) : mwp P W (.cond c a b) Q F H = onBool (ev F c) fun t => both t (mwp P W a Q F H) (mwp P W b Q F H) := _root_.id rfl
theorem e_block (id : Nat) (a : MC) : mwp P W (.block id a) Q F H = mwp P W a (blk id Q) F H := _root_.id rfl
theorem e_thn (n : Fr → Hp → Prop) : thn n Q .normal F H = n F H := _root_.id rfl
theorem e_thn1 (n : Fr → Hp → Prop) : thn n Q .normal = n := _root_.id rfl
theorem e_thn_ret (n : Fr → Hp → Prop) : thn n Q .ret F H = Q .ret F H := _root_.id rfl
theorem e_thn_ret1 (n : Fr → Hp → Prop) : thn n Q .ret = Q .ret := _root_.id rfl
theorem e_thn_exit (n : Fr → Hp → Prop) (i : Nat) : thn n Q (.exit i) F H = Q (.exit i) F H := _root_.id rfl
theorem e_blk (i : Nat) : blk i Q .normal F H = Q .normal F H := _root_.id rfl
theorem e_blk1 (i : Nat) : blk i Q .normal = Q .normal := _root_.id rfl
theorem e_blk_ret (i : Nat) : blk i Q .ret F H = Q .ret F H := _root_.id rfl
theorem e_blk_exit (i : Nat) : blk i Q (.exit i) F H = Q .normal F H := if_pos rfl
theorem e_blk_exit' {i j : Nat} (h : (j == i) = false) : blk i Q (.exit j) F H = Q (.exit j) F H := if_neg (by simpa using h)
theorem e_fret (rs : List RV) : fpost rs K .ret F H = rvs rs F H fun vs => K (tupled vs) H := _root_.id rfl
theorem e_fnorm (rs : List RV) : fpost rs K .normal F H = rvs rs F H fun vs => K (tupled vs) H := _root_.id rfl
theorem e_rv0 (k : List Value → Prop) : rvs [] F H k = k [] := _root_.id rfl
theorem e_rvt (n : Nat) (r : List RV) (k : List Value → Prop) : rvs (.t n :: r) F H k = onV (gt F n) fun v => rvs r F H fun vs => k (v :: vs) := _root_.id rfl
theorem e_rv1 (a : Nat) (r : List RV) (k : List Value → Prop) : rvs (.c1 a :: r) F H k = onPtr (gt F a) fun b o => onSome (rd H b o) fun v => rvs r F H fun vs => k (v :: vs) := _root_.id rfl
theorem e_rvn (a n : Nat) (r : List RV) (k : List Value → Prop) : rvs (.cn a n :: r) F H k = onPtr (gt F a) fun b o => onSome (rdn H b o n) fun v => rvs r F H fun vs => k (.agg v :: vs) := _root_.id rfl
theorem e_tup0 : tupled [] = .tuple #[] := _root_.id rfl
theorem e_tup1 (v : Value) : tupled [v] = v := _root_.id rfl
theorem e_tup2 (u v : Value) (r : List Value) : tupled (u :: v :: r) = .tuple (u :: v :: r).toArray := _root_.id rfl
theorem e_nil : rwp P W [] L F H = L F H := _root_.id rfl
theorem e_cons (d : Option Nat) (m : MO) (r : List MI) : rwp P W (⟨d, m, none⟩ :: r) L F H = m.wp P W F H (fun v H' => rwp P W r L (putD F d v) H') := _root_.id rfl
theorem e_consg (d : Option Nat) (m : MO) (s : Nat) (w : Bool) (r : List MI) : rwp P W (⟨d, m, some (s, w)⟩ :: r) L F H = onGuard (gt F s) w (m.wp P W F H (fun v H' => rwp P W r L (putD F d v) H')) (rwp P W r L (putD F d undef) H) := _root_.id rfl
section
variable {R : List (Nat × Array Value × List Nat)} {kk : Value → Prop}
theorem e_ddone : dwp P W R .done L F H = L F H := _root_.id rfl
theorem e_dstop : dwp P W R .stop L F H = True := _root_.id rfl
theorem e_dtake (d : Option Nat) (m : MO) (r : ST) : dwp P W R (.take ⟨d, m, none⟩ r) L F H = m.twp P W R F H (fun v => dwp P W R r L (putD F d v) H) := _root_.id rfl
theorem e_dtakeg (d : Option Nat) (m : MO) (s : Nat) (w : Bool) (r : ST) : dwp P W R (.take ⟨d, m, some (s, w)⟩ r) L F H = onGuard (gt F s) w (m.twp P W R F H (fun v => dwp P W R r L (putD F d v) H)) (dwp P W R r L (putD F d undef) H) := _root_.id rfl
theorem e_dlast (d : Option Nat) (m : MO) (r : ST) : dwp P W R (.alt false ⟨d, m, none⟩ r .stop) L F H = m.wp P W F H (fun v H' => hold R H' ∧ dwp P W R r L (putD F d v) H') := by simp only [dwp, guarded, true_or, true_and, and_true, Bool.false_eq_true, false_or]
theorem e_dfin (d : Option Nat) (m : MO) (r : ST) : dwp P W R (.alt true ⟨d, m, none⟩ r .stop) L F H = m.wp P W F H (fun v H' => dwp P W R r L (putD F d v) H') := by simp only [dwp, guarded, true_or, true_and, and_true, Bool.false_eq_true, false_or]
theorem e_dlastg (d : Option Nat) (m : MO) (s : Nat) (w : Bool) (r : ST) : dwp P W R (.alt false ⟨d, m, some (s, w)⟩ r .stop) L F H = onGuard (gt F s) w (m.wp P W F H (fun v H' => hold R H' ∧ dwp P W R r L (putD F d v) H')) (dwp P W R r L (putD F d undef) H) := by
 have e : (fun v H' => (false = true ∨ hold R H') ∧ dwp P W R r L (putD F d v) H') = fun v H' => hold R H' ∧ dwp P W R r L (putD F d v) H' := by funext v H'; simp
 show (onGuard (gt F s) w (m.wp P W F H (fun v H' => (false = true ∨ hold R H') ∧ dwp P W R r L (putD F d v) H')) (dwp P W R r L (putD F d undef) H) ∧ True) = _
 rw [e, and_true]
theorem e_dfing (d : Option Nat) (m : MO) (s : Nat) (w : Bool) (r : ST) : dwp P W R (.alt true ⟨d, m, some (s, w)⟩ r .stop) L F H = onGuard (gt F s) w (m.wp P W F H (fun v H' => dwp P W R r L (putD F d v) H')) (dwp P W R r L (putD F d undef) H) := by
 have e : (fun v H' => (true = true ∨ hold R H') ∧ dwp P W R r L (putD F d v) H') = fun v H' => dwp P W R r L (putD F d v) H' := by funext v H'; simp
 show (onGuard (gt F s) w (m.wp P W F H (fun v H' => (true = true ∨ hold R H') ∧ dwp P W R r L (putD F d v) H')) (dwp P W R r L (putD F d undef) H) ∧ True) = _
 rw [e, and_true]
theorem e_dalt (last : Bool) (d : Option Nat) (m : MO) (r x n y : ST) (l : Bool) (i : MI) (h : x = .alt l i n y) : dwp P W R (.alt last ⟨d, m, none⟩ r x) L F H = (m.wp P W F H (fun v H' => (last = true ∨ hold R H') ∧ dwp P W R r L (putD F d v) H') ∧ dwp P W R x L F H) := _root_.id rfl
theorem t_ld1 (x : Operand) : MO.twp P W R F H kk (.ld1 x) = onPtr (ev F x) fun b o => onSome (rd H b o) fun v => kp R b o v ∧ kk v := _root_.id rfl
theorem t_ldn (n : Nat) (x : Operand) : MO.twp P W R F H kk (.ldn n x) = onPtr (ev F x) fun b o => onSome (rdn H b o n) fun v => kpn R b o n v ∧ kk (.agg v) := _root_.id rfl
theorem t_aeq (neg : Bool) (l : List (Nat × Bool)) (x y : Operand) : MO.twp P W R F H kk (.aeq neg l x y) = MO.wp P W F H (fun v _ => kk v) (.aeq neg l x y) := _root_.id rfl
theorem t_mv (x : Operand) : MO.twp P W R F H kk (.mv x) = MO.wp P W F H (fun v _ => kk v) (.mv x) := _root_.id rfl
theorem t_pick (c a b : Operand) : MO.twp P W R F H kk (.pick c a b) = MO.wp P W F H (fun v _ => kk v) (.pick c a b) := _root_.id rfl
theorem t_fad (off : Nat) (x : Operand) : MO.twp P W R F H kk (.fad off x) = MO.wp P W F H (fun v _ => kk v) (.fad off x) := _root_.id rfl
theorem t_fld1 (off : Nat) (x : Operand) : MO.twp P W R F H kk (.fld1 off x) = MO.wp P W F H (fun v _ => kk v) (.fld1 off x) := _root_.id rfl
theorem t_fldn (off n : Nat) (x : Operand) : MO.twp P W R F H kk (.fldn off n x) = MO.wp P W F H (fun v _ => kk v) (.fldn off n x) := _root_.id rfl
theorem t_ar (op : BinOp) (x y : Operand) : MO.twp P W R F H kk (.ar op x y) = MO.wp P W F H (fun v _ => kk v) (.ar op x y) := _root_.id rfl
theorem t_dv (op : BinOp) (x y : Operand) : MO.twp P W R F H kk (.dv op x y) = MO.wp P W F H (fun v _ => kk v) (.dv op x y) := _root_.id rfl
theorem t_cmp (op : BinOp) (x y : Operand) : MO.twp P W R F H kk (.cmp op x y) = MO.wp P W F H (fun v _ => kk v) (.cmp op x y) := _root_.id rfl
theorem t_bt (op : BinOp) (x y : Operand) : MO.twp P W R F H kk (.bt op x y) = MO.wp P W F H (fun v _ => kk v) (.bt op x y) := _root_.id rfl
theorem t_sh (op : BinOp) (x y : Operand) : MO.twp P W R F H kk (.sh op x y) = MO.wp P W F H (fun v _ => kk v) (.sh op x y) := _root_.id rfl
theorem t_nt (x : Operand) : MO.twp P W R F H kk (.nt x) = MO.wp P W F H (fun v _ => kk v) (.nt x) := _root_.id rfl
theorem t_cv (k : IntKind) (x : Operand) : MO.twp P W R F H kk (.cv k x) = MO.wp P W F H (fun v _ => kk v) (.cv k x) := _root_.id rfl
theorem t_ext (i : Nat) (x : Operand) : MO.twp P W R F H kk (.ext i x) = MO.wp P W F H (fun v _ => kk v) (.ext i x) := _root_.id rfl
theorem t_len (x : Operand) : MO.twp P W R F H kk (.len x) = MO.wp P W F H (fun v _ => kk v) (.len x) := _root_.id rfl
theorem t_iad (sz : Nat) (x i : Operand) : MO.twp P W R F H kk (.iad sz x i) = MO.wp P W F H (fun v _ => kk v) (.iad sz x i) := _root_.id rfl
theorem t_beq (neg : Bool) (x y : Operand) : MO.twp P W R F H kk (.beq neg x y) = MO.wp P W F H (fun v _ => kk v) (.beq neg x y) := _root_.id rfl
theorem t_pnil (neg : Bool) (x : Operand) : MO.twp P W R F H kk (.pnil neg x) = MO.wp P W F H (fun v _ => kk v) (.pnil neg x) := _root_.id rfl
theorem t_nilck (x : Operand) : MO.twp P W R F H kk (.nilck x) = MO.wp P W F H (fun v _ => kk v) (.nilck x) := _root_.id rfl
theorem t_snil (neg : Bool) (x : Operand) : MO.twp P W R F H kk (.snil neg x) = MO.wp P W F H (fun v _ => kk v) (.snil neg x) := _root_.id rfl
theorem t_bld (z : Array Value) (ps : List (Nat × Nat × Operand)) : MO.twp P W R F H kk (.bld z ps) = MO.wp P W F H (fun v _ => kk v) (.bld z ps) := _root_.id rfl
theorem t_iadA (n sz : Nat) (x i : Operand) : MO.twp P W R F H kk (.iadA n sz x i) = MO.wp P W F H (fun v _ => kk v) (.iadA n sz x i) := _root_.id rfl
theorem t_mn (x y : Operand) : MO.twp P W R F H kk (.mn x y) = MO.wp P W F H (fun v _ => kk v) (.mn x y) := _root_.id rfl
theorem t_slc (sz : Nat) (x : Operand) (lo hi : Option Operand) : MO.twp P W R F H kk (.slc sz x lo hi) = MO.wp P W F H (fun v _ => kk v) (.slc sz x lo hi) := _root_.id rfl
theorem t_slc3 (sz : Nat) (x : Operand) (lo : Option Operand) (hi mx : Operand) : MO.twp P W R F H kk (.slc3 sz x lo hi mx) = MO.wp P W F H (fun v _ => kk v) (.slc3 sz x lo hi mx) := _root_.id rfl
theorem t_mkf (f : Fn) (first cap : List Operand) : MO.twp P W R F H kk (.mkf f first cap) = MO.wp P W F H (fun v _ => kk v) (.mkf f first cap) := _root_.id rfl
theorem t_mif (T : TypeId) (x : Operand) : MO.twp P W R F H kk (.mif T x) = MO.wp P W F H (fun v _ => kk v) (.mif T x) := _root_.id rfl
theorem t_inil (neg : Bool) (x : Operand) : MO.twp P W R F H kk (.inil neg x) = MO.wp P W F H (fun v _ => kk v) (.inil neg x) := _root_.id rfl
theorem t_tas (T : TypeId) (z : Value) (x : Operand) : MO.twp P W R F H kk (.tas T z x) = MO.wp P W F H (fun v _ => kk v) (.tas T z x) := _root_.id rfl
theorem hold_nil : hold [] H = True := _root_.id rfl
theorem hold_cons (j : Nat) (c : Array Value) (fr : List Nat) (r : List (Nat × Array Value × List Nat)) : hold ((j, c, fr) :: r) H = (hold1 (H j) c fr ∧ hold r H) := _root_.id rfl
theorem hold1_mk (c c' : Array Value) (T : TypeId) (f : Nat × Nat) (fr : List Nat) : hold1 (some (.cells c' T f)) c fr = agree fr c.toList c'.toList 0 := _root_.id rfl
theorem agree_self (fr : List Nat) (l : List Value) (i : Nat) : agree fr l l i = True := eq_true (agree_refl fr l i)
theorem agree_nil (fr : List Nat) (i : Nat) : agree fr [] [] i = True := _root_.id rfl
theorem agree_cons (fr : List Nat) (a b : Value) (l m : List Value) (i : Nat) : agree fr (a :: l) (b :: m) i = ((fr.contains i = true ∨ b = a) ∧ agree fr l m (i + 1)) := _root_.id rfl
theorem kp_cons (j : Nat) (c : Array Value) (fr : List Nat) (r : List (Nat × Array Value × List Nat)) (b o : Nat) (v : Value) : kp ((j, c, fr) :: r) b o v = if b = j then fr.contains o = false ∧ c[o]? = some v else kp r b o v := _root_.id rfl
theorem kpn_cons (j : Nat) (c : Array Value) (fr : List Nat) (r : List (Nat × Array Value × List Nat)) (b o n : Nat) (v : Array Value) : kpn ((j, c, fr) :: r) b o n v = if b = j then fr.all (fun i => decide (i < o) || decide (o + n ≤ i)) = true ∧ o + n ≤ c.size ∧ c.extract o (o + n) = v else kpn r b o n v := _root_.id rfl
end
theorem e_put (d : Nat) (v : Value) : putD F (some d) v = (d, v) :: F := _root_.id rfl
theorem e_put0 (v : Value) : putD F none v = F := _root_.id rfl
theorem e_tmp (t : Nat) : ev F (.tmp t) = gt F t := _root_.id rfl
theorem e_const (v : Value) : ev F (.const v) = v := _root_.id rfl
theorem e_fun (f : Nat) : ev F (.func f) = .func (.func f) #[] #[] := _root_.id rfl
theorem e_evs0 : evs F [] = [] := _root_.id rfl
theorem e_evs (x : Operand) (r : List Operand) : evs F (x :: r) = ev F x :: evs F r := _root_.id rfl
theorem e_evp0 : evp F [] = [] := _root_.id rfl
theorem e_evp (o n : Nat) (x : Operand) (r : List (Nat × Nat × Operand)) : evp F ((o, n, x) :: r) = (o, n, ev F x) :: evp F r := _root_.id rfl
-- operations
theorem o_aeq (neg : Bool) (l : List (Nat × Bool)) (x y : Operand) : MO.wp P W F H K (.aeq neg l x y) = onAgg (ev F x) fun a => onAgg (ev F y) fun b => onSome (eqL l a b) fun u => onV (if neg then !u else u) fun t => K (.bool t) H := _root_.id rfl
theorem o_mv (x : Operand) : MO.wp P W F H K (.mv x) = onV (ev F x) fun v => K v H := _root_.id rfl
theorem o_pick (c a b : Operand) : MO.wp P W F H K (.pick c a b) = onBool (ev F c) fun t => both t (onV (ev F a) fun v => K v H) (onV (ev F b) fun v => K v H) := _root_.id rfl
theorem o_fad (off : Nat) (x : Operand) : MO.wp P W F H K (.fad off x) = onPtr (ev F x) fun b o => onV (o + off) fun o' => K (.pointer (some ⟨b, o', none⟩)) H := _root_.id rfl
theorem o_ld1 (x : Operand) : MO.wp P W F H K (.ld1 x) = onPtr (ev F x) fun b o => onSome (rd H b o) fun v => K v H := _root_.id rfl
theorem o_ldn (n : Nat) (x : Operand) : MO.wp P W F H K (.ldn n x) = onPtr (ev F x) fun b o => onSome (rdn H b o n) fun v => K (.agg v) H := _root_.id rfl
theorem o_st1 (x v : Operand) : MO.wp P W F H K (.st1 x v) = onPtr (ev F x) fun b o => onV (ev F v) fun u => onCells (H b) fun c T => o < c.size ∧ u.oneCell' = true ∧ onV (c.setIfInBounds o u) fun c' => K undef (upd H b (.cells c' T (0, 0))) := _root_.id rfl
theorem o_stn (n : Nat) (x v : Operand) : MO.wp P W F H K (.stn n x v) = onPtr (ev F x) fun b o => onAgg (ev F v) fun vs => onCells (H b) fun c T => vs.size = n ∧ o + n ≤ c.size ∧ vs.toList.all Value.oneCell' = true ∧ onV (setN c o vs.toList) fun c' => K undef (upd H b (.cells c' T (0, 0))) := _root_.id rfl
theorem o_box (T : TypeId) (x : Operand) : MO.wp P W F H K (.box T x) = onV (ev F x).cells fun cs => newB W H fun b => K (.pointer (some ⟨b, 0, none⟩)) (upd H b (.cells cs T (0, 0))) := _root_.id rfl
theorem o_alc (T : TypeId) (z : Value) : MO.wp P W F H K (.alc T z) = onV z.cells fun cs => newB W H fun b => K (.pointer (some ⟨b, 0, none⟩)) (upd H b (.cells cs T (0, 0))) := _root_.id rfl
theorem o_fld1 (off : Nat) (x : Operand) : MO.wp P W F H K (.fld1 off x) = onAgg (ev F x) fun cs => onSome cs[off]? fun v => K v H := _root_.id rfl
theorem o_fldn (off n : Nat) (x : Operand) : MO.wp P W F H K (.fldn off n x) = onAgg (ev F x) fun cs => onV (cs.extract off (off + n)) fun c' => K (.agg c') H := _root_.id rfl
theorem o_ar (op : BinOp) (x y : Operand) : MO.wp P W F H K (.ar op x y) = onInt (ev F x) fun k a => onInt (ev F y) fun k' b => k = k' ∧ onSome (arith op a b) fun n => onV (k.wrap n) fun m => K (.int k m) H := _root_.id rfl
theorem o_dv (op : BinOp) (x y : Operand) : MO.wp P W F H K (.dv op x y) = onInt (ev F x) fun k a => onInt (ev F y) fun k' b => k = k' ∧ b ≠ 0 ∧ onSome (division op k a b) fun n => K (.int k n) H := _root_.id rfl
theorem o_cmp (op : BinOp) (x y : Operand) : MO.wp P W F H K (.cmp op x y) = onInt (ev F x) fun k a => onInt (ev F y) fun k' b => k = k' ∧ onSome (compared op a b) fun t => K (.bool t) H := _root_.id rfl
theorem o_bt (op : BinOp) (x y : Operand) : MO.wp P W F H K (.bt op x y) = onInt (ev F x) fun k a => onInt (ev F y) fun k' b => k = k' ∧ onSome (bitsOf op k a b) fun n => K (.int k n) H := _root_.id rfl
theorem o_sh (op : BinOp) (x y : Operand) : MO.wp P W F H K (.sh op x y) = onInt (ev F x) fun k a => onInt (ev F y) fun k' b => 0 ≤ b ∧ onSome (shifted op k a b) fun n => K (.int k n) H := _root_.id rfl
theorem o_nt (x : Operand) : MO.wp P W F H K (.nt x) = onBool (ev F x) fun b => onV (!b) fun b' => K (.bool b') H := _root_.id rfl
theorem o_cv (k : IntKind) (x : Operand) : MO.wp P W F H K (.cv k x) = onInt (ev F x) fun _ n => onV (k.wrap n) fun m => K (.int k m) H := _root_.id rfl
theorem o_ext (i : Nat) (x : Operand) : MO.wp P W F H K (.ext i x) = onTuple (ev F x) fun vs => onSome vs[i]? fun v => K v H := _root_.id rfl
theorem o_len (x : Operand) : MO.wp P W F H K (.len x) = onSlice (ev F x) fun _ l _ => K (.int .i64 (l : Int)) H := _root_.id rfl
theorem o_iad (sz : Nat) (x i : Operand) : MO.wp P W F H K (.iad sz x i) = onSlice (ev F x) fun a l _ => onInt (ev F i) fun _ n => onPtr (.pointer a) fun b o => 0 ≤ n ∧ n < l ∧ onV (o + n.toNat * sz) fun o' => K (.pointer (some ⟨b, o', none⟩)) H := _root_.id rfl
theorem o_pcall (f : FuncId) (a : List Operand) : MO.wp P W F H K (.pcall f a) = onSome (pv P f (evs F a).toArray) fun v => K v H := _root_.id rfl
theorem o_call (f : FuncId) (a : List Operand) : MO.wp P W F H K (.call f a) = onV (evs F a) fun vs => callT P W f vs.toArray H K := _root_.id rfl
theorem o_beq (neg : Bool) (x y : Operand) : MO.wp P W F H K (.beq neg x y) = onBool (ev F x) fun a => onBool (ev F y) fun b => onV (if neg then a != b else a == b) fun t => K (.bool t) H := _root_.id rfl
def onP (v : Value) (k : Option Addr → Prop) (_x : Tag k := .mk) : Prop := match v with
 | .pointer a => k a
 | _ => False
theorem onP_mk (a : Option Addr) (k : Option Addr → Prop) : onP (.pointer a) k = k a := _root_.id rfl
theorem o_pnil (neg : Bool) (x : Operand) : MO.wp P W F H K (.pnil neg x) = onP (ev F x) fun a => onV (if neg then !a.isNone else a.isNone) fun t => K (.bool t) H := by
 unfold MO.wp onV onP; rfl
theorem o_nilck (x : Operand) : MO.wp P W F H K (.nilck x) = onPtr (ev F x) fun b o => K (.pointer (some ⟨b, o, none⟩)) H := _root_.id rfl
theorem o_snil (neg : Bool) (x : Operand) : MO.wp P W F H K (.snil neg x) = onSlice (ev F x) fun a _ _ => onV (if neg then !a.isNone else a.isNone) fun t => K (.bool t) H := _root_.id rfl
theorem o_bsl0 (T : TypeId) (n : Nat) : MO.wp P W F H K (.bsl0 T n) = newB W H fun b => K (.slice (some ⟨b, 0, none⟩) n n) (upd H b (.cells #[] T (0, 0))) := _root_.id rfl
theorem o_bld (z : Array Value) (ps : List (Nat × Nat × Operand)) : MO.wp P W F H K (.bld z ps) = onV (evp F ps) fun l => sized l = true ∧ onV (fillP z (unsize l)) fun cs => K (.agg cs) H := _root_.id rfl
theorem o_mks (T : TypeId) (bytes : Nat) (z : Value) (l c : Operand) : MO.wp P W F H K (.mks T bytes z l c) = onInt (ev F l) fun _ n => onInt (ev F c) fun _ m => 0 ≤ n ∧ n ≤ m ∧ bytes * m ≤ 281474976710656 ∧ m ≤ 9223372036854775807 ∧ newB W H fun b => K (.slice (some ⟨b, 0, none⟩) n.toNat m.toNat) (upd H b (.cells (Array.replicate m.toNat z) T (0, 0))) := _root_.id rfl
theorem o_bsl (T : TypeId) (z : Array Value) (n sz : Nat) (ps : List (Nat × Operand)) : MO.wp P W F H K (.bsl T z n sz ps) = onV (evp F (ps.map fun p => (p.1 * sz, sz, p.2))) fun l => sized l = true ∧ onV (fillP z (unsize l)) fun cs => newB W H fun b => K (.slice (some ⟨b, 0, none⟩) n n) (upd H b (.cells cs T (0, 0))) := _root_.id rfl
theorem o_iadA (n sz : Nat) (x i : Operand) : MO.wp P W F H K (.iadA n sz x i) = onPtr (ev F x) fun b o => onInt (ev F i) fun _ m => 0 ≤ m ∧ m < n ∧ onV (o + m.toNat * sz) fun o' => K (.pointer (some ⟨b, o', none⟩)) H := _root_.id rfl
theorem o_mn (x y : Operand) : MO.wp P W F H K (.mn x y) = onInt (ev F x) fun k a => onInt (ev F y) fun _ b => onV (if b < a then b else a) fun n => K (.int k n) H := _root_.id rfl
theorem o_app (T : TypeId) (sz bytes : Nat) (z : Array Value) (x y : Operand) : MO.wp P W F H K (.app T sz bytes z x y) = onSlice (ev F x) fun a l c => onSlice (ev F y) fun a' n _ => onSome (rds H a' (n * sz)) fun new =>
   if l + n ≤ c then stow H a (l * sz) new fun H' => K (.slice a (l + n) c) H'
   else Builtin.nextslicecap (l + n) c * bytes ≤ 281474976710656 ∧ l + n ≤ 9223372036854775807 ∧ onSome (rds H a (l * sz)) fun old => allCap (l + n) fun cap => newB W H fun b => K (.slice (some ⟨b, 0, none⟩) (l + n) cap) (upd H b (.cells (old ++ new ++ Builtin.zeroCells z (cap - (l + n))) T (0, 0))) := _root_.id rfl
theorem o_cpy (sz : Nat) (x y : Operand) : MO.wp P W F H K (.cpy sz x y) = onSlice (ev F x) fun a l _ => onSlice (ev F y) fun a' n _ => onV (Nat.min n l) fun m => onSome (rds H a' (m * sz)) fun new => stow H a 0 new fun H' => K (.int .i64 (m : Int)) H' := _root_.id rfl
theorem o_slc (sz : Nat) (x : Operand) (lo hi : Option Operand) : MO.wp P W F H K (.slc sz x lo hi) = onSlice (ev F x) fun a l c => orInt F lo 0 fun i => orInt F hi l fun j => 0 ≤ i ∧ i ≤ j ∧ j ≤ c ∧ onV (if c = i.toNat then a else a.map (·.add (i.toNat * sz))) fun a' => onV (j.toNat - i.toNat) fun n => onV (c - i.toNat) fun m => K (.slice a' n m) H := _root_.id rfl
theorem o_slc3 (sz : Nat) (x : Operand) (lo : Option Operand) (hi mx : Operand) : MO.wp P W F H K (.slc3 sz x lo hi mx) = onSlice (ev F x) fun a _ c => orInt F lo 0 fun i => onInt (ev F hi) fun _ j => onInt (ev F mx) fun _ m => 0 ≤ i ∧ i ≤ j ∧ j ≤ m ∧ m ≤ c ∧ onV (if m.toNat = i.toNat then a else a.map (·.add (i.toNat * sz))) fun a' => onV (j.toNat - i.toNat) fun n => onV (m.toNat - i.toNat) fun m' => K (.slice a' n m') H := _root_.id rfl
theorem o_mkf (f : Fn) (first cap : List Operand) : MO.wp P W F H K (.mkf f first cap) = onV (evs F first) fun u => onV (evs F cap) fun v => K (.func f u.toArray v.toArray) H := _root_.id rfl
theorem o_mif (T : TypeId) (x : Operand) : MO.wp P W F H K (.mif T x) = onV (ev F x) fun v => K (.iface T v) H := _root_.id rfl
theorem o_inil (neg : Bool) (x : Operand) : MO.wp P W F H K (.inil neg x) = onNil (ev F x) fun b => onV (if neg then !b else b) fun t => K (.bool t) H := _root_.id rfl
theorem o_tas (T : TypeId) (z : Value) (x : Operand) : MO.wp P W F H K (.tas T z x) = onAs T z (ev F x) fun v => K v H := _root_.id rfl
theorem o_inv (name : String) (x : Operand) (a : List Operand) : MO.wp P W F H K (.inv name x a) = onIf (ev F x) fun t u => onSome (methB P t name) fun f => onV (u :: evs F a) fun vs => callT P W f vs.toArray H K := _root_.id rfl
theorem c_ifn : (Value.nilIface).cells = #[.nilIface] := _root_.id rfl
theorem c_if (t : TypeId) (v : Value) : (Value.iface t v).cells = #[.iface t v] := _root_.id rfl
theorem h1_ifn : (Value.nilIface).oneCell' = true := _root_.id rfl
theorem h1_if (t : TypeId) (v : Value) : (Value.iface t v).oneCell' = true := _root_.id rfl
theorem o_or0 (d : Int) (k : Int → Prop) : orInt F none d k = k d := _root_.id rfl
theorem o_or1 (x : Operand) (d : Int) (k : Int → Prop) : orInt F (some x) d k = onInt (ev F x) fun _ n => k n := _root_.id rfl
theorem a_add (a b : Int) : arith .add a b = some (a + b) := _root_.id rfl
theorem a_sub (a b : Int) : arith .sub a b = some (a - b) := _root_.id rfl
theorem a_mul (a b : Int) : arith .mul a b = some (a * b) := _root_.id rfl
theorem a_quo (k : IntKind) (a b : Int) : division .quo k a b = some (k.wrap (a.tdiv b)) := _root_.id rfl
theorem a_rem (k : IntKind) (a b : Int) : division .rem k a b = some (a.tmod b) := _root_.id rfl
theorem a_eql (a b : Int) : compared .eql a b = some (a == b) := _root_.id rfl
theorem a_neq (a b : Int) : compared .neq a b = some (a != b) := _root_.id rfl
theorem a_lss (a b : Int) : compared .lss a b = some (decide (a < b)) := _root_.id rfl
theorem a_leq (a b : Int) : compared .leq a b = some (decide (a ≤ b)) := _root_.id rfl
theorem a_gtr (a b : Int) : compared .gtr a b = some (decide (b < a)) := _root_.id rfl
theorem a_geq (a b : Int) : compared .geq a b = some (decide (b ≤ a)) := _root_.id rfl
theorem a_and (k : IntKind) (a b : Int) : bitsOf .and k a b = some (bits .and k a b) := _root_.id rfl
theorem a_or (k : IntKind) (a b : Int) : bitsOf .or k a b = some (bits .or k a b) := _root_.id rfl
theorem a_shl (k : IntKind) (a b : Int) : shifted .shl k a b = some (k.wrap (a * 2 ^ min b.toNat k.bits)) := _root_.id rfl
theorem a_shr (k : IntKind) (a b : Int) : shifted .shr k a b = some (a.fdiv (2 ^ min b.toNat k.bits)) := _root_.id rfl
theorem c_agg (x : Array Value) : (Value.agg x).cells = x := _root_.id rfl
theorem c_int (k : IntKind) (n : Int) : (Value.int k n).cells = #[.int k n] := _root_.id rfl
theorem c_bool (b : Bool) : (Value.bool b).cells = #[.bool b] := _root_.id rfl
theorem c_ptr (a : Option Addr) : (Value.pointer a).cells = #[.pointer a] := _root_.id rfl
theorem c_slice (a : Option Addr) (n m : Nat) : (Value.slice a n m).cells = #[.slice a n m] := _root_.id rfl
theorem h1_int (k : IntKind) (n : Int) : (Value.int k n).oneCell' = true := _root_.id rfl
theorem h1_bool (b : Bool) : (Value.bool b).oneCell' = true := _root_.id rfl
theorem h1_ptr (a : Option Addr) : (Value.pointer a).oneCell' = true := _root_.id rfl
theorem h1_slice (a : Option Addr) (n m : Nat) : (Value.slice a n m).oneCell' = true := _root_.id rfl
theorem rd_upd (b o k : Nat) (c : Array Value) (T : TypeId) (f : Nat × Nat) : rd (upd H b (.cells c T f)) k o = if k = b then c[o]? else rd H k o := by
 unfold rd upd
 by_cases h : k = b
 ·rw [if_pos h, if_pos h]
 ·rw [if_neg h, if_neg h]
theorem rdn_upd (b o n k : Nat) (c : Array Value) (T : TypeId) (f : Nat × Nat) : rdn (upd H b (.cells c T f)) k o n = if k = b then (if o + n ≤ c.size then some (c.extract o (o + n)) else none) else rdn H k o n := by
 unfold rdn upd
 by_cases h : k = b
 ·rw [if_pos h, if_pos h]
 ·rw [if_neg h, if_neg h]
theorem upd_at (b k : Nat) (o : Obj) : upd H b o k = if k = b then some o else H k := _root_.id rfl
end

theorem loop_intro {P : Program} {W : World} {a : MC} {Q : Exit → Fr → Hp → Prop} {F : Fr} {H : Hp} (I : Fr → Hp → Prop) (μ : Fr → Hp → Nat) (h0 : I F H)
  (hr : ∀ F' H', I F' H' → mwp P W a (thn (fun F2 H2 => I F2 H2 ∧ μ F2 H2 < μ F' H') Q) F' H') : mwp P W (.loop a) Q F H := ⟨I, μ, h0, hr⟩
section
variable {P : Program} {W : World} {F : Fr} {H : Hp} {K K' : Value → Hp → Prop}

theorem m_onV {α : Type} {v : α} {k k' : α → Prop} (h : onV v k) (hk : ∀ v, k v → k' v) : onV v k' := hk _ h
theorem m_onPtr {v : Value} {k k' : Nat → Nat → Prop} (h : onPtr v k) (hk : ∀ b o, k b o → k' b o) : onPtr v k' := by
 unfold onPtr at h ⊢; split at h
 ·exact hk _ _ h
 ·exact h
theorem m_onBool {v : Value} {k k' : Bool → Prop} (h : onBool v k) (hk : ∀ b, k b → k' b) : onBool v k' := by
 unfold onBool at h ⊢; split at h
 ·exact hk _ h
 ·exact h
theorem m_onInt {v : Value} {k k' : IntKind → Int → Prop} (h : onInt v k) (hk : ∀ a b, k a b → k' a b) : onInt v k' := by
 unfold onInt at h ⊢; split at h
 ·exact hk _ _ h
 ·exact h
theorem m_onSome {α : Type} {v : Option α} {k k' : α → Prop} (h : onSome v k) (hk : ∀ b, k b → k' b) : onSome v k' := by
 unfold onSome at h ⊢; split at h
 ·exact hk _ h
 ·exact h
theorem m_onTuple {v : Value} {k k' : Array Value → Prop} (h : onTuple v k) (hk : ∀ b, k b → k' b) : onTuple v k' := by
 unfold onTuple at h ⊢; split at h
 ·exact hk _ h
 ·exact h
theorem m_onAgg {v : Value} {k k' : Array Value → Prop} (h : onAgg v k) (hk : ∀ b, k b → k' b) : onAgg v k' := by
 unfold onAgg at h ⊢; split at h
 ·exact hk _ h
 ·exact h
theorem m_onSlice {v : Value} {k k' : Option Addr → Nat → Nat → Prop} (h : onSlice v k) (hk : ∀ a l c, k a l c → k' a l c) : onSlice v k' := by
 unfold onSlice at h ⊢; split at h
 ·exact hk _ _ _ h
 ·exact h
theorem m_onNil {v : Value} {k k' : Bool → Prop} (h : onNil v k) (hk : ∀ b, k b → k' b) : onNil v k' := by
 unfold onNil at h ⊢; split at h
 ·exact hk _ h
 ·exact hk _ h
 ·exact h
theorem m_onIf {v : Value} {k k' : TypeId → Value → Prop} (h : onIf v k) (hk : ∀ a l, k a l → k' a l) : onIf v k' := by
 unfold onIf at h ⊢; split at h
 ·exact hk _ _ h
 ·exact h
theorem m_onAs {T : TypeId} {z v : Value} {k k' : Value → Prop} (h : onAs T z v k) (hk : ∀ a, k a → k' a) : onAs T z v k' := by
 unfold onAs at h ⊢; split at h
 ·exact hk _ h
 ·split at h
  ·rename_i e; simp only [if_pos e]; exact hk _ h
  ·rename_i e; simp only [if_neg e]; exact hk _ h
 ·exact h
theorem m_onCells {v : Option Obj} {k k' : Array Value → TypeId → Prop} (h : onCells v k) (hk : ∀ a l, k a l → k' a l) : onCells v k' := by
 unfold onCells at h ⊢; split at h
 ·exact hk _ _ h
 ·exact h
theorem m_both {b : Bool} {p q p' q' : Prop} (h : both b p q) (hp : p → p') (hq : q → q') : both b p' q' := ⟨fun e => hp (h.1 e), fun e => hq (h.2 e)⟩
theorem m_newB {k k' : Nat → Prop} (h : newB W H k) (hk : ∀ b, k b → k' b) : newB W H k' := fun b hb f1 f2 => hk b (h b hb f1 f2)
theorem m_allCap {n : Nat} {k k' : Nat → Prop} (h : allCap n k) (hk : ∀ b, k b → k' b) : allCap n k' := fun b hb => hk b (h b hb)
theorem m_stow {a : Option Addr} {o : Nat} {new : Array Value} {k k' : Hp → Prop} (h : stow H a o new k) (hk : ∀ b, k b → k' b) : stow H a o new k' := by
 unfold stow at h ⊢
 by_cases hz : new.size = 0
 ·rw [if_pos hz] at h ⊢; exact hk _ h
 ·rw [if_neg hz] at h ⊢
  exact m_onPtr h fun _ _ h => m_onCells h fun _ _ h => ⟨h.1, h.2.1, m_onV h.2.2 fun _ h => hk _ h⟩
theorem m_orInt {x : Option Operand} {d : Int} {k k' : Int → Prop} (h : orInt F x d k) (hk : ∀ b, k b → k' b) : orInt F x d k' := by
 unfold orInt at h ⊢; split at h
 ·exact hk _ h
 ·exact m_onInt h fun _ _ h => hk _ h

theorem MO.wp_mono (m : MO) (h : m.wp P W F H K) (hk : ∀ v H', K v H' → K' v H') : m.wp P W F H K' := by
 cases m <;> simp only [MO.wp] at h ⊢
 case mif T x => exact m_onV h fun _ h => hk _ _ h
 case inil neg x => exact m_onNil h fun _ h => m_onV h fun _ h => hk _ _ h
 case tas T z x => exact m_onAs h fun _ h => hk _ _ h
 case inv name x a => exact m_onIf h fun _ _ h => m_onSome h fun _ h => m_onV h fun _ h => CallP.mono h hk
 case mv x => exact m_onV h fun _ h => hk _ _ h
 case pick c a b => exact m_onBool h fun _ h => m_both h (fun h => m_onV h fun _ h => hk _ _ h) (fun h => m_onV h fun _ h => hk _ _ h)
 case fad off x => exact m_onPtr h fun _ _ h => m_onV h fun _ h => hk _ _ h
 case ld1 x => exact m_onPtr h fun _ _ h => m_onSome h fun _ h => hk _ _ h
 case ldn n x => exact m_onPtr h fun _ _ h => m_onSome h fun _ h => hk _ _ h
 case st1 x v => exact m_onPtr h fun _ _ h => m_onV h fun _ h => m_onCells h fun _ _ h => ⟨h.1, h.2.1, m_onV h.2.2 fun _ h => hk _ _ h⟩
 case stn n x v => exact m_onPtr h fun _ _ h => m_onAgg h fun _ h => m_onCells h fun _ _ h => ⟨h.1, h.2.1, h.2.2.1, m_onV h.2.2.2 fun _ h => hk _ _ h⟩
 case box T x => exact m_onV h fun _ h => m_newB h fun _ h => hk _ _ h
 case alc T z => exact m_onV h fun _ h => m_newB h fun _ h => hk _ _ h
 case fld1 off x => exact m_onAgg h fun _ h => m_onSome h fun _ h => hk _ _ h
 case fldn off n x => exact m_onAgg h fun _ h => m_onV h fun _ h => hk _ _ h
 case ar op x y => exact m_onInt h fun _ _ h => m_onInt h fun _ _ h => ⟨h.1, m_onSome h.2 fun _ h => m_onV h fun _ h => hk _ _ h⟩
 case dv op x y => exact m_onInt h fun _ _ h => m_onInt h fun _ _ h => ⟨h.1, h.2.1, m_onSome h.2.2 fun _ h => hk _ _ h⟩
 case cmp op x y => exact m_onInt h fun _ _ h => m_onInt h fun _ _ h => ⟨h.1, m_onSome h.2 fun _ h => hk _ _ h⟩
 case bt op x y => exact m_onInt h fun _ _ h => m_onInt h fun _ _ h => ⟨h.1, m_onSome h.2 fun _ h => hk _ _ h⟩
 case sh op x y => exact m_onInt h fun _ _ h => m_onInt h fun _ _ h => ⟨h.1, m_onSome h.2 fun _ h => hk _ _ h⟩
 case nt x => exact m_onBool h fun _ h => m_onV h fun _ h => hk _ _ h
 case cv k x => exact m_onInt h fun _ _ h => m_onV h fun _ h => hk _ _ h
 case ext i x => exact m_onTuple h fun _ h => m_onSome h fun _ h => hk _ _ h
 case len x => exact m_onSlice h fun _ _ _ h => hk _ _ h
 case iad sz x i => exact m_onSlice h fun _ _ _ h => m_onInt h fun _ _ h => m_onPtr h fun _ _ h => ⟨h.1, h.2.1, m_onV h.2.2 fun _ h => hk _ _ h⟩
 case pcall f a => exact m_onSome h fun _ h => hk _ _ h
 case call f a => exact m_onV h fun _ h => CallP.mono h hk
 case aeq neg l x y => exact m_onAgg h fun _ h => m_onAgg h fun _ h => m_onSome h fun _ h => m_onV h fun _ h => hk _ _ h
 case slc3 sz x lo hi mx => exact m_onSlice h fun _ _ _ h => m_orInt h fun _ h => m_onInt h fun _ _ h => m_onInt h fun _ _ h => ⟨h.1, h.2.1, h.2.2.1, h.2.2.2.1, m_onV h.2.2.2.2 fun _ h => m_onV h fun _ h => m_onV h fun _ h => hk _ _ h⟩
 case snil neg x => exact m_onSlice h fun _ _ _ h => m_onV h fun _ h => hk _ _ h
 case bsl0 T n => exact m_newB h fun _ h => hk _ _ h
 case beq neg x y => exact m_onBool h fun _ h => m_onBool h fun _ h => m_onV h fun _ h => hk _ _ h
 case pnil neg x =>
  refine m_onV h fun v h => ?_
  split at h
  ·exact m_onV h fun _ h => hk _ _ h
  ·exact h
 case nilck x => exact m_onPtr h fun _ _ h => hk _ _ h
 case bld z ps => exact m_onV h fun _ h => ⟨h.1, m_onV h.2 fun _ h => hk _ _ h⟩
 case mks T bytes z l c => exact m_onInt h fun _ _ h => m_onInt h fun _ _ h => ⟨h.1, h.2.1, h.2.2.1, h.2.2.2.1, m_newB h.2.2.2.2 fun _ h => hk _ _ h⟩
 case bsl T z n sz ps => exact m_onV h fun _ h => ⟨h.1, m_onV h.2 fun _ h => m_newB h fun _ h => hk _ _ h⟩
 case iadA n sz x i => exact m_onPtr h fun _ _ h => m_onInt h fun _ _ h => ⟨h.1, h.2.1, m_onV h.2.2 fun _ h => hk _ _ h⟩
 case mn x y => exact m_onInt h fun _ _ h => m_onInt h fun _ _ h => m_onV h fun _ h => hk _ _ h
 case app T sz bytes z x y =>
  refine m_onSlice h fun a l c h => m_onSlice h fun a' n _ h => m_onSome h fun new h => ?_
  split at h
  ·rename_i hc; simp only [if_pos hc]; exact m_stow h fun _ h => hk _ _ h
  ·rename_i hc; simp only [if_neg hc]; exact ⟨h.1, h.2.1, m_onSome h.2.2 fun _ h => m_allCap h fun _ h => m_newB h fun _ h => hk _ _ h⟩
 case cpy sz x y => exact m_onSlice h fun _ _ _ h => m_onSlice h fun _ _ _ h => m_onV h fun _ h => m_onSome h fun _ h => m_stow h fun _ h => hk _ _ h
 case slc sz x lo hi => exact m_onSlice h fun _ _ _ h => m_orInt h fun _ h => m_orInt h fun _ h => ⟨h.1, h.2.1, h.2.2.1, m_onV h.2.2.2 fun _ h => m_onV h fun _ h => m_onV h fun _ h => hk _ _ h⟩
 case mkf f first cap => exact m_onV h fun _ h => m_onV h fun _ h => hk _ _ h
end

section
variable {P : Program} {W : World}
theorem m_onGuard {v : Value} {w : Bool} {p q p' q' : Prop} (h : onGuard v w p q) (hp : p → p') (hq : q → q') : onGuard v w p' q' := by
 unfold onGuard at h ⊢; split at h
 ·cases w
  ·exact m_both h hq hp
  ·exact m_both h hp hq
 ·exact hq h
theorem m_guarded {F : Fr} {g : Option (Nat × Bool)} {p q p' q' : Prop} (h : guarded F g p q) (hp : p → p') (hq : q → q') : guarded F g p' q' := by
 unfold guarded at h ⊢; split at h
 ·exact hp h
 ·exact m_onGuard h hp hq
theorem rwp_mono : ∀ (l : List MI) {K K' : Fr → Hp → Prop} {F : Fr} {H : Hp}, rwp P W l K F H → (∀ F H, K F H → K' F H) → rwp P W l K' F H
 | [], _, _, _, _, h, hk => hk _ _ h
 | ⟨d, m, g⟩ :: r, _, _, _, _, h, hk => m_guarded h (fun h => m.wp_mono h fun _ _ h => rwp_mono r h hk) (fun h => rwp_mono r h hk)
theorem m_twp {R : List (Nat × Array Value × List Nat)} {F : Fr} {H : Hp} {k k' : Value → Prop} (m : MO) (h : m.twp P W R F H k) (hk : ∀ v, k v → k' v) : m.twp P W R F H k' := by
 by_cases h1 : ∃ x, m = .ld1 x
 ·obtain ⟨x, rfl⟩ := h1
  exact m_onPtr h fun _ _ h => m_onSome h fun _ h => ⟨h.1, hk _ h.2⟩
 ·by_cases h2 : ∃ n x, m = .ldn n x
  ·obtain ⟨n, x, rfl⟩ := h2
   exact m_onPtr h fun _ _ h => m_onSome h fun _ h => ⟨h.1, hk _ h.2⟩
  ·have e : ∀ q, m.twp P W R F H q = m.wp P W F H fun v _ => q v := fun q => by
    cases m <;> first | rfl | exact absurd ⟨_, rfl⟩ h1 | exact absurd ⟨_, _, rfl⟩ h2
   rw [e] at h ⊢
   exact m.wp_mono h fun v _ hv => hk v hv
theorem dwp_mono {R : List (Nat × Array Value × List Nat)} : ∀ (l : ST) {K K' : Fr → Hp → Prop} {F : Fr} {H : Hp}, dwp P W R l K F H → (∀ F H, K F H → K' F H) → dwp P W R l K' F H
 | .done, _, _, _, _, h, hk => hk _ _ h
 | .take ⟨d, m, g⟩ r, _, _, _, _, h, hk => m_guarded h (fun h => m_twp m h fun _ h => dwp_mono r h hk) (fun h => dwp_mono r h hk)
 | .alt _ ⟨d, m, g⟩ r more, _, _, _, _, h, hk => ⟨m_guarded h.1 (fun h => m.wp_mono h fun _ _ h => ⟨h.1, dwp_mono r h.2 hk⟩) (fun h => dwp_mono r h hk), dwp_mono more h.2 hk⟩
 | .stop, _, _, _, _, _, _ => True.intro
theorem dwpX_mono : ∀ (l : ST) {R : List (Nat × Array Value × List Nat)} {K K' : Fr → Hp → Prop} {F : Fr} {H : Hp}, dwpX P W l R K F H → (∀ F H, K F H → K' F H) → dwpX P W l R K' F H
 | .done, _, _, _, _, _, h, hk => hk _ _ h
 | .take ⟨d, m, g⟩ r, _, _, _, _, _, h, hk => m_guarded h (fun h => m_twp m h fun _ h => dwpX_mono r h hk) (fun h => dwpX_mono r h hk)
 | .alt _ ⟨d, m, g⟩ r more, _, _, _, _, _, h, hk => ⟨m_guarded h.1 (fun h => m.wp_mono h fun _ _ ⟨E, h1, h2⟩ => ⟨E, h1, dwpX_mono r h2 hk⟩) (fun h => dwpX_mono r h hk), dwpX_mono more h.2 hk⟩
 | .stop, _, _, _, _, _, _, _ => True.intro
theorem dwpX_of {R : List (Nat × Array Value × List Nat)} : ∀ (l : ST) {K : Fr → Hp → Prop} {F : Fr} {H : Hp}, dwp P W R l K F H → dwpX P W l R K F H
 | .done, _, _, _, h => h
 | .take ⟨d, m, g⟩ r, _, _, _, h => m_guarded h (fun h => m_twp m h fun _ h => dwpX_of r h) (fun h => dwpX_of r h)
 | .alt _ ⟨d, m, g⟩ r more, _, _, _, h => ⟨m_guarded h.1 (fun h => m.wp_mono h fun _ _ h => ⟨[], by rw [List.append_nil]; exact ⟨h.1, dwpX_of r h.2⟩⟩) (fun h => dwpX_of r h), dwpX_of more h.2⟩
 | .stop, _, _, _, _ => True.intro
end
theorem draw_intro {P : Program} {W : World} {l : ST} {Q : Exit → Fr → Hp → Prop} {F : Fr} {H : Hp} (R : List (Nat × Array Value × List Nat)) (h0 : hold R H) (hr : dwp P W R l (Q .normal) F H) : mwp P W (.draw l) Q F H := ⟨R, h0, dwpX_of l hr⟩
/-- A drawn region in which more is known behind its first step. -/
theorem drawX_intro {P : Program} {W : World} {l : ST} {Q : Exit → Fr → Hp → Prop} {F : Fr} {H : Hp} (R : List (Nat × Array Value × List Nat)) (h0 : hold R H) (hr : dwpX P W l R (Q .normal) F H) : mwp P W (.draw l) Q F H := ⟨R, h0, hr⟩
/-- The number in a value. -/
def iv : Value → Int
 | .int _ n => n
 | _ => 0

theorem gt_nil (n : Nat) : gt [] n = undef := _root_.id rfl
theorem initF_nil (n : Nat) : initF n [] = [] := _root_.id rfl
theorem initF_cons (n : Nat) (v : Value) (r : List Value) : initF n (v :: r) = (n, v) :: initF (n + 1) r := _root_.id rfl
theorem both_intro {b : Bool} {p q : Prop} (h : b = true → p) (k : b = false → q) : both b p q := ⟨h, k⟩

/-- A pure function's contract. -/
theorem PureC.of {P : Program} {f : FuncId} {fn : Func} {N0 : Nat} {rs0 : List RV} {c0 : MC} {pure : List FuncId} {args : Array Value} {v : Value} (hm : P.follows .mixedOrders = true) (hf : P.funcs[f]? = some fn) (hi : P.inits.idxOf? f = none)
  (ht : trF P pure fn = some ⟨N0, rs0, c0⟩) (hn : args.size ≤ N0) (h : ∀ (W : World) (H : Hp), mwp P W c0 (fpost rs0 fun u H' => u = v ∧ Sub H H') (initF 0 args.toList) H) : PureC P f args v := by
 refine ⟨hi, fun W H w hw => ?_⟩
 refine (CallP.of (K := fun u H' => u = v ∧ Sub H H') hm hf ht hn (fun W' _ => h W' H) w hw).mono ?_
 rintro e w' ⟨u, H', rfl, hs, rfl, hsub⟩
 exact ⟨rfl, hs.mono hsub⟩

theorem Sub.new {B H : Hp} {b : Nat} {o : Obj} (h : Sub B H) (hb : ∀ k, (H k).isSome = true → (k = b) = False) : Sub B (Ev.upd H b o) := by
 refine h.upd ?_
 cases e : B b with
 | none => rfl
 |some x =>
  have := hb b (by rw [h b x e]; rfl)
  simp at this

theorem sz_nil : sized [] = true := _root_.id rfl
theorem sz_cons (o n : Nat) (v : Value) (r : List (Nat × Nat × Value)) : sized ((o, n, v) :: r) = (v.cells.size == n && sized r) := _root_.id rfl
theorem us_nil : unsize [] = [] := _root_.id rfl
theorem us_cons (o n : Nat) (v : Value) (r : List (Nat × Nat × Value)) : unsize ((o, n, v) :: r) = (o, v) :: unsize r := _root_.id rfl
theorem fp_nil (z : Array Value) : fillP z [] = z := _root_.id rfl
theorem fp_cons (z : Array Value) (o : Nat) (v : Value) (r : List (Nat × Value)) : fillP z ((o, v) :: r) = fillP (setN z o v.cells.toList) r := _root_.id rfl
theorem sn_nil (c : Array Value) (o : Nat) : setN c o [] = c := _root_.id rfl
theorem sn_cons (c : Array Value) (o : Nat) (v : Value) (r : List Value) : setN c o (v :: r) = setN (c.setIfInBounds o v) (o + 1) r := _root_.id rfl
theorem al_nil {α : Type} (p : α → Bool) : [].all p = true := _root_.id rfl
theorem al_cons {α : Type} (p : α → Bool) (a : α) (r : List α) : (a :: r).all p = (p a && r.all p) := _root_.id rfl
theorem tl_mk {α : Type} (l : List α) : l.toArray.toList = l := _root_.id rfl

end Go.Ev
