/-
Rows and shapes of the laws of chapters 8 to 12. Conditions: none.
From a walk that ends 'true' and turns nothing old to what a law's row asks behind the call. Conditions: none.
Rows of any cells, of bools; more forms of arguments. Conditions: none.
Rows of deeds: structs of five numbers behind a slice. Conditions: none.
Rows of choices: structs of five numbers and a share, behind a slice. Conditions: none.
Rows of operations, and of two shares. Conditions: none.
-/
import Derived.Test.YtkjpgikjcfhckaaGreatLawK
import Derived.Test.YtkjpgikjcfhckaaGreatMaA
import Derived.Test.YtkjpgikjcfhckaaGreatEv
import Derived.Test.YtkjpgikjcfhckaaGreatRows
import Derived.Below
import Derived.Carry
import Derived.WalkKit
import Derived.ProofKit
import Derived.OpenShut
import Derived.JoinedCond
import Derived.ChangeSlices
import Derived.Deep.Grids
import Derived.Deep.Slices
import Derived.ChangeArms
import Derived.Test.YtkjpgikjcfhckaaGreatMaW
set_option linter.unusedVariables false
namespace Go.Proofs.YtkjpgikjcfhckaaGreat
open Go Go.Ev Go.Pl Go.Ma

theorem words_le {p c m:Int} (h:may p c m=true):0≤words p c m∧words p c m≤2000:=by
 obtain⟨a1,a2,a3,a4,a5,a6⟩:=(may_iff _ _ _).1 h
 have:=mul_bd c m (by omega) a4 a5 a6
 unfold words;rw[if_pos h];omega
theorem _root_.Go.Ma.Bi.new_left (s:Sh) (c p k:Int):(Ma.Bi.new s c p k).left≤32:=by
 have:=slots_bd (Ma.Bi.new s c p k).k
 have e:(Ma.Bi.new s c p k).i=0:=rfl
 have e2:(Ma.Bi.new s c p k).bd=false:=rfl
 unfold Ma.Bi.left;rw[e2,e];split
 ·omega
 ·rw[if_neg (by decide)];omega
theorem _root_.Go.Ma.St.new_left (s:Sh) (c p k:Int):(Ma.St.new s c p k).left≤34:=by
 have:=slots_bd (Ma.St.new s c p k).k
 have e:(Ma.St.new s c p k).i=0:=rfl
 have e2:(Ma.St.new s c p k).bk=false:=rfl
 unfold Ma.St.left;rw[e2,e];split
 ·omega
 ·rw[if_neg (by decide)];omega
end Go.Proofs.YtkjpgikjcfhckaaGreat
set_option linter.unusedSimpArgs false
namespace Go.Proofs.YtkjpgikjcfhckaaGreat
open Go Go.Ev Go.ChangeShapes Go.WideShapes Go.ChangeAt Go.RowKit

theorem ownKnob_no:ownKnob Tryz.prog.godebug=none:=by kernel_rfl
theorem laidOut_yes:laidOutB Tryz.prog=true:=by kernel_rfl

/-! ### What the row asks of the whole program, in parts -/
theorem ws_ne:∀ l:List Char,wordsSigns l≠[]
 | [],h=>by simp [wordsSigns]at h
 |c :: r,h=>by
  unfold wordsSigns at h
  split at h
  ·cases h
  ·cases h
  ·split at h<;>cases h
theorem ws_app:∀ (w r:List Char),wordsSigns w = [w]→wordsSigns (w ++ (" ".toList ++ r))=w :: wordsSigns r
 | [],r,_=>rfl
 |c :: w,r,h=>by
  rw[List.cons_append]
  unfold wordsSigns at h
  conv=>lhs;unfold wordsSigns
  split at h
  ·rename_i e;cases e
  ·rename_i r' e
   injection h with h1 h2
   cases h1
  ·rename_i c' r' hc e
   injection e with e1 e2
   subst e1;subst e2
   split
   ·rename_i e;cases e
   ·rename_i r' e
    injection e with e1 e2
    exact(hc e1).elim
   ·rename_i c2 r2 hc2 e
    injection e with e1 e2
    subst e1;subst e2
    split at h
    ·rename_i a b hw
     injection h with h1 h2
     injection h1 with h3 h4
     subst h4;subst h2
     rw[ws_app _ r hw]
    ·rename_i hw;exact absurd hw (ws_ne _)
theorem head_words {P:Program} {s:List Char} {m:Nat} (hm:P.initOrder.toList.take m = "harness".toList ++ (" ".toList ++ (s ++ (" ".toList ++ ("cut".toList ++ " ".toList))))) (h1:wordsSigns "harness".toList = ["harness".toList]) (h2:wordsSigns s = [s]) (h3:wordsSigns "cut".toList = ["cut".toList]) :
  ∃ rest,wordsSigns P.initOrder.toList = "harness".toList :: s :: "cut".toList :: rest:=by
 refine⟨wordsSigns (P.initOrder.toList.drop m),?_⟩
 have e:P.initOrder.toList = "harness".toList ++ (" ".toList ++ (s ++ (" ".toList ++ ("cut".toList ++ (" ".toList ++ P.initOrder.toList.drop m))))):=by
  have:=(List.take_append_drop m P.initOrder.toList).symm
  rw[hm]at this
  simpa only[List.append_assoc] using this
 generalize P.initOrder.toList.drop m=r at e ⊢
 rw[e,ws_app _ _ h1,ws_app _ _ h2,ws_app _ _ h3]
theorem enter_of {P:Program} {s:List Char} {rest:List (List Char)} (h:wordsSigns P.initOrder.toList = "harness".toList :: s :: "cut".toList :: rest) (hs:isSumSigns s=true) (hl:P.laysLater=false) (hb:P.bearsReflect=false) (hd:P.doorRows = []) :
  P.mayEnter=true∧P.liftsFinal=false∧P.make=some .cut:=by
 have e:behindMainWord (wordsSigns P.initOrder.toList) = "cut".toList :: rest:=by
  rw[h];unfold behindMainWord
  show(if((("harness".toList == "harness".toList || "harness".toList == "ownmain".toList) && isSumSigns s)=true) then _ else _)=_
  rw[if_pos (by rw[hs];rfl)]
 have l:stripLifts liftWords ("cut".toList :: rest)=([],"cut".toList :: rest):=rfl
 refine⟨?_,?_,?_⟩
 ·unfold Program.mayEnter Program.doorFits
  rw[e]
  simp only[l,hl,hb,hd]
  rfl
 ·unfold Program.liftsFinal Program.headLifts
  rw[e]
  simp only[l]
  rfl
 ·unfold Program.make
  rw[e]
  rfl

def Ends (P:Program) (f:FuncId) (args:Array Value) (W:World):Prop:=
 Calls P f args W fun e W'=>e=.returned (.bool true)∧Below W.heap.size W W'

def memOf (W:World):Hp:=fun b=>W.heap[b]?

theorem sat_memOf (W:World):Sat W (memOf W) W:=⟨rfl,rfl,rfl,Nat.le_refl _,fun _ _ h=>h⟩

theorem Below.of_sat {W W':World} (h:Sat W (memOf W) W'):Below W.heap.size W W':=by
 refine⟨h.os,h.tape,h.output,h.size,fun k hk=>?_⟩
 have hs:W.heap[k]? = some W.heap[k]:=Array.getElem?_eq_getElem hk
 rw[hs]
 exact h.has k _ hs

theorem Ends.of_call {P:Program} {f:FuncId} {args:Array Value} {W:World} (h:CallP P W f args (memOf W) fun v H'=>v=.bool true∧Sub (memOf W) H'):Ends P f args W:=
 (h W (sat_memOf W)).mono fun _ _ ⟨_,_,he,hs,hv,hb⟩=>⟨by rw[he,hv],Below.of_sat (hs.mono hb)⟩

section
variable {H:Type} {enc:TypeId×Value→H} {P:Program} {W W':World}

theorem trodAll_below (hl:laidOutB P=true) (hb:Below W.heap.size W W'):∀ (ts:List TypeId) (vs:List Value) (ds:List (DataW H)) (ps:List MemPlace),
  (ts.all fun t=>P.readableRec t && decide (t<P.types.size))=true→DataW.TrodAll enc P W 0 (fun _=>true) true ts vs ds ps→(∀ x∈ps,x.block<W.heap.size) →
  DataW.TrodAll enc P W' 0 (fun b=>decide (b<W.heap.size)) true ts vs ds ps
 | [],vs,ds,ps,_,h,_=>by
  cases vs<;>cases ds<;>simp_all [DataW.TrodAll]
 |t :: ts,vs,ds,ps,ha,h,hlt=>by
  obtain⟨v,vs',d,ds',p,q,rfl,rfl,rfl,h1,h2⟩:=trodAll_cons h
  simp only[List.all_cons,Bool.and_eq_true,decide_eq_true_eq]at ha
  exact⟨p,q,Below.trod hl ha.1.1 ha.1.2 h1 hb (fun x hx=>hlt x (List.mem_append_left _ hx)),
   trodAll_below hl hb ts vs' ds' q (by simpa using ha.2) h2 (fun x hx=>hlt x (List.mem_append_right _ hx)),rfl⟩

theorem trodAll_len:∀ (ts:List TypeId) (vs:List Value) (ds:List (DataW H)) (ps:List MemPlace) {base:Nat} {spare:Nat→Bool} {held:Bool},
  DataW.TrodAll enc P W base spare held ts vs ds ps→vs.length=ts.length∧ds.length=ts.length
 | [],vs,ds,ps,_,_,_,h=>by
  obtain⟨rfl,rfl,rfl⟩:=trodAll_nil h
  exact⟨rfl,rfl⟩
 |t :: ts,vs,ds,ps,_,_,_,h=>by
  obtain⟨v,vs',d,ds',p,q,rfl,rfl,rfl,h1,h2⟩:=trodAll_cons h
  obtain⟨e1,e2⟩:=trodAll_len ts vs' ds' q h2
  simp [e1,e2]

theorem post_of_walk {fn:Func} {s:ChangeSpec} {f:FuncId} {args:Array Value} {ds gs:List (DataW H)} {before:List MemPlace} {tb:TypeId}
  (hl:laidOutB P=true) (hts:(fn.params.toList.all fun t=>P.readableRec t && decide (t<P.types.size))=true)
  (hr:fn.resultTypes=#[tb]) (hb:P.underlying tb=some .bool) (hv:s.vars = [])
  (hs:∀ ds:List (DataW H),ds.length=fn.params.toList.length→(s.fn H ds).results = [.lit (.bool true)]∧(s.fn H ds).args=ds∧(s.fn H ds).vars = [])
  (hW:DataW.Whole enc P fn.params.toList s.vars false W args.toList ds gs before)
  (hwalk:args.size=fn.params.size→Ends P f args W) :
  Calls P f args W fun e W'=>∃ v,e=.returned v∧s.post enc P fn false true false false W args v W':=by
 obtain⟨p,q,hA,hV,hpq,hfz,hnd⟩:=id hW
 obtain⟨l1,l2⟩:=trodAll_len _ _ _ _ hA
 rw[hv]at hV
 obtain⟨rfl,rfl⟩:=trodVars_none hV
 obtain⟨s1,s2,s3⟩:=hs ds l2
 refine(hwalk (by simpa using l1)).mono fun e W' ⟨he,hbl⟩=>?_
 refine⟨_,he,ds,[],before,[],p,[],hW,?_,?_,?_,hbl.frame _,fun h=>by cases h⟩
 ·rw[List.append_nil,s1,hr]
  exact trodAll_cons_mk (shut_bool hb true) trodAll_mk0
 ·rw[List.append_nil,s2]
  refine trodAll_below hl hbl _ _ _ _ hts hA fun x hx=>hW.lt x ?_
  rw[hpq];exact List.mem_append_left _ hx
 ·rw[List.append_nil,s3,hv]
  rfl

/-! ### The arguments' forms. -/
theorem int_of_ok {t:TypeId} {k:IntKind} {v:Value} {base:Nat} (ht:P.underlying t=some (.int k)) (h:Cell.okWide P W .any base t v):∃ n,v=.int k n∧k.has n:=by
 simp only[Cell.okWide,ht,Cell.ok]at h
 cases v<;>simp_all

theorem int_of_okv {t:TypeId} {k:IntKind} {v:Value} {base:Nat} (ht:P.underlying t=some (.int k)) (h:Value.okWide P W .any base t v):∃ n,v=.int k n∧k.has n:=by
 simp only[Value.okWide,ht]at h
 exact int_of_ok ht h

theorem agg_of_ok {t:TypeId} {v:Value} {base:Nat} {ts:List TypeId} (hk:(match P.underlying t with | some (.struct _) | some (.array _ _)=>true | _=>false)=true) (hc:P.cellTypes P.depth t=some ts) (hn:P.cellsOf t=ts.length)
  (h:Value.okWide P W .any base t v):∃ l:List Value,v=.agg l.toArray∧l.length=ts.length∧∀ (i:Nat) (x:Value),l[i]? = some x→∃ u,ts[i]? = some u∧Cell.okWide P W .any base u x:=by
 have key:∃ cs,v=.agg cs∧cs.size=P.cellsOf t∧Row.okWide P W .any base t cs:=by
  unfold Value.okWide at h
  split at h
  ·exact h
  ·exact h
  ·rename_i n1 n2
   split at hk
   ·rename_i fs hu;exact absurd hu (n1 fs)
   ·rename_i n e hu;exact absurd hu (n2 n e)
   ·cases hk
 obtain⟨cs,rfl,hsz,ts',ht',-,hall⟩:=key
 rw[hc]at ht';injection ht' with ht';subst ht'
 refine⟨cs.toList,by simp,by simp [hsz,hn],fun i x hx=>?_⟩
 have hi:i<ts.length:=by
  rw[← hn,← hsz]
  have:=(List.getElem?_eq_some_iff.1 hx).1
  simpa using this
 obtain⟨u,hu,ho⟩:=hall i x (by simpa using hx)
 rw[Nat.mod_eq_of_lt hi]at hu
 exact⟨u,hu,ho⟩
end

theorem list2 {α : Type} {l:List α} (h:l.length=2):∃ a b,l = [a,b]:=by
 match l,h with
 | [a,b],_=>exact⟨a,b,rfl⟩
theorem list3 {α : Type} {l:List α} (h:l.length=3):∃ a b c,l = [a,b,c]:=by
 match l,h with
 | [a,b,c],_=>exact⟨a,b,c,rfl⟩
theorem arr3 {α : Type} {l:Array α} (h:l.size=3):∃ a b c,l=#[a,b,c]:=by
 obtain⟨a,b,c,e⟩:=list3 (l:=l.toList) (by simpa using h)
 exact⟨a,b,c,by rw[← Array.toArray_toList (xs:=l),e]⟩
theorem ints2_of_ok {P:Program} {W:World} {t:TypeId} {v:Value} {base:Nat} {t0 t1:TypeId} {k0 k1:IntKind} (hk:(match P.underlying t with | some (.struct _) | some (.array _ _)=>true | _=>false)=true)
  (hc:P.cellTypes P.depth t=some [t0,t1]) (hn:P.cellsOf t=2) (h0:P.underlying t0=some (.int k0)) (h1:P.underlying t1=some (.int k1))
  (h:Value.okWide P W .any base t v):∃ a b,v=.agg #[.int k0 a,.int k1 b]∧k0.has a∧k1.has b:=by
 obtain⟨l,rfl,hl,hall⟩:=agg_of_ok hk hc hn h
 obtain⟨x,y,rfl⟩:=list2 hl
 obtain⟨u0,e0,o0⟩:=hall 0 x rfl
 obtain⟨u1,e1,o1⟩:=hall 1 y rfl
 injection e0 with e0;injection e1 with e1
 subst e0;subst e1
 obtain⟨a,rfl,ha⟩:=int_of_ok h0 o0
 obtain⟨b,rfl,hb⟩:=int_of_ok h1 o1
 exact⟨a,b,rfl,ha,hb⟩
theorem u8_bd {n:Int} (h:IntKind.u8.has n):0≤n∧n≤255:=h
theorem u16_bd {n:Int} (h:IntKind.u16.has n):0≤n∧n≤65535:=h
end Go.Proofs.YtkjpgikjcfhckaaGreat
namespace Go.Proofs.YtkjpgikjcfhckaaGreat
open Go Go.Ev Go.ChangeShapes Go.WideShapes Go.ChangeAt Go.RowKit

def RowV (h:Hp) (a:Option Addr) (n:Nat) (vs:Nat→Value):Prop:=n=0∨∃ b o,a=some ⟨b,o,none⟩∧∀ i,i<n→rd h b (o+i)=some (vs i)
theorem RowV.sub {h h':Hp} {a:Option Addr} {n:Nat} {vs:Nat→Value} (hr:RowV h a n vs) (hs:Sub h h'):RowV h' a n vs:=by
 rcases hr with hr |⟨b,o,rfl,hr⟩
 ·exact .inl hr
 ·refine .inr ⟨b,o,rfl,fun i hi=>?_⟩
  have:=hr i hi
  unfold rd at this ⊢
  split at this
  ·rename_i c T f e;rw[hs _ _ e];exact this
  ·cases this
theorem RowV.at' {h:Hp} {a:Option Addr} {n:Nat} {vs:Nat→Value} (hr:RowV h a n vs) {i:Nat} (hi:i<n):∃ b o,a=some ⟨b,o,none⟩∧rd h b (o+i)=some (vs i):=by
 rcases hr with hr |⟨b,o,rfl,hr⟩
 ·omega
 ·exact⟨b,o,rfl,hr i hi⟩

end Go.Proofs.YtkjpgikjcfhckaaGreat
namespace Go.Proofs.YtkjpgikjcfhckaaGreat
open Go Go.Ev Go.ChangeShapes Go.WideShapes Go.ChangeAt Go.RowKit

def dv (f:Nat→Nat→Int) (i:Nat):Array Value:=#[.int .i64 (f i 0),.int .i64 (f i 1),.int .i64 (f i 2),.int .u64 (f i 3),.int .u64 (f i 4)]
def RowD (h:Hp) (a:Option Addr) (n:Nat) (f:Nat→Nat→Int):Prop:=n=0∨∃ b o,a=some ⟨b,o,none⟩∧∀ i,i<n→rdn h b (o+i*5) 5=some (dv f i)
theorem rdn_sub {h h':Hp} {b o k:Nat} {v:Array Value} (hr:rdn h b o k=some v) (hs:Sub h h'):rdn h' b o k=some v:=by
 unfold rdn at hr ⊢
 split at hr
 ·rename_i c T f e;rw[hs _ _ e];exact hr
 ·cases hr
theorem RowD.sub {h h':Hp} {a:Option Addr} {n:Nat} {f:Nat→Nat→Int} (hr:RowD h a n f) (hs:Sub h h'):RowD h' a n f:=by
 rcases hr with hr |⟨b,o,rfl,hr⟩
 ·exact .inl hr
 ·exact .inr ⟨b,o,rfl,fun i hi=>rdn_sub (hr i hi) hs⟩
theorem RowD.at' {h:Hp} {a:Option Addr} {n:Nat} {f:Nat→Nat→Int} (hr:RowD h a n f) {i:Nat} (hi:i<n):∃ b o,a=some ⟨b,o,none⟩∧rdn h b (o+i*5) 5=some (dv f i):=by
 rcases hr with hr |⟨b,o,rfl,hr⟩
 ·omega
 ·exact⟨b,o,rfl,hr i hi⟩
end Go.Proofs.YtkjpgikjcfhckaaGreat
namespace Go.Proofs.YtkjpgikjcfhckaaGreat
open Go Go.Ev Go.ChangeShapes Go.WideShapes Go.ChangeAt Go.RowKit Go.Ma

structure Chr where
 k:Int
 c:Int
 o:Go.Ma.Op
 b:Nat
instance:Inhabited Chr:=⟨⟨0,0,⟨0,0,0⟩,0⟩⟩
def cv (x:Chr):Array Value:=#[.int .i64 x.k,.int .i64 x.c,.int .i64 x.o.k,.int .i64 x.o.a,.int .i64 x.o.n,.float .f64 x.b]
def RowC (h:Hp) (a:Option Addr) (n:Nat) (f:Nat→Chr):Prop:=n=0∨∃ b o,a=some ⟨b,o,none⟩∧∀ i,i<n→rdn h b (o+i*6) 6=some (cv (f i))
theorem RowC.sub {h h':Hp} {a:Option Addr} {n:Nat} {f:Nat→Chr} (hr:RowC h a n f) (hs:Sub h h'):RowC h' a n f:=by
 rcases hr with hr |⟨b,o,rfl,hr⟩
 ·exact .inl hr
 ·exact .inr ⟨b,o,rfl,fun i hi=>rdn_sub (hr i hi) hs⟩
theorem RowC.at' {h:Hp} {a:Option Addr} {n:Nat} {f:Nat→Chr} (hr:RowC h a n f) {i:Nat} (hi:i<n):∃ b o,a=some ⟨b,o,none⟩∧rdn h b (o+i*6) 6=some (cv (f i)):=by
 rcases hr with hr |⟨b,o,rfl,hr⟩
 ·omega
 ·exact⟨b,o,rfl,hr i hi⟩
end Go.Proofs.YtkjpgikjcfhckaaGreat
namespace Go.Proofs.YtkjpgikjcfhckaaGreat
open Go Go.Ev Go.ChangeShapes Go.WideShapes Go.ChangeAt Go.RowKit Go.Ma
def ov (x:Go.Ma.Op):Array Value:=#[.int .i64 x.k,.int .i64 x.a,.int .i64 x.n]
def RowO (h:Hp) (a:Option Addr) (n:Nat) (f:Nat→Go.Ma.Op):Prop:=n=0∨∃ b o,a=some ⟨b,o,none⟩∧∀ i,i<n→rdn h b (o+i*3) 3=some (ov (f i))
theorem RowO.at' {h:Hp} {a:Option Addr} {n:Nat} {f:Nat→Go.Ma.Op} (hr:RowO h a n f) {i:Nat} (hi:i<n):∃ b o,a=some ⟨b,o,none⟩∧rdn h b (o+i*3) 3=some (ov (f i)):=by
 rcases hr with hr |⟨b,o,rfl,hr⟩
 ·omega
 ·exact⟨b,o,rfl,hr i hi⟩
instance:Inhabited Go.Ma.Op:=⟨⟨0,0,0⟩⟩
theorem float_of_ok {P:Program} {W:World} {t:TypeId} {k:FloatKind} {v:Value} {base:Nat} (ht:P.underlying t=some (.float k)) (h:Cell.okWide P W .any base t v):∃ n,v=.float k n:=by
 simp only[Cell.okWide,ht,Cell.ok]at h
 cases v<;>simp_all
theorem float_of_okv {P:Program} {W:World} {t:TypeId} {k:FloatKind} {v:Value} {base:Nat} (ht:P.underlying t=some (.float k)) (h:Value.okWide P W .any base t v):∃ n,v=.float k n:=by
 simp only[Value.okWide,ht]at h
 exact float_of_ok ht h
end Go.Proofs.YtkjpgikjcfhckaaGreat
