/-
Rows and shapes of the laws of chapters 8 to 12. Conditions: none.
-/
import Derived.Test.YtkjpgikjcfhckaaGreatLawK
import Derived.Test.YtkjpgikjcfhckaaGreatMaA
import Derived.Test.YtkjpgikjcfhckaaGreatEv
import Derived.Test.YtkjpgikjcfhckaaGreatRows
import Derived.Below
import Derived.Carry
import Derived.WalkKit
import Derived.ProofKit
import Derived.OpenShut
import Derived.JoinedCond
import Derived.ChangeSlices
import Derived.Deep.Grids
import Derived.Deep.Slices
import Derived.ChangeArms
import Derived.Test.YtkjpgikjcfhckaaGreatMaW
set_option linter.unusedVariables false
namespace Go.Proofs.YtkjpgikjcfhckaaGreat
open Go Go.Ev Go.Pl Go.Ma

theorem words_le {p c m:Int} (h:may p c m=true):0≤words p c m∧words p c m≤2000:=by
 obtain⟨a1,a2,a3,a4,a5,a6⟩:=(may_iff _ _ _).1 h
 have:=mul_bd c m (by omega) a4 a5 a6
 unfold words;rw[if_pos h];omega
theorem _root_.Go.Ma.Bi.new_left (s:Sh) (c p k:Int):(Ma.Bi.new s c p k).left≤32:=by
 have:=slots_bd (Ma.Bi.new s c p k).k
 have e:(Ma.Bi.new s c p k).i=0:=rfl
 have e2:(Ma.Bi.new s c p k).bd=false:=rfl
 unfold Ma.Bi.left;rw[e2,e];split
 ·omega
 ·rw[if_neg (by decide)];omega
theorem _root_.Go.Ma.St.new_left (s:Sh) (c p k:Int):(Ma.St.new s c p k).left≤34:=by
 have:=slots_bd (Ma.St.new s c p k).k
 have e:(Ma.St.new s c p k).i=0:=rfl
 have e2:(Ma.St.new s c p k).bk=false:=rfl
 unfold Ma.St.left;rw[e2,e];split
 ·omega
 ·rw[if_neg (by decide)];omega
end Go.Proofs.YtkjpgikjcfhckaaGreat
set_option linter.unusedSimpArgs false
namespace Go.Proofs.YtkjpgikjcfhckaaGreat
open Go Go.Ev Go.ChangeShapes Go.WideShapes Go.ChangeAt Go.RowKit

theorem ownKnob_no:ownKnob Tryz.prog.godebug=none:=by kernel_rfl
theorem laidOut_yes:laidOutB Tryz.prog=true:=by kernel_rfl

/-! ### What the row asks of the whole program, in parts -/
theorem ws_ne:∀ l:List Char,wordsSigns l≠[]
 | [],h=>by simp [wordsSigns]at h
 |c :: r,h=>by
  unfold wordsSigns at h
  split at h
  ·cases h
  ·cases h
  ·split at h<;>cases h
theorem ws_app:∀ (w r:List Char),wordsSigns w = [w]→wordsSigns (w ++ (" ".toList ++ r))=w :: wordsSigns r
 | [],r,_=>rfl
 |c :: w,r,h=>by
  rw[List.cons_append]
  unfold wordsSigns at h
  conv=>lhs;unfold wordsSigns
  split at h
  ·rename_i e;cases e
  ·rename_i r' e
   injection h with h1 h2
   cases h1
  ·rename_i c' r' hc e
   injection e with e1 e2
   subst e1;subst e2
   split
   ·rename_i e;cases e
   ·rename_i r' e
    injection e with e1 e2
    exact(hc e1).elim
   ·rename_i c2 r2 hc2 e
    injection e with e1 e2
    subst e1;subst e2
    split at h
    ·rename_i a b hw
     injection h with h1 h2
     injection h1 with h3 h4
     subst h4;subst h2
     rw[ws_app _ r hw]
    ·rename_i hw;exact absurd hw (ws_ne _)
theorem head_words {P:Program} {s:List Char} {m:Nat} (hm:P.initOrder.toList.take m = "harness".toList ++ (" ".toList ++ (s ++ (" ".toList ++ ("cut".toList ++ " ".toList))))) (h1:wordsSigns "harness".toList = ["harness".toList]) (h2:wordsSigns s = [s]) (h3:wordsSigns "cut".toList = ["cut".toList]) :
  ∃ rest,wordsSigns P.initOrder.toList = "harness".toList :: s :: "cut".toList :: rest:=by
 refine⟨wordsSigns (P.initOrder.toList.drop m),?_⟩
 have e:P.initOrder.toList = "harness".toList ++ (" ".toList ++ (s ++ (" ".toList ++ ("cut".toList ++ (" ".toList ++ P.initOrder.toList.drop m))))):=by
  have:=(List.take_append_drop m P.initOrder.toList).symm
  rw[hm]at this
  simpa only[List.append_assoc] using this
 generalize P.initOrder.toList.drop m=r at e ⊢
 rw[e,ws_app _ _ h1,ws_app _ _ h2,ws_app _ _ h3]
theorem enter_of {P:Program} {s:List Char} {rest:List (List Char)} (h:wordsSigns P.initOrder.toList = "harness".toList :: s :: "cut".toList :: rest) (hs:isSumSigns s=true) (hl:P.laysLater=false) (hb:P.bearsReflect=false) (hd:P.doorRows = []) :
  P.mayEnter=true∧P.liftsFinal=false∧P.make=some .cut:=by
 have e:behindMainWord (wordsSigns P.initOrder.toList) = "cut".toList :: rest:=by
  rw[h];unfold behindMainWord
  show(if((("harness".toList == "harness".toList || "harness".toList == "ownmain".toList) && isSumSigns s)=true) then _ else _)=_
  rw[if_pos (by rw[hs];rfl)]
 have l:stripLifts liftWords ("cut".toList :: rest)=([],"cut".toList :: rest):=rfl
 refine⟨?_,?_,?_⟩
 ·unfold Program.mayEnter Program.doorFits
  rw[e]
  simp only[l,hl,hb,hd]
  rfl
 ·unfold Program.liftsFinal Program.headLifts
  rw[e]
  simp only[l]
  rfl
 ·unfold Program.make
  rw[e]
  rfl

def Ends (P:Program) (f:FuncId) (args:Array Value) (W:World):Prop:=
 Calls P f args W fun e W'=>e=.returned (.bool true)∧Below W.heap.size W W'

def memOf (W:World):Hp:=fun b=>W.heap[b]?

theorem sat_memOf (W:World):Sat W (memOf W) W:=⟨rfl,rfl,rfl,Nat.le_refl _,fun _ _ h=>h⟩

theorem Below.of_sat {W W':World} (h:Sat W (memOf W) W'):Below W.heap.size W W':=by
 refine⟨h.os,h.tape,h.output,h.size,fun k hk=>?_⟩
 have hs:W.heap[k]? = some W.heap[k]:=Array.getElem?_eq_getElem hk
 rw[hs]
 exact h.has k _ hs

theorem Ends.of_call {P:Program} {f:FuncId} {args:Array Value} {W:World} (h:CallP P W f args (memOf W) fun v H'=>v=.bool true∧Sub (memOf W) H'):Ends P f args W:=
 (h W (sat_memOf W)).mono fun _ _ ⟨_,_,he,hs,hv,hb⟩=>⟨by rw[he,hv],Below.of_sat (hs.mono hb)⟩

section
variable {H:Type} {enc:TypeId×Value→H} {P:Program} {W W':World}

theorem trodAll_below (hl:laidOutB P=true) (hb:Below W.heap.size W W'):∀ (ts:List TypeId) (vs:List Value) (ds:List (DataW H)) (ps:List MemPlace),
  (ts.all fun t=>P.readableRec t && decide (t<P.types.size))=true→DataW.TrodAll enc P W 0 (fun _=>true) true ts vs ds ps→(∀ x∈ps,x.block<W.heap.size) →
  DataW.TrodAll enc P W' 0 (fun b=>decide (b<W.heap.size)) true ts vs ds ps
 | [],vs,ds,ps,_,h,_=>by
  cases vs<;>cases ds<;>simp_all [DataW.TrodAll]
 |t :: ts,vs,ds,ps,ha,h,hlt=>by
  obtain⟨v,vs',d,ds',p,q,rfl,rfl,rfl,h1,h2⟩:=trodAll_cons h
  simp only[List.all_cons,Bool.and_eq_true,decide_eq_true_eq]at ha
  exact⟨p,q,Below.trod hl ha.1.1 ha.1.2 h1 hb (fun x hx=>hlt x (List.mem_append_left _ hx)),
   trodAll_below hl hb ts vs' ds' q (by simpa using ha.2) h2 (fun x hx=>hlt x (List.mem_append_right _ hx)),rfl⟩

theorem trodAll_len:∀ (ts:List TypeId) (vs:List Value) (ds:List (DataW H)) (ps:List MemPlace) {base:Nat} {spare:Nat→Bool} {held:Bool},
  DataW.TrodAll enc P W base spare held ts vs ds ps→vs.length=ts.length∧ds.length=ts.length
 | [],vs,ds,ps,_,_,_,h=>by
  obtain⟨rfl,rfl,rfl⟩:=trodAll_nil h
  exact⟨rfl,rfl⟩
 |t :: ts,vs,ds,ps,_,_,_,h=>by
  obtain⟨v,vs',d,ds',p,q,rfl,rfl,rfl,h1,h2⟩:=trodAll_cons h
  obtain⟨e1,e2⟩:=trodAll_len ts vs' ds' q h2
  simp [e1,e2]

theorem post_of_walk {fn:Func} {s:ChangeSpec} {f:FuncId} {args:Array Value} {ds gs:List (DataW H)} {before:List MemPlace} {tb:TypeId}
  (hl:laidOutB P=true) (hts:(fn.params.toList.all fun t=>P.readableRec t && decide (t<P.types.size))=true)
  (hr:fn.resultTypes=#[tb]) (hb:P.underlying tb=some .bool) (hv:s.vars = [])
  (hs:∀ ds:List (DataW H),ds.length=fn.params.toList.length→(s.fn H ds).results = [.lit (.bool true)]∧(s.fn H ds).args=ds∧(s.fn H ds).vars = [])
  (hW:DataW.Whole enc P fn.params.toList s.vars false W args.toList ds gs before)
  (hwalk:args.size=fn.params.size→Ends P f args W) :
  Calls P f args W fun e W'=>∃ v,e=.returned v∧s.post enc P fn false true false false W args v W':=by
 obtain⟨p,q,hA,hV,hpq,hfz,hnd⟩:=id hW
 obtain⟨l1,l2⟩:=trodAll_len _ _ _ _ hA
 rw[hv]at hV
 obtain⟨rfl,rfl⟩:=trodVars_none hV
 obtain⟨s1,s2,s3⟩:=hs ds l2
 refine(hwalk (by simpa using l1)).mono fun e W' ⟨he,hbl⟩=>?_
 refine⟨_,he,ds,[],before,[],p,[],hW,?_,?_,?_,hbl.frame _,fun h=>by cases h⟩
 ·rw[List.append_nil,s1,hr]
  exact trodAll_cons_mk (shut_bool hb true) trodAll_mk0
 ·rw[List.append_nil,s2]
  refine trodAll_below hl hbl _ _ _ _ hts hA fun x hx=>hW.lt x ?_
  rw[hpq];exact List.mem_append_left _ hx
 ·rw[List.append_nil,s3,hv]
  rfl

/-! ### The arguments' forms. -/
theorem int_of_ok {t:TypeId} {k:IntKind} {v:Value} {base:Nat} (ht:P.underlying t=some (.int k)) (h:Cell.okWide P W .any base t v):∃ n,v=.int k n∧k.has n:=by
 simp only[Cell.okWide,ht,Cell.ok]at h
 cases v<;>simp_all

theorem agg_of_ok {t:TypeId} {v:Value} {base:Nat} {ts:List TypeId} (hk:(match P.underlying t with | some (.struct _) | some (.array _ _)=>true | _=>false)=true) (hc:P.cellTypes P.depth t=some ts) (hn:P.cellsOf t=ts.length)
  (h:Value.okWide P W .any base t v):∃ l:List Value,v=.agg l.toArray∧l.length=ts.length∧∀ (i:Nat) (x:Value),l[i]? = some x→∃ u,ts[i]? = some u∧Cell.okWide P W .any base u x:=by
 have key:∃ cs,v=.agg cs∧cs.size=P.cellsOf t∧Row.okWide P W .any base t cs:=by
  unfold Value.okWide at h
  split at h
  ·exact h
  ·exact h
  ·rename_i n1 n2
   split at hk
   ·rename_i fs hu;exact absurd hu (n1 fs)
   ·rename_i n e hu;exact absurd hu (n2 n e)
   ·cases hk
 obtain⟨cs,rfl,hsz,ts',ht',-,hall⟩:=key
 rw[hc]at ht';injection ht' with ht';subst ht'
 refine⟨cs.toList,by simp,by simp [hsz,hn],fun i x hx=>?_⟩
 have hi:i<ts.length:=by
  rw[← hn,← hsz]
  have:=(List.getElem?_eq_some_iff.1 hx).1
  simpa using this
 obtain⟨u,hu,ho⟩:=hall i x (by simpa using hx)
 rw[Nat.mod_eq_of_lt hi]at hu
 exact⟨u,hu,ho⟩
end

theorem list2 {α : Type} {l:List α} (h:l.length=2):∃ a b,l = [a,b]:=by
 match l,h with
 | [a,b],_=>exact⟨a,b,rfl⟩
theorem list3 {α : Type} {l:List α} (h:l.length=3):∃ a b c,l = [a,b,c]:=by
 match l,h with
 | [a,b,c],_=>exact⟨a,b,c,rfl⟩
theorem arr2 {α : Type} {l:Array α} (h:l.size=2):∃ a b,l=#[a,b]:=by
 obtain⟨a,b,e⟩:=list2 (l:=l.toList) (by simpa using h)
 exact⟨a,b,by rw[← Array.toArray_toList (xs:=l),e]⟩
theorem ints3_of_ok {P:Program} {W:World} {t:TypeId} {v:Value} {base:Nat} {t0 t1 t2:TypeId} {k0 k1 k2:IntKind} (hk:(match P.underlying t with | some (.struct _) | some (.array _ _)=>true | _=>false)=true)
  (hc:P.cellTypes P.depth t=some [t0,t1,t2]) (hn:P.cellsOf t=3) (h0:P.underlying t0=some (.int k0)) (h1:P.underlying t1=some (.int k1)) (h2:P.underlying t2=some (.int k2))
  (h:Value.okWide P W .any base t v):∃ a b c,v=.agg #[.int k0 a,.int k1 b,.int k2 c]∧k0.has a∧k1.has b∧k2.has c:=by
 obtain⟨l,rfl,hl,hall⟩:=agg_of_ok hk hc hn h
 obtain⟨x,y,z,rfl⟩:=list3 hl
 obtain⟨u0,e0,o0⟩:=hall 0 x rfl
 obtain⟨u1,e1,o1⟩:=hall 1 y rfl
 obtain⟨u2,e2,o2⟩:=hall 2 z rfl
 injection e0 with e0;injection e1 with e1;injection e2 with e2
 subst e0;subst e1;subst e2
 obtain⟨a,rfl,ha⟩:=int_of_ok h0 o0
 obtain⟨b,rfl,hb⟩:=int_of_ok h1 o1
 obtain⟨c,rfl,hc⟩:=int_of_ok h2 o2
 exact⟨a,b,c,rfl,ha,hb,hc⟩

theorem trodAll_nth {H:Type} {enc:TypeId×Value→H} {P:Program} {W:World} {base:Nat} {sp:Nat→Bool} {held:Bool}:∀ (ts:List TypeId) (vs:List Value) (ds:List (DataW H)) (ps:List MemPlace),DataW.TrodAll enc P W base sp held ts vs ds ps →
  ∀ (j:Nat) (t:TypeId) (v:Value),ts[j]? = some t→vs[j]? = some v→∃ d p,DataW.Trod enc P W base sp held t v d p
 | [],vs,ds,ps,_,j,t,v,ht,_=>by simp at ht
 |t0 :: ts,vs,ds,ps,h,j,t,v,ht,hv=>by
  obtain⟨v0,vs',d,ds',p,q,rfl,rfl,rfl,h1,h2⟩:=trodAll_cons h
  cases j with
  |zero=>
   simp only[List.getElem?_cons_zero,Option.some.injEq]at ht hv
   subst ht;subst hv;exact⟨d,p,h1⟩
  |succ j=>
   simp only[List.getElem?_cons_succ]at ht hv
   exact trodAll_nth ts vs' ds' q h2 j t v ht hv
theorem whole_nth {H:Type} {enc:TypeId×Value→H} {P:Program} {W:World} {ts:List TypeId} {vars:List String} {apart:Bool} {vs:List Value} {ds gs:List (DataW H)} {ps:List MemPlace} (h:DataW.Whole enc P ts vars apart W vs ds gs ps)
  {j:Nat} {t:TypeId} {v:Value} (ht:ts[j]? = some t) (hv:vs[j]? = some v):∃ d p,DataW.Trod enc P W 0 (fun _=>true) true t v d p:=by
 obtain⟨p,q,hA,-⟩:=h
 exact trodAll_nth _ _ _ _ hA j t v ht hv
theorem rd_memOf {W:World} {b o:Nat} {v:Value} (h:W.cell? ⟨b,o,none⟩ = some v):rd (memOf W) b o=some v:=by
 unfold World.cell? at h
 unfold rd memOf
 split at h
 ·rename_i c T f e;rw[e];simpa using h
 ·cases h
theorem i64_bd {n:Int} (h:IntKind.i64.has n):-9223372036854775808≤n∧n≤9223372036854775807:=h
end Go.Proofs.YtkjpgikjcfhckaaGreat
namespace Go.Proofs.YtkjpgikjcfhckaaGreat
open Go Go.Ev Go.ChangeShapes Go.WideShapes Go.ChangeAt Go.RowKit

def RowV (h:Hp) (a:Option Addr) (n:Nat) (vs:Nat→Value):Prop:=n=0∨∃ b o,a=some ⟨b,o,none⟩∧∀ i,i<n→rd h b (o+i)=some (vs i)
theorem RowV.sub {h h':Hp} {a:Option Addr} {n:Nat} {vs:Nat→Value} (hr:RowV h a n vs) (hs:Sub h h'):RowV h' a n vs:=by
 rcases hr with hr |⟨b,o,rfl,hr⟩
 ·exact .inl hr
 ·refine .inr ⟨b,o,rfl,fun i hi=>?_⟩
  have:=hr i hi
  unfold rd at this ⊢
  split at this
  ·rename_i c T f e;rw[hs _ _ e];exact this
  ·cases this
theorem RowV.at' {h:Hp} {a:Option Addr} {n:Nat} {vs:Nat→Value} (hr:RowV h a n vs) {i:Nat} (hi:i<n):∃ b o,a=some ⟨b,o,none⟩∧rd h b (o+i)=some (vs i):=by
 rcases hr with hr |⟨b,o,rfl,hr⟩
 ·omega
 ·exact⟨b,o,rfl,hr i hi⟩

end Go.Proofs.YtkjpgikjcfhckaaGreat
namespace Go.Proofs.YtkjpgikjcfhckaaGreat
open Go Go.Ev Go.ChangeShapes Go.WideShapes Go.ChangeAt Go.RowKit

def dv (f:Nat→Nat→Int) (i:Nat):Array Value:=#[.int .i64 (f i 0),.int .i64 (f i 1),.int .i64 (f i 2),.int .u64 (f i 3),.int .u64 (f i 4)]
def RowD (h:Hp) (a:Option Addr) (n:Nat) (f:Nat→Nat→Int):Prop:=n=0∨∃ b o,a=some ⟨b,o,none⟩∧∀ i,i<n→rdn h b (o+i*5) 5=some (dv f i)
theorem rdn_sub {h h':Hp} {b o k:Nat} {v:Array Value} (hr:rdn h b o k=some v) (hs:Sub h h'):rdn h' b o k=some v:=by
 unfold rdn at hr ⊢
 split at hr
 ·rename_i c T f e;rw[hs _ _ e];exact hr
 ·cases hr
theorem RowD.sub {h h':Hp} {a:Option Addr} {n:Nat} {f:Nat→Nat→Int} (hr:RowD h a n f) (hs:Sub h h'):RowD h' a n f:=by
 rcases hr with hr |⟨b,o,rfl,hr⟩
 ·exact .inl hr
 ·exact .inr ⟨b,o,rfl,fun i hi=>rdn_sub (hr i hi) hs⟩
theorem RowD.at' {h:Hp} {a:Option Addr} {n:Nat} {f:Nat→Nat→Int} (hr:RowD h a n f) {i:Nat} (hi:i<n):∃ b o,a=some ⟨b,o,none⟩∧rdn h b (o+i*5) 5=some (dv f i):=by
 rcases hr with hr |⟨b,o,rfl,hr⟩
 ·omega
 ·exact⟨b,o,rfl,hr i hi⟩
end Go.Proofs.YtkjpgikjcfhckaaGreat
namespace Go.Proofs.YtkjpgikjcfhckaaGreat
open Go Go.Ev Go.ChangeShapes Go.WideShapes Go.ChangeAt Go.RowKit Go.Ma

structure Chr where
 k:Int
 c:Int
 o:Go.Ma.Op
 b:Nat
instance:Inhabited Chr:=⟨⟨0,0,⟨0,0,0⟩,0⟩⟩
def cv (x:Chr):Array Value:=#[.int .i64 x.k,.int .i64 x.c,.int .i64 x.o.k,.int .i64 x.o.a,.int .i64 x.o.n,.float .f64 x.b]
def RowC (h:Hp) (a:Option Addr) (n:Nat) (f:Nat→Chr):Prop:=n=0∨∃ b o,a=some ⟨b,o,none⟩∧∀ i,i<n→rdn h b (o+i*6) 6=some (cv (f i))
theorem RowC.sub {h h':Hp} {a:Option Addr} {n:Nat} {f:Nat→Chr} (hr:RowC h a n f) (hs:Sub h h'):RowC h' a n f:=by
 rcases hr with hr |⟨b,o,rfl,hr⟩
 ·exact .inl hr
 ·exact .inr ⟨b,o,rfl,fun i hi=>rdn_sub (hr i hi) hs⟩
theorem RowC.at' {h:Hp} {a:Option Addr} {n:Nat} {f:Nat→Chr} (hr:RowC h a n f) {i:Nat} (hi:i<n):∃ b o,a=some ⟨b,o,none⟩∧rdn h b (o+i*6) 6=some (cv (f i)):=by
 rcases hr with hr |⟨b,o,rfl,hr⟩
 ·omega
 ·exact⟨b,o,rfl,hr i hi⟩
theorem rdn_blk {h:Hp} {b o k:Nat} {v:Array Value} (hr:rdn h b o k=some v):∃ c T f,h b=some (.cells c T f)∧(if o+k≤c.size then some (c.extract o (o+k)) else none)=some v:=by
 unfold rdn at hr
 split at hr
 ·rename_i c T f e;exact⟨c,T,f,e,hr⟩
 ·cases hr
theorem rdn6 {h:Hp} {b o:Nat} {v0 v1 v2 v3 v4 v5:Value} (h0:rd h b (o+0)=some v0) (h1:rd h b (o+1)=some v1) (h2:rd h b (o+2)=some v2) (h3:rd h b (o+3)=some v3) (h4:rd h b (o+4)=some v4) (h5:rd h b (o+5)=some v5):rdn h b o 6=some #[v0,v1,v2,v3,v4,v5]:=by
 unfold rd at h0 h1 h2 h3 h4 h5
 unfold rdn
 split at h0
 ·rename_i c T f e
  simp only[e]at h1 h2 h3 h4 h5 ⊢
  have hsz:o+6≤c.size:=by
   have:=(Array.getElem?_eq_some_iff.1 h5).1;omega
  rw[if_pos hsz]
  congr 1
  apply Array.ext
  ·simp;omega
  ·intro j j1 j2
   have hj:j<6:=by simpa using j2
   simp only[Array.getElem_extract]
   rcases (by omega:j=0∨j=1∨j=2∨j=3∨j=4∨j=5) with rfl | rfl | rfl | rfl | rfl | rfl
   ·exact(Array.getElem?_eq_some_iff.1 h0).2
   ·exact(Array.getElem?_eq_some_iff.1 h1).2
   ·exact(Array.getElem?_eq_some_iff.1 h2).2
   ·exact(Array.getElem?_eq_some_iff.1 h3).2
   ·exact(Array.getElem?_eq_some_iff.1 h4).2
   ·exact(Array.getElem?_eq_some_iff.1 h5).2
 ·cases h0
theorem trod_float {H:Type} {enc:TypeId×Value→H} {P:Program} {w:World} {base:Nat} {spare:Nat→Bool} {held:Bool} {fuel:Nat} {t:TypeId} {cs:List Value} {x:DataW H×List MemPlace} {k:FloatKind} (ht:P.underlying t=some (.float k)) (h:DataW.trod enc P w base spare held fuel t cs=some x):∃ b,cs = [.float k b]:=by
 cases fuel with
 | zero=>simp [DataW.trod]at h
 |succ n=>
  unfold DataW.trod at h
  rw[ht]at h
  split at h<;>simp_all
theorem choices_of {H:Type} {enc:TypeId×Value→H} {P:Program} {W:World} {t e:TypeId} {f0 f1 f2 f3 u0 u1 u2:Field} {base:Nat} {v:Value} {d:DataW H} {p:List MemPlace} (ht:P.underlying t=some (.slice e)) (he:P.underlying e=some (.struct #[f0,f1,f2,f3])) (hc:P.cellsOf e=6)
  (o0:f0.offset=0) (o1:f1.offset=1) (o2:f2.offset=2) (o3:f3.offset=5) (c0:P.cellsOf f0.type=1) (c1:P.cellsOf f1.type=1) (c2:P.cellsOf f2.type=3) (c3:P.cellsOf f3.type=1)
  (k0:P.underlying f0.type=some (.int .i64)) (k1:P.underlying f1.type=some (.int .i64)) (k2:P.underlying f2.type=some (.struct #[u0,u1,u2])) (k3:P.underlying f3.type=some (.float .f64))
  (p0:u0.offset=0) (p1:u1.offset=1) (p2:u2.offset=2) (d0:P.cellsOf u0.type=1) (d1:P.cellsOf u1.type=1) (d2:P.cellsOf u2.type=1)
  (l0:P.underlying u0.type=some (.int .i64)) (l1:P.underlying u1.type=some (.int .i64)) (l2:P.underlying u2.type=some (.int .i64))
  (hv:Value.okWide P W .any base t v) (hd:DataW.Trod enc P W 0 (fun _=>true) true t v d p) :
  ∃ (a:Option Addr) (n cap:Nat) (f:Nat→Chr),v=.slice a n cap∧n≤9223372036854775807∧RowC (memOf W) a n f:=by
 obtain⟨a,n,cap,rfl⟩:=okWide_slice ht hv
 obtain⟨fuel,hf⟩:=hd
 rcases Go.Deep.open_slice ht hf with⟨h1,-⟩|⟨a',len,cap',m,n',D,Pl,h1,hb,hle,hmx,hmm,-,hcell⟩
 ·simp [Value.cells]at h1
  obtain⟨rfl,rfl,rfl⟩:=h1
  exact⟨none,0,0,fun _=>⟨0,0,⟨0,0,0⟩,0⟩,rfl,by decide,.inl rfl⟩
 ·simp [Value.cells]at h1
  obtain⟨rfl,rfl,rfl⟩:=h1
  have hsp:a'.spot=none:=by
   simp only[Value.okWide,ht,Cell.okWide,Cell.ok]at hv
   exact hv.2.2.2.1
  obtain⟨b,o,sp⟩:=a'
  simp only at hsp
  subst hsp
  have hlm:n≤m:=by rw[hmm];split<;>omega
  have each:∀ i,i<n→∃ q:Chr,rdn (memOf W) b (o+i*6) 6=some (cv q):=by
   intro i hi
   obtain⟨cs',g1,g2⟩:=hcell i (by omega)
   rw[hc]at g1
   obtain⟨-,hlen,hcl⟩:=World.cells?_some g1
   obtain⟨xs,k,hk,hxy,-,hxl,hff⟩:=DataW.trod_struct he g2
   match xs,hxl,cs',hlen with
   | [y0,y1,y2,y3],_,[v0,v1,v2,v3,v4,v5],_=>
    have q0:=hff 0 f0 rfl
    have q1:=hff 1 f1 rfl
    have q2:=hff 2 f2 rfl
    have q3:=hff 3 f3 rfl
    simp [o0,o1,o2,o3,c0,c1,c2,c3]at q0 q1 q2 q3
    obtain⟨z0,e0,-⟩:=DataW.trod_int k0 q0
    obtain⟨z1,e1,-⟩:=DataW.trod_int k1 q1
    obtain⟨z5,e5⟩:=trod_float k3 q3
    obtain⟨ys,k',hk',hxy',-,hxl',hgg⟩:=DataW.trod_struct k2 q2
    match ys,hxl' with
    | [w0,w1,w2],_=>
     have r0:=hgg 0 u0 rfl
     have r1:=hgg 1 u1 rfl
     have r2:=hgg 2 u2 rfl
     simp [p0,p1,p2,d0,d1,d2]at r0 r1 r2
     obtain⟨z2,e2,-⟩:=DataW.trod_int l0 r0
     obtain⟨z3,e3,-⟩:=DataW.trod_int l1 r1
     obtain⟨z4,e4,-⟩:=DataW.trod_int l2 r2
     simp only[List.cons.injEq,and_true]at e0 e1 e2 e3 e4 e5
     subst e0;subst e1;subst e2;subst e3;subst e4;subst e5
     have r:∀ j,j<6→∀ v,[Value.int .i64 z0,.int .i64 z1,.int .i64 z2,.int .i64 z3,.int .i64 z4,.float .f64 z5][j]? = some v→rd (memOf W) b (o+i*6+j)=some v:=fun j hj v hv=>by
      have:=hcl j hj
      rw[Go.Deep.add_add,Addr_add,hv]at this
      rw[Nat.add_assoc]
      exact rd_memOf this
     exact⟨⟨z0,z1,⟨z2,z3,z4⟩,z5⟩,rdn6 (r 0 (by decide) _ rfl) (r 1 (by decide) _ rfl) (r 2 (by decide) _ rfl) (r 3 (by decide) _ rfl) (r 4 (by decide) _ rfl) (r 5 (by decide) _ rfl)⟩
  obtain⟨q,hq⟩:=Go.Deep.choose_lt each
  refine⟨_,n,cap,q,rfl,?_,.inr ⟨b,o,rfl,fun i hi=>hq i hi⟩⟩
  have:maxLen≤9223372036854775807:=by decide
  omega
end Go.Proofs.YtkjpgikjcfhckaaGreat
