/-
 A client's stack: at most one frame. Conditions: none.
-/
import Derived.Test.YtkjpgikjcfhckaaGreatCodeX
import Derived.Test.YtkjpgikjcfhckaaGreatCode
import Derived.Test.YtkjpgikjcfhckaaGreatSimp
import Derived.Test.YtkjpgikjcfhckaaGreatGrowN
import Derived.Test.YtkjpgikjcfhckaaGreatPl
open Nat renaming reduceAdd→xA,reduceMul→xB,reduceSub→xC,reduceEqDiff→xD,reduceBEq→xE,reduceLeDiff→xF,reduceLT→xG
open Int renaming reduceAdd→xH,reduceMul→xI,reduceSub→xJ,reduceLT→xK,reduceLE→xL,reduceToNat→xM,reduceEq→xN,reduceNe→xO,reduceBEq→xP,reduceBNe→xQ
set_option linter.unusedVariables false
set_option linter.unusedSectionVars false
set_option linter.unusedSimpArgs false
set_option maxRecDepth 8000
namespace Go.Proofs.YtkjpgikjcfhckaaGreat
open Go Go.Ev Go.Pl
def fkC (v:Value):Array Value:=#[v,.int .i64 1]
inductive FkP (k:Nat):Bool→Hp→Hp→Prop
 | off:FkP k false (sg k (.cells (fkC (.slice none 0 0)) 174 (0,0))) (fun _=>none)
 | on (z cap:Nat) (c:Array Value) (h:10≤c.size):FkP k true (sg k (.cells (fkC (.slice (some ⟨z,0,none⟩) 1 cap)) 174 (0,0))) (sg z (.cells c 177 (0,0)))
section
variable {W:World} {H a f:Hp} {k:Nat} {l:List Hp} {b:Bool}
theorem c_fknew (hS:Sep l H):CallP Tryz.prog W 106 #[.int .i64 1] H fun v H'=>∃ k a f,v=.pointer (some ⟨k,0,none⟩)∧FkP k false a f∧Sep (a :: f :: l) H':=by
 refine CallP.of mixed Tryz.func106 tr106 (by show 1≤_;decide) fun W _=>?_
 simp only[↓DD,UU,xA,xE,xK]
 refine newB_intro fun k hk f1 f2=>?_
 exact⟨k,_,_,rfl,.off,(hS.nothing.new f1 _)⟩
theorem c_fkdepth (hp:FkP k b a f) (hS:Sep (a :: f :: l) H):CallP Tryz.prog W 111 #[.pointer (some ⟨k,0,none⟩)] H fun v H'=>v=.int .i64 (if b then 1 else 0)∧Sep (a :: f :: l) H':=by
 refine CallP.of mixed Tryz.func111 tr111 (by show 1≤_;decide) fun W _=>?_
 cases hp with
 |off=>
  have hk:=hS.look
  have r0:=fun o=>rd_of hk o
  simp only[r0,fkC,↓DD,UU,↓reduceIte,xE]
  exact hS
 |on z cap c hc=>
  have hk:=hS.look
  have r0:=fun o=>rd_of hk o
  simp only[r0,fkC,↓DD,UU,↓reduceIte,xE]
  exact hS
theorem c_fkclear (hp:FkP k b a f) (hS:Sep (a :: f :: l) H):CallP Tryz.prog W 114 #[.pointer (some ⟨k,0,none⟩)] H fun v H'=>v=.tuple #[]∧∃ a f,FkP k false a f∧Sep (a :: f :: l) H':=by
 refine CallP.of mixed Tryz.func114 tr114 (by show 1≤_;decide) fun W _=>?_
 cases hp with
 |off=>
  have hk:=hS.look
  have r0:=fun o=>rd_of hk o
  simp only[hk,fkC,↓DD,UU,↓reduceIte,xA,xE,xG]
  exact⟨_,_,.off,hS.set _⟩
 |on z cap c hc=>
  have hk:=hS.look
  have r0:=fun o=>rd_of hk o
  simp only[hk,fkC,↓DD,UU,↓reduceIte,xA,xE,xG]
  exact⟨_,_,.off,(hS.set (.cells (fkC (.slice none 0 0)) 174 (0,0))).p1.tail.nothing.p1⟩
theorem c_fktop (hp:FkP k true a f) (hS:Sep (a :: f :: l) H):CallP Tryz.prog W 125 #[.pointer (some ⟨k,0,none⟩)] H fun v H'=>∃ z cap c,v=.pointer (some ⟨z,0,none⟩)∧10≤c.size∧a=sg k (.cells (fkC (.slice (some ⟨z,0,none⟩) 1 cap)) 174 (0,0))∧f=sg z (.cells c 177 (0,0))∧Sep (a :: f :: l) H':=by
 refine CallP.of mixed Tryz.func125 tr125 (by show 1≤_;decide) fun W _=>?_
 simp only[↓DD,UU,xE]
 refine callT_of (c_fkdepth hp hS) ?_
 rintro v H' ⟨rfl,hS⟩
 cases hp with
 |on z cap c hc=>
  have hk:=hS.look
  have r0:=fun o=>rd_of hk o
  have w0:w64 0=0:=by decide
  simp only[r0,fkC,wrap_w64,w0,↓DD,UU,↓reduceIte,xB,xE,xJ,xK,xL,xM,xP]
  exact⟨z,cap,c,rfl,hc,rfl,rfl,hS⟩
theorem c_fkgo {n:Int} (hp:FkP k true a f) (hS:Sep (a :: f :: l) H):CallP Tryz.prog W 109 #[.pointer (some ⟨k,0,none⟩),.int .i64 n] H fun v H'=>v=.bool true∧∃ a f,FkP k true a f∧Sep (a :: f :: l) H':=by
 refine CallP.of mixed Tryz.func109 tr109 (by show 2≤_;decide) fun W _=>?_
 simp only[↓DD,UU,xA,xE]
 refine callT_of (c_fktop hp hS) ?_
 rintro v H' ⟨z,cap,c,rfl,hc,rfl,rfl,hS⟩
 have hz:=hS.lk 1 rfl
 have h1:1<c.size:=by omega
 simp only[hz,h1,↓DD,UU,↓reduceIte,xA,xE]
 exact⟨_,_,.on z cap _ (by simpa using hc),(hS.p1.set _).p1⟩
theorem c_fkpush {cd x y':Int} {r:Nat} {T:TypeId} (hp:FkP k false a f) (hS:Sep (a :: f :: sg r (.cells #[.int .i64 x,.int .i64 y'] T (0,0)) :: l) H) :
  CallP Tryz.prog W 87 #[.pointer (some ⟨k,0,none⟩),.int .i64 cd,.slice (some ⟨r,0,none⟩) 2 2] H fun v H'=>v=.bool true∧∃ a f,FkP k true a f∧Sep (a :: f :: sg r (.cells #[.int .i64 x,.int .i64 y'] T (0,0)) :: l) H':=by
 refine CallP.of mixed Tryz.func87 tr87 (by show 3≤_;decide) fun W _=>?_
 cases hp with
 | off=>
 have hk:=hS.look
 have r0:=fun o=>rd_of hk o
 have hr:=hS.lk 2 rfl
 have r1:=fun o n=>rdn_of hr o n
 simp only[r0,fkC,↓DD,UU,↓reduceIte,xA,xE,xK,xL]
 refine newB_intro fun y hy f1 f2=>?_
 simp only[↓DD,UU,xA,xE,xF]
 have nyr:r≠y:=fun e=>by have:=f1 r (by rw[hr];rfl);rw[e]at this;simp at this
 have nky:(k=y)=False:=f1 k (by rw[hk];rfl)
 have nyk:(y=k)=False:=f2 k (by rw[hk];rfl)
 have hrd:∀ o:Obj,rds (upd H y o) (some ⟨r,0,none⟩) 2=some #[.int .i64 x,.int .i64 y']:=fun o=>by
  show rdn (upd H y o) r 0 2=_
  rw[rdn_of (by rw[upd_ne _ _ nyr];exact hr)];rfl
 have m2:Nat.min 2 8=2:=rfl
 simp only[m2,hrd,Ev.upd_upd,UU]
 unfold stow
 rw[if_neg (by simp)]
 show onCells (upd H y _ y) _
 rw[upd_same]
 refine⟨by show 2+0+2≤10;decide,by simp;exact⟨rfl,rfl⟩,?_⟩
 have hS:=hS.new f1 (.cells #[.int .i64 cd,.int .i64 0,.int .i64 x,.int .i64 y',.int .i64 0,.int .i64 0,.int .i64 0,.int .i64 0,.int .i64 0,.int .i64 0] 177 (0,0))
 have e:setN #[.int .i64 cd,.int .i64 0,.int .i64 0,.int .i64 0,.int .i64 0,.int .i64 0,.int .i64 0,.int .i64 0,.int .i64 0,.int .i64 0] (2+0) #[Value.int .i64 x,.int .i64 y'].toList=#[.int .i64 cd,.int .i64 0,.int .i64 x,.int .i64 y',.int .i64 0,.int .i64 0,.int .i64 0,.int .i64 0,.int .i64 0,.int .i64 0]:=rfl
 rw[e]
 have hy1:=hS.look
 have ry:=fun o n=>rdn_of hy1 o n
 have hk1:=hS.lk 1 rfl
 have rk:=fun o=>rd_of hk1 o
 simp only[Ev.upd_upd,↓DD,UU,xA]
 refine draw_intro [(k,fkC (.slice none 0 0),[]),(y,#[.int .i64 cd,.int .i64 0,.int .i64 x,.int .i64 y',.int .i64 0,.int .i64 0,.int .i64 0,.int .i64 0,.int .i64 0,.int .i64 0],[])] (by simp only[hk1,hy1,fkC,↓DD,UU]) ?_
 simp only[ry,rk,nyk,fkC,↓DD,UU,↓reduceIte,xA,xB,xC,xE,xF]
 refine newB_intro fun z hz f3 f4=>?_
 have nkz:(k=z)=False:=f3 k (by rw[hk1];rfl)
 have nyz:(y=z)=False:=f3 y (by rw[hy1];rfl)
 have nzk:(z=k)=False:=f4 k (by rw[hk1];rfl)
 have nzy:(z=y)=False:=f4 y (by rw[hy1];rfl)
 simp only[hy1,hk1,nkz,nyz,fkC,↓DD,UU,↓reduceIte,xA,xB,xE]
 have hS:=hS.new f3 (.cells #[.int .i64 cd,.int .i64 0,.int .i64 x,.int .i64 y',.int .i64 0,.int .i64 0,.int .i64 0,.int .i64 0,.int .i64 0,.int .i64 0] 177 (0,0))
 have hz:=hS.look
 have hr2:rds _ (some ⟨z,0,none⟩) 10=some #[.int .i64 cd,.int .i64 0,.int .i64 x,.int .i64 y',.int .i64 0,.int .i64 0,.int .i64 0,.int .i64 0,.int .i64 0,.int .i64 0]:=(show rdn _ z 0 10=some _ by rw[rdn_of hz];rfl)
 rw[hr2,onSome_mk,if_neg (by decide)]
 have hc:=nextslicecap_le (need:=1) (old:=0) (by omega)
 refine⟨by omega,by omega,?_⟩
 rw[show ∀ G:Hp,rds G none 0=some #[] from fun G=>rfl]
 intro cap hcap
 refine newB_intro fun q hq f5 f6=>?_
 have hk1:=hS.lk 2 rfl
 have hy1:=hS.lk 1 rfl
 have nkq:(k=q)=False:=f5 k (by rw[hk1];rfl)
 have nqk:(q=k)=False:=f6 k (by rw[hk1];rfl)
 have nyq:(y=q)=False:=f5 y (by rw[hy1];rfl)
 have hS:=hS.new f5 (.cells (#[] ++ #[.int .i64 cd,.int .i64 0,.int .i64 x,.int .i64 y',.int .i64 0,.int .i64 0,.int .i64 0,.int .i64 0,.int .i64 0,.int .i64 0] ++ Builtin.zeroCells #[.int .i64 0,.int .i64 0,.int .i64 0,.int .i64 0,.int .i64 0,.int .i64 0,.int .i64 0,.int .i64 0,.int .i64 0,.int .i64 0] (cap - 1)) 177 (0,0))
 have hsz:10≤(#[] ++ #[Value.int .i64 cd,Value.int .i64 0,Value.int .i64 x,Value.int .i64 y',Value.int .i64 0,Value.int .i64 0,Value.int .i64 0,Value.int .i64 0,Value.int .i64 0,Value.int .i64 0] ++ Builtin.zeroCells #[Value.int .i64 0,Value.int .i64 0,Value.int .i64 0,Value.int .i64 0,Value.int .i64 0,Value.int .i64 0,Value.int .i64 0,Value.int .i64 0,Value.int .i64 0,Value.int .i64 0] (cap - 1)).size:=by
  rw[Array.size_append,Array.size_append];show 10≤0+10+_;omega
 generalize (#[] ++ #[Value.int .i64 cd,Value.int .i64 0,Value.int .i64 x,Value.int .i64 y',Value.int .i64 0,Value.int .i64 0,Value.int .i64 0,Value.int .i64 0,Value.int .i64 0,Value.int .i64 0] ++ Builtin.zeroCells #[Value.int .i64 0,Value.int .i64 0,Value.int .i64 0,Value.int .i64 0,Value.int .i64 0,Value.int .i64 0,Value.int .i64 0,Value.int .i64 0,Value.int .i64 0,Value.int .i64 0] (cap - 1))=C at *
 have hk1:=hS.lk 3 rfl
 have hy1:=hS.lk 2 rfl
 simp only[hy1,hk1,fkC,↓DD,UU,xA,xE,xG]
 exact⟨_,_,.on q cap C hsz,(hS.p3.set (.cells (fkC (.slice (some ⟨q,0,none⟩) 1 cap)) 174 (0,0))).p2.tail.p2.tail.p2.tail⟩
end
end Go.Proofs.YtkjpgikjcfhckaaGreat
