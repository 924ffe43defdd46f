/-
 The program's client: made, asked, stepped. Conditions: none.
-/
import Derived.Test.YtkjpgikjcfhckaaGreatCodeX
import Derived.Test.YtkjpgikjcfhckaaGreatJob
import Derived.Test.YtkjpgikjcfhckaaGreatStk
import Derived.Test.YtkjpgikjcfhckaaGreatShr
import Derived.Test.YtkjpgikjcfhckaaGreatGuard
import Derived.Test.YtkjpgikjcfhckaaGreatCap
open Nat renaming reduceAdd→xA,reduceMul→xB,reduceSub→xC,reduceEqDiff→xD,reduceBEq→xE,reduceLeDiff→xF,reduceLT→xG
open Int renaming reduceAdd→xH,reduceMul→xI,reduceSub→xJ,reduceLT→xK,reduceLE→xL,reduceToNat→xM,reduceEq→xN,reduceNe→xO,reduceBEq→xP,reduceBNe→xQ
set_option linter.unusedVariables false
set_option linter.unusedSectionVars false
set_option linter.unusedSimpArgs false
set_option maxRecDepth 8000
namespace Go.Proofs.YtkjpgikjcfhckaaGreat
open Go Go.Ev Go.Pl Go.Ma
def klC (x:Cl) (jv:Value) (ks:Nat):Array Value:=#[.int .i64 x.s.p,.int .i64 x.s.c,.int .i64 x.s.m,.int .i64 x.c,.int .i64 x.f,.int .i64 x.o.k,.int .i64 x.o.a,.int .i64 x.o.n,jv,.bool (!x.busy),.bool x.told,.pointer (some ⟨ks,0,none⟩),.int .i64 x.st]
def klB (k:Nat) (c:Array Value):Hp:=sg k (.cells c 149 (0,0))
inductive ClP (k:Nat) (x:Cl):List Hp→Prop
 | mk (jv:Value) (ks:Nat) (a f:Hp) (J:List Hp) (hs:FkP ks x.busy a f) (hj:JobP x.s x.c x.j jv J):ClP k x (klB k (klC x jv ks) :: a :: f :: J)
def evV (e:Evt):List Value:=[.int .i64 e.k,.int .i64 e.c,.int .i64 e.o.k,.int .i64 e.o.a,.int .i64 e.o.n,.int .i64 e.at',.int .i64 e.n,.int .i64 e.e]
def EvR (a:Option Addr) (cap:Nat) (l:List Evt) (g:Hp):Prop:=Rw 58 8 a l.length cap (l.flatMap evV) g
section
variable {W:World} {H a f:Hp} {l J:List Hp} {k ks b s:Nat} {x:Cl} {jv:Value} {w:Wd} {o:Go.Ma.Op}
theorem c_rests (hs:FkP ks x.busy a f) (hS:Sep (klB k (klC x jv ks) :: a :: f :: l) H) :
  CallP Tryz.prog W 86 #[.pointer (some ⟨k,0,none⟩)] H fun v H'=>v=.bool (!x.busy)∧Sep (klB k (klC x jv ks) :: a :: f :: l) H':=by
 refine CallP.of mixed Tryz.func86 tr86 (by show 1≤_;decide) fun W _=>?_
 obtain⟨s,c,f',o,j,busy,told,st⟩:=x
 have hk:=hS.look
 have r0:=fun o=>rd_of hk o
 cases busy
 ·simp only[r0,klC,↓DD,UU,xE]
  exact hS
 ·simp only[r0,klC,↓DD,UU,xE]
  refine callT_of (c_fkdepth hs (hS.sel 3 [1,2,0] (by decide) (by decide))) ?_
  rintro v H' ⟨rfl,hS⟩
  simp only[↓DD,UU,↓reduceIte,xE,xP]
  exact hS.sel 3 [2,0,1] (by decide) (by decide)
theorem c_answer {e at':Int} (hs:FkP ks x.busy a f) (hS:Sep (klB k (klC x jv ks) :: a :: f :: l) H) :
  CallP Tryz.prog W 89 #[.pointer (some ⟨k,0,none⟩),.int .i64 e,.int .i64 at'] H fun v H'=>v=.agg (evV (x.ans e at')).toArray∧∃ a f,FkP ks false a f∧Sep (klB k (klC x.rest .nilIface ks) :: a :: f :: l) H':=by
 refine CallP.of mixed Tryz.func89 tr89 (by show 3≤_;decide) fun W _=>?_
 obtain⟨s,c,f',o,j,busy,told,st⟩:=x
 simp only[↓DD,UU]
 refine newB_intro fun y hy f1 f2=>?_
 have hk:=hS.look
 have nky:(k=y)=False:=f1 k (by rw[hk];rfl)
 have nyk:(y=k)=False:=f2 k (by rw[hk];rfl)
 have hS:=(hS.new f1 (.cells #[.int .i64 0,.int .i64 0,.int .i64 0,.int .i64 0,.int .i64 0,.int .i64 0,.int .i64 0,.int .i64 0] 58 (0,0))).p1.set (.cells (klC (Cl.rest ⟨s,c,f',o,j,busy,told,st⟩) .nilIface ks) 149 (0,0))
 have hk1:=hS.look
 have r1:=fun o=>rd_of hk1 o
 simp only[hk,nky,klC,Cl.rest,Ev.upd_upd,↓DD,UU,↓reduceIte,xA,xE,xG]
 refine callT_of (c_fkclear hs (hS.sel 4 [2,3,0,1] (by decide) (by decide))) ?_
 rintro v H' ⟨rfl,a',f2',hs',hS⟩
 have hk:=hS.lk 2 rfl
 have r0:=fun o=>rd_of hk o
 have r2:=fun o n=>rdn_of hk o n
 have hy1:=hS.lk 3 rfl
 have ry:=fun o n=>rdn_of hy1 o n
 simp only[↓DD,UU,xA]
 refine draw_intro [(k,klC (Cl.rest ⟨s,c,f',o,j,busy,told,st⟩) .nilIface ks,[])] (by simp only[hk,↓DD,UU]) ?_
 have hS:=hS.p3.set (.cells (evV (Cl.ans ⟨s,c,f',o,j,busy,told,st⟩ e at')).toArray 58 (0,0))
 have hy2:=hS.look
 have ry:=fun o n=>rdn_of hy2 o n
 unfold evV Cl.ans at hS hy2 ry
 simp only[r0,r2,hy1,ry,klC,Cl.rest,↓DD,UU,↓reduceIte,xA,xC,xE,xF]
 exact⟨rfl,a',f2',hs',hS.sel 4 [3,1,2] (by decide) (by decide)⟩
theorem c_start (hS:Sep (klB k (klC x jv ks) :: l) H) :
  CallP Tryz.prog W 90 #[.pointer (some ⟨k,0,none⟩)] H fun v H'=>∃ J,JobP x.s x.c (Cl.start x.s x.c x.f x.o) v J∧Sep (J ++ klB k (klC x jv ks) :: l) H':=by
 refine CallP.of mixed Tryz.func90 tr90 (by show 1≤_;decide) fun W _=>?_
 have hk:=hS.look
 have r0:=fun o=>rd_of hk o
 have r1:=fun o n=>rdn_of hk o n
 unfold Cl.start
 by_cases h1:x.o.k=1
 ·rw[if_pos h1]
  have g1:(x.o.k == 1)=true:=by rw[h1];rfl
  simp only[r0,klC,g1,↓DD,UU,xE]
  refine draw_intro [(k,klC x jv ks,[])] (by simp only[hk,klC,↓DD,UU]) ?_
  simp only[r0,r1,klC,↓DD,UU,↓reduceIte,xA,xC,xE,xF]
  refine callT_of (c_rvnew (sh:=x.s) (c:=x.c) (n:=x.o.n) (f:=x.f) hS) ?_
  rintro v H' ⟨kr,k2,kn,rfl,hS⟩
  have hk1:=hS.lk 3 rfl
  simp only[hk1,klC,↓DD,UU,xA,xE]
  refine newB_intro fun y hy f1 f2=>?_
  have nky:(k=y)=False:=f1 k (by rw[hk1];rfl)
  have hS:=hS.new f1 (.cells (mlC x.s x.c kr 0 none) 183 (0,0))
  simp only[hk1,nky,klC,↓DD,UU,↓reduceIte]
  exact⟨_,.ml y kr k2 kn 0 _ none,(hS.nothing).sel 6 [1,2,3,4,0,5] (by decide) (by decide)⟩
 rw[if_neg h1]
 have g1:(x.o.k == 1)=false:=by simpa using h1
 by_cases h2:x.o.k=2
 ·rw[if_pos h2]
  have g2:(x.o.k == 2)=true:=by rw[h2];rfl
  simp only[r0,klC,g1,g2,↓DD,UU,xE]
  refine draw_intro [(k,klC x jv ks,[])] (by simp only[hk,klC,↓DD,UU]) ?_
  simp only[r0,r1,klC,↓DD,UU,↓reduceIte,xA,xC,xE,xF]
  refine callT_of (c_gvnew (sh:=x.s) (c:=x.c) (a:=x.o.a) hS) ?_
  rintro v H' ⟨kg,rfl,hS⟩
  have hk1:=hS.lk 1 rfl
  simp only[hk1,klC,↓DD,UU]
  exact⟨_,.fr kg 0 _,hS.nothing.p1⟩
 rw[if_neg h2]
 have g2:(x.o.k == 2)=false:=by simpa using h2
 by_cases h3:x.o.k=3
 ·rw[if_pos h3]
  have g3:(x.o.k == 3)=true:=by rw[h3];rfl
  simp only[r0,klC,g1,g2,g3,↓DD,UU,xE]
  refine draw_intro [(k,klC x jv ks,[])] (by simp only[hk,klC,↓DD,UU]) ?_
  simp only[r0,r1,klC,↓DD,UU,↓reduceIte,xA,xC,xE,xF]
  refine callT_of (c_renew (sh:=x.s) (c:=x.c) (a:=x.o.a) (n:=x.o.n) (f:=x.f) hS) ?_
  rintro v H' ⟨q,kr,k2,kn,kg,kp,km,rfl,hS⟩
  have hk1:H' k=_:=hS.outL.look
  simp only[hk1,klC,↓DD,UU]
  exact⟨_,.ag q kr k2 kn kg kp km _,hS⟩
 rw[if_neg h3]
 have g3:(x.o.k == 3)=false:=by simpa using h3
 simp only[r0,klC,g1,g2,g3,↓DD,UU,xE]
 refine draw_intro [(k,klC x jv ks,[])] (by simp only[hk,klC,↓DD,UU]) ?_
 simp only[r0,r1,klC,↓DD,UU,↓reduceIte,xA,xC,xE,xF]
 refine callT_of (c_adnew (sh:=x.s) (c:=x.c) (d:=x.o.a) hS) ?_
 rintro v H' ⟨q,rfl,hS⟩
 have hk1:=hS.lk 1 rfl
 simp only[hk1,klC,↓DD,UU]
 exact⟨_,.hr q _,hS⟩
theorem ev_one (e:Nat) (x:Evt):EvR (some ⟨e,0,none⟩) 1 [x] (sg e (.cells (evV x).toArray 58 (0,0))):=by
 refine⟨rfl,.inr ⟨e,_,rfl,rfl,Nat.le_refl _,Nat.le_refl _,?_⟩⟩
 simp [evV]
theorem ev_more {g:Hp} {a:Option Addr} {cap:Nat} {es:List Evt} {e:Evt} (Q:Value→Hp→Prop) {n n1 n8:Nat} (hG:EvR a cap es g) (hn:es.length=n) (h1:n1=n+1) (h8:n8=n*8) (hb:n1≤100000) (hS:Sep (g :: l) H)
  (hQ:∀ a' cap' g' H',EvR a' cap' (es ++ [e]) g'→Sep (g' :: l) H'→Q (.slice a' n1 cap') H') :
  if n1≤cap then stow H a n8 (evV e).toArray fun H'=>Q (.slice a n1 cap) H'
  else Builtin.nextslicecap n1 cap*64≤281474976710656∧n1≤9223372036854775807∧onSome (rds H a n8) fun old=>allCap n1 fun cap=>newB W H fun b=>Q (.slice (some ⟨b,0,none⟩) n1 cap) (upd H b (.cells (old ++ (evV e).toArray ++ Builtin.zeroCells #[.int .i64 0,.int .i64 0,.int .i64 0,.int .i64 0,.int .i64 0,.int .i64 0,.int .i64 0,.int .i64 0] (cap - n1)) 58 (0,0))):=by
 subst hn h1 h8
 exact growN (m:=1) hG rfl (by simp [evV,Value.oneCell']) rfl (by omega) (by decide) hS fun a' cap' g' H' h1 h2=>hQ a' cap' g' H' ⟨by simpa using h1.1,by have:=h1.2;simpa [EvR] using this⟩ h2
theorem JobP.one {sh:Sh} {c:Int} {j:Job} (h:JobP sh c j jv J):jv.oneCell'=true:=by cases h<;>rfl
theorem c_invoke {P:List Hp} (hx:x.wf) (hP:ClP k x P) (hS:Sep (P ++ l) H) :
  CallP Tryz.prog W 43 #[.pointer (some ⟨k,0,none⟩),.agg #[.int .i64 o.k,.int .i64 o.a,.int .i64 o.n]] H fun v H'=>∃ a cap g P',v=.tuple #[.slice a (x.invoke o).2.1.length cap,.int .i64 (x.invoke o).2.2]∧EvR a cap (x.invoke o).2.1 g∧ClP k (x.invoke o).1 P'∧Sep (g :: (P' ++ l)) H':=by
 refine CallP.of mixed Tryz.func43 tr43 (by show 2≤_;decide) fun W _=>?_
 obtain⟨jv,ks,a,f,J,hs,hj⟩:=hP
 have hS:Sep (klB k (klC x jv ks) :: a :: f :: (J ++ l)) H:=hS
 unfold Cl.invoke
 simp only[↓DD,UU,xA,xE]
 refine newB_intro fun y hy f1 f2=>?_
 have hk:=hS.look
 have nky:(k=y)=False:=f1 k (by rw[hk];rfl)
 have nyk:(y=k)=False:=f2 k (by rw[hk];rfl)
 have hS:=hS.new f1 (.cells #[.int .i64 o.k,.int .i64 o.a,.int .i64 o.n] 34 (0,0))
 simp only[↓DD,UU,↓reduceIte,xA,xE]
 refine callT_of (c_rests hs (hS.sel 4 [1,2,3,0] (by decide) (by decide))) ?_
 rintro v H' ⟨rfl,hS⟩
 have hk:=hS.look
 have hy1:=hS.lk 3 rfl
 have r0:=fun o=>rd_of hk o
 have ry:=fun o=>rd_of hy1 o
 have rz:=fun o n=>rdn_of hy1 o n
 cases hb:x.busy
 rotate_left
 ·rw[if_pos rfl]
  simp only[↓DD,UU,xA,xE]
  exact⟨none,0,_,_,rfl,Rw.none _ _,.mk jv ks a f J hs hj,(hS.sel 4 [0,1,2] (by decide) (by decide)).nothing⟩
 rw[if_neg (by decide)]
 by_cases h1:o.k<1∨4<o.k
 ·rw[if_pos h1]
  have:(decide (o.k<1) || decide (4<o.k))=true:=by simpa using h1
  by_cases h2:o.k<1
  ·simp only[ry,h2,↓DD,UU,xA,xE]
   exact⟨none,0,_,_,rfl,Rw.none _ _,.mk jv ks a f J hs hj,(hS.sel 4 [0,1,2] (by decide) (by decide)).nothing⟩
  ·have h3:4<o.k:=by omega
   simp only[ry,h2,h3,↓DD,UU,xA,xE]
   exact⟨none,0,_,_,rfl,Rw.none _ _,.mk jv ks a f J hs hj,(hS.sel 4 [0,1,2] (by decide) (by decide)).nothing⟩
 rw[if_neg h1]
 have g1:decide (o.k<1)=false:=decide_eq_false (by omega)
 have g2:decide (4<o.k)=false:=decide_eq_false (by omega)
 simp only[hk,ry,rz,g1,g2,klC,Ev.upd_upd,↓DD,UU,↓reduceIte,xA,xC,xE,xF,xG]
 have hS:=hS.set (.cells (klC ⟨x.s,x.c,x.f,o,x.j,true,false,0⟩ jv ks) 149 (0,0))
 show mwp Tryz.prog W _ _ _ (upd H' k (.cells (klC ⟨x.s,x.c,x.f,o,x.j,true,false,0⟩ jv ks) 149 (0,0)))
 generalize upd H' k (.cells (klC ⟨x.s,x.c,x.f,o,x.j,true,false,0⟩ jv ks) 149 (0,0))=H2 at hS ⊢
 have hk:=hS.look
 have hy1:=hS.lk 3 rfl
 have r0:=fun o=>rd_of hk o
 have ry:=fun o=>rd_of hy1 o
 have rz:=fun o n=>rdn_of hy1 o n
 refine draw_intro [(k,klC ⟨x.s,x.c,x.f,o,x.j,true,false,0⟩ jv ks,[]),(y,#[.int .i64 o.k,.int .i64 o.a,.int .i64 o.n],[])] (by simp only[hk,hy1,klC,↓DD,UU]) ?_
 simp only[ry,r0,nyk,klC,↓DD,UU,↓reduceIte,xA,xE]
 refine newB_intro fun r hr f3 f4=>?_
 have nkr:(k=r)=False:=f3 k (by rw[hk];rfl)
 have nyr:(y=r)=False:=f3 y (by rw[hy1];rfl)
 have hS:=hS.new f3 (.cells #[.int .i64 o.a,.int .i64 o.n] 2 (0,0))
 rw[hb]at hs
 simp only[hk,hy1,nkr,nyr,klC,↓DD,UU,↓reduceIte,xE]
 refine callT_of (c_fkpush hs (hS.sel 5 [2,3,0,1,4] (by decide) (by decide))) ?_
 rintro v H' ⟨rfl,a',f',hs',hS⟩
 have hk:=hS.lk 3 rfl
 have hy1:=hS.lk 4 rfl
 have r0:=fun o=>rd_of hk o
 have ry:=fun o=>rd_of hy1 o
 have rz:=fun o n=>rdn_of hy1 o n
 have r1:=fun o n=>rdn_of hk o n
 simp only[↓DD]
 refine draw_intro [(k,klC ⟨x.s,x.c,x.f,o,x.j,true,false,0⟩ jv ks,[]),(y,#[.int .i64 o.k,.int .i64 o.a,.int .i64 o.n],[])] (by simp only[hk,hy1,klC,↓DD,UU]) ?_
 simp only[r0,rz,nyk,klC,↓DD,UU,↓reduceIte,xA,xB,xC,xE,xF]
 refine newB_intro fun e he f5 f6=>?_
 have nke:(k=e)=False:=f5 k (by rw[hk];rfl)
 have nye:(y=e)=False:=f5 y (by rw[hy1];rfl)
 have nek:(e=k)=False:=f6 k (by rw[hk];rfl)
 have ney:(e=y)=False:=f6 y (by rw[hy1];rfl)
 have hS:=hS.new f5 (.cells (evV ⟨2,x.c,o,0,0,0⟩).toArray 58 (0,0))
 have hS:=hS.sel 6 [0,4,1,2,5] (by decide) (by decide)
 have eo:o.once x.s x.c=atonce x.s.p x.s.c x.s.m x.c o.k o.a o.n:=rfl
 have ee:o.err x.s x.c=errno x.s.p x.s.c x.s.m x.c o.k o.a o.n:=rfl
 rw[eo,ee]
 cases hat:atonce x.s.p x.s.c x.s.m x.c o.k o.a o.n
 ·rw[if_neg (by decide)]
  simp only[hk,hy1,nke,nye,r0,r1,rz,v_atonce,hat,klC,↓DD,UU,↓reduceIte,xA,xC,xE,xF]
  refine callT_of (c_start (x:=⟨x.s,x.c,x.f,o,x.j,true,false,0⟩) (jv:=jv) (ks:=ks) (hS.sel 5 [1,2,3,0] (by decide) (by decide))) ?_
  rintro v H' ⟨J',hj',hS⟩
  have hS:=hS.outL
  have hk:=hS.look
  simp only[hk,klC,↓DD,UU,xA,xE,xG]
  have hS:=Sep.over (X:=klB k (klC ⟨x.s,x.c,x.f,o,Cl.start x.s x.c x.f o,true,false,0⟩ v ks) :: J') (L:=[_,_,_]) (hS.set (.cells (klC ⟨x.s,x.c,x.f,o,Cl.start x.s x.c x.f o,true,false,0⟩ v ks) 149 (0,0)))
  have hS:Sep ((_ :: _ :: _ :: _ :: J') ++ (J ++ l)) _:=hS.sel 4 [2,3,0,1] (by decide) (by decide)
  exact⟨hj'.one,_,_,_,_,rfl,ev_one e _,.mk v ks a' f' J' hs' hj',hS.over.dropF⟩
 ·rw[if_pos rfl]
  simp only[hk,hy1,nke,nye,r0,r1,rz,v_atonce,hat,klC,↓DD,UU,↓reduceIte,xA,xC,xE,xF]
  refine callT_of (c_answer (x:=⟨x.s,x.c,x.f,o,x.j,true,false,0⟩) hs' (hS.sel 5 [1,2,3,0] (by decide) (by decide))) ?_
  rintro v H' ⟨rfl,a2,f2',hs2,hS⟩
  simp only[evV,Cl.ans,↓DD,UU,xA,xB]
  refine newB_intro fun z hz f7 f8=>?_
  have hk:=hS.look
  have he1:=hS.lk 3 rfl
  have nez:(e=z)=False:=f7 e (by rw[he1];rfl)
  have nze:(z=e)=False:=f8 e (by rw[he1];rfl)
  have hS:=hS.new f7 (.cells (evV ⟨5,x.c,o,0,0,errno x.s.p x.s.c x.s.m x.c o.k o.a o.n⟩).toArray 58 (0,0))
  have hz1:=hS.look
  have hr2:rds _ (some ⟨z,0,none⟩) 8=some (evV ⟨5,x.c,o,0,0,errno x.s.p x.s.c x.s.m x.c o.k o.a o.n⟩).toArray:=(show rdn _ z 0 8=some _ by rw[rdn_of hz1];rfl)
  simp only[↓DD,UU,xA,xB,xE]
  show onSome (rds (upd H' z (.cells (evV ⟨5,x.c,o,0,0,errno x.s.p x.s.c x.s.m x.c o.k o.a o.n⟩).toArray 58 (0,0))) (some ⟨z,0,none⟩) 8) _
  rw[hr2,onSome_mk]
  refine ev_more (es:=[⟨2,x.c,o,0,0,0⟩]) (e:=⟨5,x.c,o,0,0,errno x.s.p x.s.c x.s.m x.c o.k o.a o.n⟩) (l:=klB k (klC (x.ask o).rest .nilIface ks) :: a2 :: f2' :: (J ++ l)) (fun v H'=>rwp _ _ _ _ (putD _ _ v) H') (ev_one e _) rfl rfl rfl (by decide) (hS.sel 5 [4,1,2,3] (by decide) (by decide)) ?_
  intro a3 c3 g3 H3 hG hS
  simp only[↓DD,UU,xA,xE]
  have hS:Sep ((_ :: _ :: _ :: _ :: []) ++ (J ++ l)) _:=hS
  exact⟨_,_,_,_,rfl,hG,.mk .nilIface ks a2 f2' [] hs2 .no,hS.over.dropF⟩
theorem c_tell {P:List Hp} (hx:x.Mid) (hP:ClP k x P) (hS:Sep (P ++ l) H) :
  CallP Tryz.prog W 110 #[.pointer (some ⟨k,0,none⟩)] H fun v H'=>∃ a cap g P',v=.slice a x.tell.2.length cap∧EvR a cap x.tell.2 g∧ClP k x.tell.1 P'∧Sep (g :: (P' ++ l)) H':=by
 refine CallP.of mixed Tryz.func110 tr110 (by show 1≤_;decide) fun W _=>?_
 obtain⟨jv,ks,a,f,J,hs,hj⟩:=hP
 have hS:Sep (([_,_,_]:List Hp) ++ (J ++ l)) H:=hS
 have hS:=hS.over
 have hk:H k=_:=hS.outL.look
 have r0:=fun o=>rd_of hk o
 unfold Cl.tell
 simp only[r0,klC,↓DD,UU,xE]
 refine j_gave hj hx.jn hS fun H' hS=>?_
 have hk:H' k=_:=hS.outL.look
 have r0:=fun o=>rd_of hk o
 by_cases hg:(x.j.gave && !x.told)=true
 have e1:x.j.gave=true:=by simp at hg;exact hg.1
 have e2:x.told=false:=by simp at hg;exact hg.2
 have eg:x.gvE = [⟨4,x.c,Op.zero,x.o.a,0,0⟩]:=if_pos hg
 have hs1:Sep (klB k (klC x.told1 jv ks) :: a :: f :: (J ++ l)) (upd H' k (.cells (klC x.told1 jv ks) 149 (0,0))):=(Sep.over (L:=[_,_,_]) hS).set _
 have et:klC x.told1 jv ks=#[.int .i64 x.s.p,.int .i64 x.s.c,.int .i64 x.s.m,.int .i64 x.c,.int .i64 x.f,.int .i64 x.o.k,.int .i64 x.o.a,.int .i64 x.o.n,jv,.bool (!x.busy),.bool true,.pointer (some ⟨ks,0,none⟩),.int .i64 x.st]:=by
  unfold klC Cl.told1;rw[e1,Bool.or_true]
 rw[et]at hs1
 simp only[hk,r0,klC,e1,e2,↓DD,UU,xA,xE,xG]
 generalize upd H' k _=H2 at hs1 ⊢
 have hk:=hs1.look
 have r0:=fun o=>rd_of hk o
 refine draw_intro [(k,#[.int .i64 x.s.p,.int .i64 x.s.c,.int .i64 x.s.m,.int .i64 x.c,.int .i64 x.f,.int .i64 x.o.k,.int .i64 x.o.a,.int .i64 x.o.n,jv,.bool (!x.busy),.bool true,.pointer (some ⟨ks,0,none⟩),.int .i64 x.st],[])] (by simp only[hk,↓DD,UU]) ?_
 simp only[r0,↓DD,UU,↓reduceIte,xA,xB,xE]
 refine newB_intro fun z hz f7 f8=>?_
 have nkz:(k=z)=False:=f7 k (by rw[hk];rfl)
 have hS:=hs1.new f7 (.cells (evV ⟨4,x.c,Op.zero,x.o.a,0,0⟩).toArray 58 (0,0))
 have hz1:=hS.look
 have hr2:rds _ (some ⟨z,0,none⟩) 8=some (evV ⟨4,x.c,Op.zero,x.o.a,0,0⟩).toArray:=(show rdn _ z 0 8=some _ by rw[rdn_of hz1];rfl)
 simp only[hk,nkz,↓DD,UU,↓reduceIte,xA,xB,xE]
 show onSome (rds (upd H2 z (.cells (evV ⟨4,x.c,Op.zero,x.o.a,0,0⟩).toArray 58 (0,0))) (some ⟨z,0,none⟩) 8) _
 rw[hr2,onSome_mk]
 refine ev_more (es:=[]) (fun v H'=>hold _ H'∧dwp _ _ _ _ _ (putD _ _ v) H') (Rw.none _ _) rfl rfl rfl (by decide) hS.tail.nothing ?_
 intro a1 c1 g1 H1 hG hS
 have hk:=hS.lk 1 rfl
 have r0:=fun o=>rd_of hk o
 refine⟨by simp only[hk,↓DD,UU],?_⟩
 have hG:EvR a1 c1 x.gvE g1:=by rw[eg];exact hG
 rw[← et]at hS
 have ln:x.gvE.length=1:=by rw[eg];rfl
 have ea:Value.slice a1 1 c1=.slice a1 x.gvE.length c1:=by rw[ln]
 simp only[r0,↓DD,UU,xE]
 rotate_left
 have eg:x.gvE = []:=if_neg hg
 have et:x.told1=x:=by
  have:(x.told || x.j.gave)=x.told:=by
   cases h1:x.told<;>cases h2:x.j.gave<;>first | rfl | (rw[h1,h2]at hg;exact absurd rfl hg)
  unfold Cl.told1
  rw[this]
 have hS:=(Sep.over (L:=[_,_,_]) hS).nothing
 have hG:EvR none 0 x.gvE (fun _=>none):=by rw[eg];exact Rw.none _ _
 have ln:x.gvE.length=0:=by rw[eg];rfl
 have ea:Value.slice none 0 0=.slice none x.gvE.length 0:=by rw[ln]
 have hk0:=hS.lk 1 rfl
 rw[← et]at hS
 have hk:=hS.lk 1 rfl
 cases h2:x.j.gave
 simp only[r0,klC,↓DD,UU,xE]
 rotate_left
 have h1:x.told=true:=by
  cases h1:x.told
  ·rw[h1,h2]at hg;exact absurd rfl hg
  ·rfl
 simp only[r0,klC,h1,↓DD,UU,xE]
 all_goals
  refine j_done hj hx.jw hx.jn (Sep.over (X:=[_,_,_,_]) hS) fun H' hS=>?_
  have hk:H' k=_:=(Sep.over (L:=[_,_,_,_]) hS).lk 1 rfl
  have r0:=fun o=>rd_of hk o
  cases hd:x.j.dn
  ·simp only[↓DD,UU,↓reduceIte,xE]
   have hS:Sep (_ :: (([_,_,_]:List Hp) ++ (J ++ l))) H':=Sep.over (L:=[_,_,_,_]) hS
   have hS:Sep (([_,_,_,_]:List Hp) ++ (J ++ l)) H':=hS
   exact⟨_,_,_,_,ea,hG,ClP.mk (k:=k) (x:=x.told1) jv ks a f J hs hj,hS⟩
  ·simp only[r0,klC,↓DD,UU,xE]
   refine j_took hj hx.jw hx.jn hS fun bk H' hbk hS=>?_
   simp only[bkV,↓DD,UU,xE]
   refine newB_intro fun y hy f1 f2=>?_
   have hS:Sep (([_,_,_,_]:List Hp) ++ (J ++ l)) H':=hS.over
   have hk:=hS.lk 1 rfl
   have nky:(k=y)=False:=f1 k (by rw[hk];rfl)
   have nyk:(y=k)=False:=f2 k (by rw[hk];rfl)
   have hS:=hS.new f1 (.cells #[.bool bk.lg,.int .i64 bk.p,.int .i64 bk.i,.int .i64 bk.k,.int .i64 bk.n] 204 (0,0))
   have hy1:=hS.look
   have ry:=fun o n=>rdn_of hy1 o n
   have r0:=fun o=>rd_of hk o
   have r0':=fun o=>rd_of (hS.lk 2 rfl) o
   have hk':=hS.lk 2 rfl
   cases htk:x.j.took
   have et2:x.tkE = []:=by unfold Cl.tkE;rw[htk]
   have ea2:x.tkA=0:=by unfold Cl.tkA;rw[htk]
   have eq2:x.gvE=x.gvE ++ x.tkE:=by rw[et2,List.append_nil]
   have hG:=hG
   rw[eq2]at hG
   have ln2:(x.gvE ++ x.tkE).length=x.gvE.length:=by rw[et2,List.append_nil]
   rw[ln]at ln2
   simp only[r0',Option.isSome_none,klC,Ev.upd_upd,↓DD,UU,xA,xE,xF]
   try rw[Ev.upd_upd]
   have hS:=hS.tail
   rotate_left
   rename_i bk2
   have hbk:=hbk _ htk
   subst hbk
   have hsm:=hx.sm htk
   simp only[ry,Option.isSome_some,Ev.upd_upd,↓DD,UU,↓reduceIte,xA,xC,xE,xF]
   refine callT_of (c_bkat (B:=bk2) hsm.1 hsm.2.1 hS) ?_
   rintro v H' ⟨rfl,hS⟩
   have hk:=hS.lk 2 rfl
   have r0:=fun o=>rd_of hk o
   have hy1:=hS.look
   have ry:=fun o n=>rdn_of hy1 o n
   simp only[↓DD,UU,↓reduceIte]
   refine draw_intro [(k,klC x.told1 jv ks,[]),(y,#[.bool bk2.lg,.int .i64 bk2.p,.int .i64 bk2.i,.int .i64 bk2.k,.int .i64 bk2.n],[])] (by simp only[hk,hy1,↓DD,UU]) ?_
   simp only[r0,ry,nyk,klC,↓DD,UU,↓reduceIte,xA,xC,xE,xF]
   refine callT_of (c_bklen (B:=bk2) hsm.2.2 hS) ?_
   rintro v H' ⟨rfl,hS⟩
   have hk:=hS.lk 2 rfl
   have hy1:=hS.look
   simp only[hk,hy1,klC,↓DD,UU,xA,xB,xE]
   refine newB_intro fun z hz f7 f8=>?_
   have nkz:(k=z)=False:=f7 k (by rw[hk];rfl)
   have nyz:(y=z)=False:=f7 y (by rw[hy1];rfl)
   have hS:=hS.new f7 (.cells (evV ⟨3,x.c,Op.zero,bk2.ad,bk2.len,0⟩).toArray 58 (0,0))
   have hz1:=hS.look
   have hr2:rds _ (some ⟨z,0,none⟩) 8=some (evV ⟨3,x.c,Op.zero,bk2.ad,bk2.len,0⟩).toArray:=(show rdn _ z 0 8=some _ by rw[rdn_of hz1];rfl)
   simp only[hk,hy1,nkz,nyz,klC,↓DD,UU,↓reduceIte,xA,xB,xE]
   show onSome (rds (upd H' z (.cells (evV ⟨3,x.c,Op.zero,bk2.ad,bk2.len,0⟩).toArray 58 (0,0))) (some ⟨z,0,none⟩) 8) _
   rw[hr2,onSome_mk]
   refine ev_more (es:=x.gvE) (e:=⟨3,x.c,Op.zero,bk2.ad,bk2.len,0⟩) (fun v H'=>hold _ H'∧dwp _ _ _ _ _ (putD _ _ v) H') hG ln rfl rfl (by decide) (hS.sel 6 [2,1,3,4,5] (by decide) (by decide)) ?_
   intro a2 c2 g2 H2 hG hS
   have hk:=hS.lk 2 rfl
   have hy1:=hS.lk 1 rfl
   have r0:=fun o=>rd_of hk o
   refine⟨by simp only[hk,hy1,klC,↓DD,UU],?_⟩
   have et2:x.tkE = [⟨3,x.c,Op.zero,bk2.ad,bk2.len,0⟩]:=by unfold Cl.tkE;rw[htk]
   have ea2:x.tkA=bk2.ad:=by unfold Cl.tkA;rw[htk]
   rw[← et2]at hG
   have ln2:(x.gvE ++ x.tkE).length=x.gvE.length+1:=by rw[et2,List.length_append];rfl
   rw[ln]at ln2
   simp only[r0,klC,↓DD,UU,xE]
   have hS:Sep (([_,_,_,_]:List Hp) ++ (J ++ l)) _:=hS.p1.tail
   generalize bk2.ad=tA at *
   all_goals
    refine j_err hj hx.jn (Sep.over (X:=[_,_,_,_]) hS) fun H' hS=>?_
    have hS:Sep (([_,_,_,_]:List Hp) ++ (J ++ l)) H':=hS.over
    simp only[↓DD,UU,xE]
    refine callT_of (c_answer (x:=x.told1) (jv:=jv) hs (hS.sel 4 [1,2,3,0] (by decide) (by decide))) ?_
    rintro v H' ⟨rfl,a4,f4,hs4,hS⟩
    simp only[evV,Cl.ans,↓DD,UU,xA,xB]
    refine newB_intro fun z2 hz2 f9 f10=>?_
    have hS:=hS.new f9 (.cells (evV (x.ans x.j.err x.tkA)).toArray 58 (0,0))
    have hz1:=hS.look
    have hr3:rds _ (some ⟨z2,0,none⟩) 8=some (evV (x.ans x.j.err x.tkA)).toArray:=(show rdn _ z2 0 8=some _ by rw[rdn_of hz1];rfl)
    rw[ea2]at hr3 hS
    simp only[↓DD,UU,xA,xB,xE]
    refine(show onSome (rds (upd H' z2 (.cells (evV (x.ans x.j.err _)).toArray 58 (0,0))) (some ⟨z2,0,none⟩) 8) _ from ?_)
    rw[hr3,onSome_mk]
    refine ev_more (es:=x.gvE ++ x.tkE) (e:=x.ans x.j.err _) (fun v H'=>rwp _ _ _ _ (putD _ _ v) H') hG ln2 rfl rfl (by decide) (hS.sel 5 [4,1,2,3] (by decide) (by decide)) ?_
    intro a5 c5 g5 H5 hG5 hS
    simp only[↓DD,UU,↓reduceIte]
    rw[ea2]
    have hS:Ev.Sep ([g5,klB k (klC x.told1.rest .nilIface ks),a4,f4] ++ (J ++ l)) H5:=hS
    exact⟨a5,c5,g5,_,by rw[List.length_append,ln2];rfl,hG5,.mk .nilIface ks a4 f4 [] hs4 .no,hS.over.dropF⟩
theorem c_guard_ex {F:FuncId} {caps:Array Value} {R:List Hp→Prop} (hF:∀ w,(callFunc F caps).run Tryz.prog w=.ok (.enter F caps) w) (hS:Sep l H) (hc:∀ x H1,Sep (x :: l) H1→CallP Tryz.prog W F caps H1 fun v H'=>v=.tuple #[]∧∃ l',R l'∧Sep (x :: l') H') :
  CallP Tryz.prog W 107 #[.func (.func F) #[] caps] H fun v H'=>v=.bool true∧∃ l',R l'∧Sep l' H':=by
 intro w hw
 have hf:∀ j,(H j).isSome=true→(j=w.heap.size)=False:=fun j hj=>eq_false fun e=>by
  obtain⟨o,ho⟩:=Option.isSome_iff_exists.1 hj
  have:=hw.lt ho;omega
 have hS2:=hS.new hf (.cells #[.bool false] 4 (0,0))
 refine(g_run F caps w hF (fun e u=>e=.returned (.tuple #[])∧∃ H' l',R l'∧Sat W H' u∧Sep (sg w.heap.size (.cells #[.bool false] 4 (0,0)) :: l') H') ((hc _ _ hS2 _ (hw.alloc _)).mono ?_)).mono ?_
 ·rintro e u ⟨v,H',rfl,hs,rfl,l',hR,hS3⟩
  have hk:=hS3.look
  exact⟨.inl rfl,hs.cell (by rw[rd_of hk];rfl),hs.frozen hk 0,rfl,H',l',hR,hs,hS3⟩
 ·rintro e u ⟨e',u',⟨rfl,H',l',hR,hs,hS3⟩,⟨-,rfl,rfl⟩|⟨⟨t,pv,h⟩,-,-⟩⟩
  ·have hk:=hS3.look
   have hs2:=hs.set hk 0 (.bool true)
   exact⟨_,_,rfl,hs2,rfl,l',hR,(hS3.set _).tail⟩
  ·cases h
def kbox (y k:Nat):Hp:=sg y (.cells #[.pointer (some ⟨k,0,none⟩)] 97 (0,0))
def wbox2 (y b:Nat):Hp:=sg y (.cells #[.pointer (some ⟨b,0,none⟩)] 93 (0,0))
theorem c_step1 {y z:Nat} {q:Hp} (hj:JobP x.s x.c x.j jv J) (hw:x.j.wf x.s x.c) (hd:x.j.dn=false) (hn:x.j≠.no) (ww:w.of x.s) (hS:Sep (q :: kbox y k :: wbox2 z b :: klB k (klC x jv ks) :: a :: f :: (J ++ wB b s w :: wR s w :: l)) H) :
  CallP Tryz.prog W 108 #[.pointer (some ⟨y,0,none⟩),.pointer (some ⟨z,0,none⟩)] H fun v H'=>v=.tuple #[]∧∃ l',(∃ J',JobP x.s x.c (x.j.step x.s x.c w).1 jv J'∧l'=kbox y k :: wbox2 z b :: klB k (klC x jv ks) :: a :: f :: (J' ++ wB b s (x.j.step x.s x.c w).2 :: wR s (x.j.step x.s x.c w).2 :: l))∧Sep (q :: l') H':=by
 refine CallP.of mixed Tryz.func108 tr108 (by show 2≤_;decide) fun W _=>?_
 have hy:=hS.lk 1 rfl
 have hz:=hS.lk 2 rfl
 have hk:=hS.lk 3 rfl
 have r1:=fun o=>rd_of hy o
 have r2:=fun o=>rd_of hz o
 have r3:=fun o=>rd_of hk o
 refine draw_intro [(y,#[.pointer (some ⟨k,0,none⟩)],[]),(z,#[.pointer (some ⟨b,0,none⟩)],[]),(k,klC x jv ks,[])] (by simp only[hy,hz,hk,↓DD,UU]) ?_
 have nky:(k=y)=False:=hS.qen 1 3 (by decide) rfl rfl
 have nkz:(k=z)=False:=hS.qen 2 3 (by decide) rfl rfl
 have nzy:(z=y)=False:=hS.qen 1 2 (by decide) rfl rfl
 simp only[r1,r2,r3,nky,nkz,nzy,klC,↓DD,UU,↓reduceIte,xA,xE]
 have hS:=(Sep.over (X:=[_,_,_,_,_,_]) (L:=J) (Y:=wB b s w :: wR s w :: l) hS).tsw
 refine j_step (l:=l ++ [q,kbox y k,wbox2 z b,klB k (klC x jv ks),a,f]) hj hw hd hn ww hS fun J' H' hj' hS=>?_
 have hS:=(Sep.tsw (X:=J') (A:=wB b s _ :: wR s _ :: l) hS).over
 simp only[↓DD,UU]
 exact⟨_,⟨J',hj',rfl⟩,hS⟩
theorem c_clstep {P:List Hp} (hx:x.wf) (hP:ClP k x P) (ww:w.of x.s) (hS:Sep (P ++ wB b s w :: wR s w :: l) H) :
  CallP Tryz.prog W 84 #[.pointer (some ⟨k,0,none⟩),.pointer (some ⟨b,0,none⟩)] H fun v H'=>∃ a cap g P',v=.tuple #[.slice a (x.step w).2.2.1.length cap,.int .i64 (x.step w).2.2.2]∧EvR a cap (x.step w).2.2.1 g∧ClP k (x.step w).1 P'∧Sep (g :: (P' ++ wB b s (x.step w).2.1 :: wR s (x.step w).2.1 :: l)) H':=by
 refine CallP.of mixed Tryz.func84 tr84 (by show 2≤_;decide) fun W _=>?_
 obtain⟨jv,ks,a,f,J,hs,hj⟩:=hP
 have hS:Sep (klB k (klC x jv ks) :: a :: f :: (J ++ wB b s w :: wR s w :: l)) H:=hS
 unfold Cl.step
 simp only[↓DD,UU,xA]
 refine newB_intro fun y hy f1 f2=>?_
 have hS:=hS.new f1 (.cells #[.pointer (some ⟨k,0,none⟩)] 97 (0,0))
 have hy1:=hS.look
 simp only[↓DD,UU,xA,xE]
 refine newB_intro fun z hz f3 f4=>?_
 have nyz:(y=z)=False:=f3 y (by rw[hy1];rfl)
 have nzy:(z=y)=False:=f4 y (by rw[hy1];rfl)
 have hS:=hS.new f3 (.cells #[.pointer (some ⟨b,0,none⟩)] 93 (0,0))
 simp only[nyz,↓DD,UU,↓reduceIte,xA,xE]
 have hS:=hS.sel 5 [2,3,4,1,0] (by decide) (by decide)
 refine callT_of (c_rests hs hS) ?_
 rintro v H' ⟨rfl,hS⟩
 cases hb:x.busy
 ·rw[if_neg (by decide)]
  simp only[↓DD,UU,xA,xE]
  have hS:Ev.Sep ((klB k (klC x jv ks) :: a :: f :: J) ++ (wB b s w :: wR s w :: l)) H':=hS.sel 5 [0,1,2] (by decide) (by decide)
  exact⟨none,0,_,_,rfl,Rw.none _ _,.mk jv ks a f J hs hj,hS.nothing⟩
 rw[if_pos rfl]
 obtain⟨b1,b2,b3,b4,b5⟩:=hx.jb hb
 simp only[↓DD,UU,xA,xE]
 refine callT_of (c_guard_ex (fun w=>enter_run _ rfl rfl rfl _ w) hS fun q H1 hS=>c_step1 hj hx.jw b2 b1 ww (hS.sel 6 [0,4,5,1,2,3] (by decide) (by decide))) ?_
 rintro v H' ⟨rfl,l',⟨J',hj',rfl⟩,hS⟩
 have hy1:=hS.look
 have hk:=hS.lk 2 rfl
 have r0:=fun o=>rd_of hk o
 have r1:=fun o=>rd_of hy1 o
 have hl:=Job.left_nn hx.jw
 have hm:=(may_iff _ _ _).1 hx.m
 have wst:w64 (x.st+1)=x.st+1:=w64_eq (by omega) (by omega)
 have nky:(k=y)=False:=hS.qen 0 2 (by decide) rfl rfl
 have nyk:(y=k)=False:=hS.neq 0 2 (by decide) rfl rfl
 simp only[hk,r0,r1,wrap_w64,wst,klC,↓DD,UU,xA,xE,xG]
 have hS:=hS.p2.set (.cells (klC (x.adv w) jv ks) 149 (0,0))
 show mwp Tryz.prog W _ _ _ (upd H' k (.cells (klC (x.adv w) jv ks) 149 (0,0)))
 generalize upd H' k (.cells (klC (x.adv w) jv ks) 149 (0,0))=H2 at hS ⊢
 have hk:=hS.look
 have hy1:=hS.lk 1 rfl
 have r0:=fun o=>rd_of hk o
 have r1:=fun o=>rd_of hy1 o
 rw[hb]at hs
 refine draw_intro [(k,klC (x.adv w) jv ks,[]),(y,#[.pointer (some ⟨k,0,none⟩)],[])] (by simp only[hk,hy1,klC,↓DD,UU]) ?_
 have ea:(x.adv w).st=x.st+1:=rfl
 simp only[r0,r1,nyk,klC,ea,↓DD,UU,↓reduceIte,xE]
 refine callT_of (c_fkgo hs (hS.sel 5 [3,4,0,1,2] (by decide) (by decide))) ?_
 rintro v H' ⟨rfl,a',f',hs',hS⟩
 have hS:=hS.sel 5 [2,0,1,3,4] (by decide) (by decide)
 have hy1:=hS.lk 3 rfl
 have r1:=fun o=>rd_of hy1 o
 simp only[r1,↓DD,UU,xE]
 have hP':ClP k (x.adv w) _:=.mk jv ks a' f' J' (by show FkP ks x.busy a' f';rw[hb];exact hs') hj'
 have hS:Ev.Sep ([kbox y k,wbox2 z b] ++ ((klB k (klC (x.adv w) jv ks) :: a' :: f' :: J') ++ (wB b s (x.j.step x.s x.c w).2 :: wR s (x.j.step x.s x.c w).2 :: l))) H':=hS.sel 5 [3,4,0,1,2] (by decide) (by decide)
 refine callT_of (c_tell (Cl.adv_mid hx hb ww) hP' (Sep.dropF (m:=[_,_]) hS)) ?_
 rintro v H' ⟨a5,c5,g5,P',rfl,hG,hP2,hS⟩
 simp only[↓DD,UU,xE]
 exact⟨a5,c5,g5,P',rfl,hG,hP2,hS⟩
theorem c_clnew {sh:Sh} {c:Int} {bias:Nat} (hm:may sh.p sh.c sh.m=true) (c0:0≤c) (c1:c<sh.c) (hS:Sep l H) :
  CallP Tryz.prog W 82 #[.agg #[.int .i64 sh.p,.int .i64 sh.c,.int .i64 sh.m],.int .i64 c,.float .f64 bias] H fun v H'=>∃ k P,v=.pointer (some ⟨k,0,none⟩)∧ClP k (Cl.new sh c (shrv bias sh.p)) P∧Sep (P ++ l) H':=by
 refine CallP.of mixed Tryz.func82 tr82 (by show 3≤_;decide) fun W _=>?_
 have hb:=(may_iff _ _ _).1 hm
 have g1:decide (status sh.p sh.c sh.m c<0)=false:=by rw[status_yes hm c0 c1];exact decide_eq_false (by omega)
 simp only[↓DD,UU,xA]
 refine newB_intro fun x hx f1 f2=>?_
 have hS:=hS.new f1 (.cells #[.int .i64 sh.p,.int .i64 sh.c,.int .i64 sh.m] 23 (0,0))
 have hx1:=hS.look
 have r0:=fun o=>rd_of hx1 o
 have r1:=fun o n=>rdn_of hx1 o n
 simp only[r1,v_status,g1,↓DD,UU,↓reduceIte,xA,xC,xE,xF]
 refine draw_intro [(x,#[.int .i64 sh.p,.int .i64 sh.c,.int .i64 sh.m],[])] (by simp only[hx1,↓DD,UU]) ?_
 simp only[r0,r1,↓DD,UU,↓reduceIte,xA,xC,xE,xF]
 refine callT_of (c_share (n:=sh.p) (x:=bias) (by omega) (by omega) hS) ?_
 rintro v H' ⟨rfl,hS⟩
 have hx1:=hS.look
 simp only[hx1,↓DD,UU]
 refine callT_of (c_fknew hS) ?_
 rintro v H' ⟨ks,a,f,rfl,hs,hS⟩
 have hx1:=hS.lk 2 rfl
 simp only[hx1,↓DD,UU,xA,xE]
 refine newB_intro fun y hy f3 f4=>?_
 have nxy:(x=y)=False:=f3 x (by rw[hx1];rfl)
 simp only[hx1,nxy,↓DD,UU,↓reduceIte]
 have hS:=hS.new f3 (.cells (klC (Cl.new sh c (shrv bias sh.p)) .nilIface ks) 149 (0,0))
 exact⟨y,_,rfl,.mk (x:=Cl.new sh c (shrv bias sh.p)) .nilIface ks a f [] hs .no,hS.sel 4 [0,1,2] (by decide) (by decide)⟩
theorem c_idle {P:List Hp} (hP:ClP k x P) (hS:Sep (P ++ l) H) :
  CallP Tryz.prog W 66 #[.pointer (some ⟨k,0,none⟩)] H fun v H'=>v=.bool (!x.busy)∧Sep (P ++ l) H':=by
 refine CallP.of mixed Tryz.func66 tr66 (by show 1≤_;decide) fun W _=>?_
 obtain⟨jv,ks,a,f,J,hs,hj⟩:=hP
 simp only[↓DD,UU,↓reduceIte,xE]
 refine callT_of (c_rests hs hS) ?_
 rintro v H' ⟨rfl,hS⟩
 simp only[↓DD,UU,xE]
 exact hS
end
end Go.Proofs.YtkjpgikjcfhckaaGreat
