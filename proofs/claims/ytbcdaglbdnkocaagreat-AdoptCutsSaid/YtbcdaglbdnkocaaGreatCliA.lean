/-
The functions of package cap, and those of the reference for chapter 19, as the same pure functions. Conditions: none.
The document's client. Conditions: none.
A half of so many, as the document's floats tell it. Conditions: none.
The document's client: made, and asked. Conditions: none.
-/
import Derived.Test.YtbcdaglbdnkocaaGreatCodeX
import Derived.Test.YtbcdaglbdnkocaaGreatRefPlan
import Derived.Test.YtbcdaglbdnkocaaGreatCodeY
import Derived.Test.YtbcdaglbdnkocaaGreatRenewM
import Derived.Test.YtbcdaglbdnkocaaGreatSep
import Derived.Test.YtbcdaglbdnkocaaGreatCode
import Derived.Test.YtbcdaglbdnkocaaGreatSimp
import Derived.Test.YtbcdaglbdnkocaaGreatPl
open Nat renaming reduceAdd→xA,reduceMul→xB,reduceSub→xC,reduceEqDiff→xD,reduceBEq→xE,reduceLeDiff→xF,reduceLT→xG
open Int renaming reduceAdd→xH,reduceMul→xI,reduceSub→xJ,reduceLT→xK,reduceLE→xL,reduceToNat→xM,reduceEq→xN,reduceNe→xO,reduceBEq→xP,reduceBNe→xQ
set_option linter.unusedVariables false
set_option linter.unusedSimpArgs false
namespace Go.Proofs.YtbcdaglbdnkocaaGreat
open Go Go.Ev Go.Pl

def steps (p c m:Int):Int:=if may p c m then 110*p+4*m+60 else 0
def leak (p c m:Int):Int:=if may p c m then 32*m+1024 else 0
def bad0 (p c m cl k a n:Int):Bool:=(k == 4 && (decide (status p c m a<0) || a == cl)) || ((k == 1 || k == 3) && !fine n) || ((k == 2 || k == 3) && !there p c m a)
def nomem (p k n:Int):Bool:=(k == 1 || k == 3) && (large n && decide (p<pages n))
def errno (p c m cl k a n:Int):Int:=if bad0 p c m cl k a n then 1 else if nomem p k n then 3 else 0
def atonce (p c m cl k a n:Int):Bool:=bad0 p c m cl k a n || nomem p k n
def capOf (p c m k a n:Int):Int:=if atonce p c m (-1) k a n || decide (k<1) || decide (4<k) then 0 else steps p c m

theorem q_steps (p c m:Int):PureC Tryz.prog 11 #[.agg #[.int .i64 p,.int .i64 c,.int .i64 m]] (.int .i64 (steps p c m)):=by
 refine PureC.of mixed Tryz.func11 (by kernel_rfl) tr11 (by show 1≤_;decide) fun W H=>?_
 simp only[↓DD,UU,↓reduceIte,xA,xB,xC,xD,xE,xF,xG,xH,xI,xJ,xK,xL,xM,xN,xO,xP,xQ,ne_eq,eq_self]
 refine newB_intro fun b hb h1 h2=>?_
 have hsub:∀ o,Sub H (upd H b o):=fun o=>(Sub.refl H).new h1
 cases h:may p c m
 ·simp only[u_may,h,↓DD,UU,↓reduceIte,xA,xB,xC,xD,xE,xF,xG,xH,xI,xJ,xK,xL,xM,xN,xO,xP,xQ,ne_eq,eq_self]
  simp [steps,h,hsub]
 ·have hm:=(may_iff _ _ _).1 h
  have e1:w64 (110*p)=110*p:=w64_eq (by omega) (by omega)
  have e2:w64 (4*m)=4*m:=w64_eq (by omega) (by omega)
  have e3:w64 (110*p+4*m)=110*p+4*m:=w64_eq (by omega) (by omega)
  have e4:w64 (110*p+4*m+60)=110*p+4*m+60:=w64_eq (by omega) (by omega)
  simp only[u_may,h,wrap_w64,e1,e2,e3,e4,↓DD,UU,↓reduceIte,xA,xB,xC,xD,xE,xF,xG,xH,xI,xJ,xK,xL,xM,xN,xO,xP,xQ,ne_eq,eq_self]
  simp [steps,h,hsub]
theorem u_steps (p c m:Int):pv Tryz.prog 11 #[.agg #[.int .i64 p,.int .i64 c,.int .i64 m]] = some (.int .i64 (steps p c m)):=pv_of (q_steps p c m)

theorem kinds (k:Int):k=1∨k=2∨k=3∨k=4∨((k == 1)=false∧(k == 2)=false∧(k == 3)=false∧(k == 4)=false):=by
 by_cases h1:k=1
 ·exact .inl h1
 ·by_cases h2:k=2
  ·exact .inr (.inl h2)
  ·by_cases h3:k=3
   ·exact .inr (.inr (.inl h3))
   ·by_cases h4:k=4
    ·exact .inr (.inr (.inr (.inl h4)))
    ·exact .inr (.inr (.inr (.inr ⟨by simpa using h1,by simpa using h2,by simpa using h3,by simpa using h4⟩)))

theorem q_atonce (p c m cl k a n:Int):PureC Tryz.prog 37 #[.agg #[.int .i64 p,.int .i64 c,.int .i64 m],.int .i64 cl,.agg #[.int .i64 k,.int .i64 a,.int .i64 n]] (.tuple #[.int .i64 (errno p c m cl k a n),.bool (atonce p c m cl k a n)]):=by
 refine PureC.of mixed Tryz.func37 (by kernel_rfl) tr37 (by show 3≤_;decide) fun W H=>?_
 simp only[↓DD,UU,↓reduceIte,xA,xB,xC,xD,xE,xF,xG,xH,xI,xJ,xK,xL,xM,xN,xO,xP,xQ,ne_eq,eq_self]
 refine newB_intro fun b hb h1 h2=>?_
 have hsub:∀ o,Sub H (upd H b o):=fun o=>(Sub.refl H).new h1
 simp only[↓DD,UU,↓reduceIte,xA,xB,xC,xD,xE,xF,xG,xH,xI,xJ,xK,xL,xM,xN,xO,xP,xQ,ne_eq,eq_self]
 refine newB_intro fun b' hb' h1' h2'=>?_
 have hsub':∀ o o',Sub H (upd (upd H b o) b' o'):=fun o o'=>(hsub o).new (fun k hk=>h1' k (by unfold upd at hk ⊢;split<;>simp_all))
 have hne:(b=b')=False:=h1' b (by unfold upd;simp)
 have hne':(b'=b)=False:=h2' b (by unfold upd;simp)
 rcases kinds k with rfl | rfl | rfl | rfl |⟨k1,k2,k3,k4⟩
 all_goals
  simp only[hne,hne',u_length,u_split,u_run,u_status,Int.reduceBEq, *,↓DD,UU,↓reduceIte,xA,xB,xC,xD,xE,xF,xG,xH,xI,xJ,xK,xL,xM,xN,xO,xP,xQ,ne_eq,eq_self]
  repeat' (refine both_intro (fun g=>?_) (fun g=>?_)<;>simp only[g,hne,hne',u_length,u_split,u_run,u_status,Int.reduceBEq, *,↓DD,UU,↓reduceIte,xA,xB,xC,xD,xE,xF,xG,xH,xI,xJ,xK,xL,xM,xN,xO,xP,xQ,ne_eq,eq_self])
  all_goals simp [errno,atonce,bad0,nomem, *]
theorem u_atonce (p c m cl k a n:Int):pv Tryz.prog 37 #[.agg #[.int .i64 p,.int .i64 c,.int .i64 m],.int .i64 cl,.agg #[.int .i64 k,.int .i64 a,.int .i64 n]] = some (.tuple #[.int .i64 (errno p c m cl k a n),.bool (atonce p c m cl k a n)]):=pv_of (q_atonce p c m cl k a n)
end Go.Proofs.YtbcdaglbdnkocaaGreat
set_option linter.unusedSectionVars false
set_option maxRecDepth 8000
namespace Go.Proofs.YtbcdaglbdnkocaaGreat
open Go Go.Ev Go.Pl Go.Ma
def GE (T:TypeId) (sz:Nat) (a:Option Addr) (n cap:Nat) (g:Hp):Prop:=
 (a=none∧n=0∧cap=0∧g=fun _=>none)∨∃ z c,a=some ⟨z,0,none⟩∧g=sg z (.cells c T (0,0))∧n≤cap∧cap*sz≤c.size
theorem setN_size (c:Array Value) (o:Nat) (l:List Value):(setN c o l).size=c.size:=by
 induction l generalizing c o with
 | nil=>rfl
 | cons x r ih=>show(setN (c.setIfInBounds o x) (o+1) r).size=_;rw[ih];simp
theorem grow0 {W:World} {H:Hp} {l:List Hp} {T:TypeId} {m:Nat} {new z0:Array Value} {K2:Array Value→Nat→Nat→Prop}
  (hm:1≤m∧m≤4) (hs:new.size=m*8) (hz0:z0.size=8) (hS:Sep l H)
  (h2:∀ old cap b,GE T 8 (some ⟨b,0,none⟩) m cap (sg b (.cells (old ++ new ++ Builtin.zeroCells z0 (cap - m)) T (0,0)))→Sep (sg b (.cells (old ++ new ++ Builtin.zeroCells z0 (cap - m)) T (0,0)) :: l) (upd H b (.cells (old ++ new ++ Builtin.zeroCells z0 (cap - m)) T (0,0)))→K2 old cap b) :
  Builtin.nextslicecap m 0*64≤281474976710656∧onSome (rds H none 0) fun old=>allCap m fun cap=>newB W H fun b=>K2 old cap b:=by
 have hc:=nextslicecap_le (need:=m) (old:=0) (by omega)
 refine⟨by omega,?_⟩
 show allCap m fun cap=>newB W H fun b=>K2 #[] cap b
 intro cap2 hc2
 refine newB_intro fun b hb0 f1 f2=>?_
 have e:(Builtin.zeroCells z0 (cap2 - m)).size=(cap2 - m)*8:=by simp [Builtin.zeroCells,hz0]
 refine h2 _ _ _ (.inr ⟨b,_,rfl,rfl,hc2,?_⟩) (hS.new f1 _)
 rw[Array.size_append,Array.size_append,hs,e]
 show cap2*8≤0+m*8+(cap2 - m)*8
 omega
theorem grow1 {W:World} {H g:Hp} {l:List Hp} {T:TypeId} {m N cap:Nat} {a:Option Addr} {new z0:Array Value} {K1:Hp→Prop} {K2:Array Value→Nat→Nat→Prop}
  (hG:GE T 8 a 1 cap g) (hN:N=1+m) (hm:m≤4) (hs:new.size=m*8) (hz0:z0.size=8) (ho:new.toList.all Value.oneCell'=true) (hS:Sep (g :: l) H)
  (h1:∀ g2 H',GE T 8 a N cap g2→Sep (g2 :: l) H'→K1 H')
  (h2:∀ old cap b,GE T 8 (some ⟨b,0,none⟩) N cap (sg b (.cells (old ++ new ++ Builtin.zeroCells z0 (cap - N)) T (0,0)))→Sep (sg b (.cells (old ++ new ++ Builtin.zeroCells z0 (cap - N)) T (0,0)) :: l) (upd H b (.cells (old ++ new ++ Builtin.zeroCells z0 (cap - N)) T (0,0)))→K2 old cap b) :
  if N≤cap then stow H a 8 new K1
  else Builtin.nextslicecap N cap*64≤281474976710656∧onSome (rds H a 8) fun old=>allCap N fun cap=>newB W H fun b=>K2 old cap b:=by
 subst hN
 rcases hG with⟨-,h,-,-⟩|⟨z,c,rfl,rfl,h4,h5⟩
 ·cases h
 have hz:=hS.look
 split
 ·rename_i hroom
  unfold stow
  split
  ·rename_i h0
   have hm0:m=0:=by rw[h0]at hs;omega
   subst hm0
   exact h1 _ _ (.inr ⟨z,c,rfl,rfl,hroom,h5⟩) hS
  ·show onCells (H z) _
   rw[hz]
   exact⟨by omega,ho,h1 _ _ (.inr ⟨z,_,rfl,rfl,hroom,by rw[setN_size];exact h5⟩) (hS.set _)⟩
 ·rename_i hroom
  have hc:=nextslicecap_le (need:=1+m) (old:=cap) (by omega)
  refine⟨by omega,?_⟩
  have hold:rds H (some ⟨z,0,none⟩) 8=some (c.extract 0 (0+8)):=by
   show rdn H z 0 8=_
   rw[rdn_of hz,if_pos (by omega)]
  rw[hold]
  intro cap2 hc2
  refine newB_intro fun b hb0 f1 f2=>?_
  have e:(Builtin.zeroCells z0 (cap2 - (1+m))).size=(cap2 - (1+m))*8:=by simp [Builtin.zeroCells,hz0]
  have e8:(c.extract 0 (0+8)).size=8:=by simp;omega
  refine h2 _ _ _ (.inr ⟨b,_,rfl,rfl,hc2,?_⟩) (hS.tail.new f1 _)
  rw[Array.size_append,Array.size_append,hs,e,e8]
  omega
def clC (s:Sh) (c f:Int) (busy:Bool) (ok oa on N:Int) (v1 v2 v3 v4 v5:Value):Array Value:=
 #[.int .i64 s.p,.int .i64 s.c,.int .i64 s.m,.int .i64 c,.int .i64 f,.bool busy,.int .i64 ok,.int .i64 oa,.int .i64 on,.int .i64 N,v1,v2,v3,v4,v5]
def clB (k:Nat) (c:Array Value):Hp:=sg k (.cells c 89 (0,0))
section
variable {W:World} {H:Hp} {k:Nat} {l:List Hp} {sh:Sh} {c f ok oa on N:Int} {busy:Bool} {v1 v2 v3 v4 v5:Value}
theorem m_event (kd:Int) (hS:Sep (clB k (clC sh c f busy ok oa on N v1 v2 v3 v4 v5) :: l) H) :
  CallP Tryz.prog W 36 #[.pointer (some ⟨k,0,none⟩),.int .i64 kd] H fun v H'=>v=.agg #[.int .i64 kd,.int .i64 c,.int .i64 0,.int .i64 0,.int .i64 0,.int .i64 0,.int .i64 0,.int .i64 0]∧Sep (clB k (clC sh c f busy ok oa on N v1 v2 v3 v4 v5) :: l) H':=by
 refine CallP.of mixed Tryz.func36 tr36 (by show 2≤_;decide) fun W _=>?_
 simp only[↓DD,UU,↓reduceIte,xA,xB,xC,xD,xE,xF,xG,xH,xI,xJ,xK,xL,xM,xN,xO,xP,xQ,ne_eq,eq_self]
 refine newB_intro fun y hy f3 f4=>?_
 have hk:=hS.look
 have nky:(k=y)=False:=f3 k (by rw[hk];rfl)
 have nyk:(y=k)=False:=f4 k (by rw[hk];rfl)
 have hS:=hS.new f3 (.cells #[.int .i64 kd,.int .i64 c,.int .i64 0,.int .i64 0,.int .i64 0,.int .i64 0,.int .i64 0,.int .i64 0] 91 (0,0))
 have r1:=fun o=>rd_of hk o
 simp only[hk,r1,nky,nyk,clC,Ev.upd_upd,↓DD,UU,↓reduceIte,xA,xB,xC,xD,xE,xF,xG,xH,xI,xJ,xK,xL,xM,xN,xO,xP,xQ,ne_eq,eq_self]
 exact hS.tail
theorem m_answer (e at':Int) (hS:Sep (clB k (clC sh c f busy ok oa on N v1 v2 v3 v4 v5) :: l) H) :
  CallP Tryz.prog W 38 #[.pointer (some ⟨k,0,none⟩),.int .i64 e,.int .i64 at'] H fun v H'=>v=.agg #[.int .i64 5,.int .i64 c,.int .i64 ok,.int .i64 oa,.int .i64 on,.int .i64 at',.int .i64 0,.int .i64 e]∧Sep (clB k (clC sh c f false ok oa on N v1 v2 v3 v4 v5) :: l) H':=by
 refine CallP.of mixed Tryz.func38 tr38 (by show 3≤_;decide) fun W _=>?_
 simp only[↓DD,UU,↓reduceIte,xA,xB,xC,xD,xE,xF,xG,xH,xI,xJ,xK,xL,xM,xN,xO,xP,xQ,ne_eq,eq_self]
 refine newB_intro fun y hy f3 f4=>?_
 have hk:=hS.look
 have nky:(k=y)=False:=f3 k (by rw[hk];rfl)
 have nyk:(y=k)=False:=f4 k (by rw[hk];rfl)
 have hS:=(hS.new f3 (.cells #[.int .i64 0,.int .i64 0,.int .i64 0,.int .i64 0,.int .i64 0,.int .i64 0,.int .i64 0,.int .i64 0] 91 (0,0))).p1.set (.cells (clC sh c f false ok oa on N v1 v2 v3 v4 v5) 89 (0,0))
 have r1:=fun o=>rd_of hk o
 simp only[hk,r1,nky,nyk,clC,Ev.upd_upd,↓DD,UU,↓reduceIte,xA,xB,xC,xD,xE,xF,xG,xH,xI,xJ,xK,xL,xM,xN,xO,xP,xQ,ne_eq,eq_self]
 unfold clC at hS
 refine callT_of (m_event (sh:=sh) (c:=c) (f:=f) (busy:=false) (ok:=ok) (oa:=oa) (on:=on) (N:=N) (v1:=v1) (v2:=v2) (v3:=v3) (v4:=v4) (v5:=v5) 5 hS) ?_
 rintro v H' ⟨rfl,hS⟩
 simp only[↓DD,UU,↓reduceIte,xA,xB,xC,xD,xE,xF,xG,xH,xI,xJ,xK,xL,xM,xN,xO,xP,xQ,ne_eq,eq_self]
 refine newB_intro fun z hz f5 f6=>?_
 have hk:=hS.look
 have r2:=fun o n=>rdn_of hk o n
 have nkz:(k=z)=False:=f5 k (by rw[hk];rfl)
 have nzk:(z=k)=False:=f6 k (by rw[hk];rfl)
 have hy1:=hS.lk 1 rfl
 have nyz:(y=z)=False:=f5 y (by rw[hy1];rfl)
 have nzy:(z=y)=False:=f6 y (by rw[hy1];rfl)
 simp only[hk,r2,hy1,nkz,nzk,nyz,nzy,clC,Ev.upd_upd,↓DD,UU,↓reduceIte,xA,xB,xC,xD,xE,xF,xG,xH,xI,xJ,xK,xL,xM,xN,xO,xP,xQ,ne_eq,eq_self]
 exact((hS.new f5 (.cells #[.int .i64 5,.int .i64 c,.int .i64 ok,.int .i64 oa,.int .i64 on,.int .i64 at',.int .i64 0,.int .i64 e] 91 (0,0))).p2.set (.cells #[.int .i64 5,.int .i64 c,.int .i64 ok,.int .i64 oa,.int .i64 on,.int .i64 at',.int .i64 0,.int .i64 e] 91 (0,0))).tail.tail
theorem m_gave (hS:Sep (clB k (clC sh c f busy ok oa on N v1 v2 v3 v4 v5) :: l) H) :
  CallP Tryz.prog W 48 #[.pointer (some ⟨k,0,none⟩)] H fun v H'=>v=.agg #[.int .i64 4,.int .i64 c,.int .i64 0,.int .i64 0,.int .i64 0,.int .i64 oa,.int .i64 0,.int .i64 0]∧Sep (clB k (clC sh c f busy ok oa on N v1 v2 v3 v4 v5) :: l) H':=by
 refine CallP.of mixed Tryz.func48 tr48 (by show 1≤_;decide) fun W _=>?_
 simp only[↓DD,UU,↓reduceIte,xA,xB,xC,xD,xE,xF,xG,xH,xI,xJ,xK,xL,xM,xN,xO,xP,xQ,ne_eq,eq_self]
 refine newB_intro fun y hy f3 f4=>?_
 have hS:=(hS.new f3 (.cells #[.int .i64 0,.int .i64 0,.int .i64 0,.int .i64 0,.int .i64 0,.int .i64 0,.int .i64 0,.int .i64 0] 91 (0,0))).p1
 simp only[↓DD,UU,↓reduceIte,xA,xB,xC,xD,xE,xF,xG,xH,xI,xJ,xK,xL,xM,xN,xO,xP,xQ,ne_eq,eq_self]
 refine callT_of (m_event (busy:=busy) 4 hS) ?_
 rintro v H' ⟨rfl,hS⟩
 simp only[↓DD,UU,↓reduceIte,xA,xB,xC,xD,xE,xF,xG,xH,xI,xJ,xK,xL,xM,xN,xO,xP,xQ,ne_eq,eq_self]
 refine newB_intro fun z hz f5 f6=>?_
 have hk:=hS.look
 have r1:=fun o=>rd_of hk o
 have nkz:(k=z)=False:=f5 k (by rw[hk];rfl)
 have nzk:(z=k)=False:=f6 k (by rw[hk];rfl)
 have hy1:=hS.lk 1 rfl
 have nyz:(y=z)=False:=f5 y (by rw[hy1];rfl)
 have nzy:(z=y)=False:=f6 y (by rw[hy1];rfl)
 simp only[hk,r1,hy1,nkz,nzk,nyz,nzy,clC,Ev.upd_upd,↓DD,UU,↓reduceIte,xA,xB,xC,xD,xE,xF,xG,xH,xI,xJ,xK,xL,xM,xN,xO,xP,xQ,ne_eq,eq_self]
 exact((hS.new f5 (.cells #[.int .i64 4,.int .i64 c,.int .i64 0,.int .i64 0,.int .i64 0,.int .i64 oa,.int .i64 0,.int .i64 0] 91 (0,0))).p2.set (.cells #[.int .i64 4,.int .i64 c,.int .i64 0,.int .i64 0,.int .i64 0,.int .i64 oa,.int .i64 0,.int .i64 0] 91 (0,0))).tail.tail
theorem m_blkat {B:Bk} (hS:Sep l H):CallP Tryz.prog W 83 #[bkD B] H fun v H'=>∃ x,v=.int .i64 x∧Sep l H':=by
 refine CallP.of mixed Tryz.func83 tr83 (by show 1≤_;decide) fun W _=>?_
 simp only[bkD,↓DD,UU,↓reduceIte,xA,xB,xC,xD,xE,xF,xG,xH,xI,xJ,xK,xL,xM,xN,xO,xP,xQ,ne_eq,eq_self]
 refine newB_intro fun y hy f3 f4=>?_
 have hS:=hS.new f3 (.cells #[.bool B.lg,.int .i64 B.p,.int .i64 B.i,.int .i64 B.k,.int .i64 B.n] 102 (0,0))
 have hy1:=hS.look
 have r1:=fun o=>rd_of hy1 o
 cases e:B.lg
 all_goals
  rw[e]at hS hy1 r1
  simp only[hy1,r1,u_size,↓DD,UU,↓reduceIte,xA,xB,xC,xD,xE,xF,xG,xH,xI,xJ,xK,xL,xM,xN,xO,xP,xQ,ne_eq,eq_self]
  exact⟨_,rfl,hS.tail⟩
theorem m_blklen {B:Bk} (hS:Sep l H):CallP Tryz.prog W 84 #[bkD B] H fun v H'=>∃ x,v=.int .i64 x∧Sep l H':=by
 refine CallP.of mixed Tryz.func84 tr84 (by show 1≤_;decide) fun W _=>?_
 simp only[bkD,↓DD,UU,↓reduceIte,xA,xB,xC,xD,xE,xF,xG,xH,xI,xJ,xK,xL,xM,xN,xO,xP,xQ,ne_eq,eq_self]
 refine newB_intro fun y hy f3 f4=>?_
 have hS:=hS.new f3 (.cells #[.bool B.lg,.int .i64 B.p,.int .i64 B.i,.int .i64 B.k,.int .i64 B.n] 102 (0,0))
 have hy1:=hS.look
 have r1:=fun o=>rd_of hy1 o
 cases e:B.lg
 all_goals
  rw[e]at hS hy1 r1
  simp only[hy1,r1,u_size,↓DD,UU,↓reduceIte,xA,xB,xC,xD,xE,xF,xG,xH,xI,xJ,xK,xL,xM,xN,xO,xP,xQ,ne_eq,eq_self]
  exact⟨_,rfl,hS.tail⟩
theorem m_took {B:Bk} (hS:Sep (clB k (clC sh c f busy ok oa on N v1 v2 v3 v4 v5) :: l) H) :
  CallP Tryz.prog W 44 #[.pointer (some ⟨k,0,none⟩),bkD B] H fun v H'=>∃ z C,v=.slice (some ⟨z,0,none⟩) 2 2∧C.size=16∧C.toList.all Value.oneCell'=true∧Sep (clB k (clC sh c f false ok oa on N v1 v2 v3 v4 v5) :: sg z (.cells C 91 (0,0)) :: l) H':=by
 refine CallP.of mixed Tryz.func44 tr44 (by show 2≤_;decide) fun W _=>?_
 simp only[bkD,↓DD,UU,↓reduceIte,xA,xB,xC,xD,xE,xF,xG,xH,xI,xJ,xK,xL,xM,xN,xO,xP,xQ,ne_eq,eq_self]
 refine newB_intro fun x hx f1 f2=>?_
 have hS:=(hS.new f1 (.cells #[.bool B.lg,.int .i64 B.p,.int .i64 B.i,.int .i64 B.k,.int .i64 B.n] 102 (0,0))).p1
 simp only[↓DD,UU,↓reduceIte,xA,xB,xC,xD,xE,xF,xG,xH,xI,xJ,xK,xL,xM,xN,xO,xP,xQ,ne_eq,eq_self]
 refine callT_of (m_event (busy:=busy) 3 hS) ?_
 rintro v H' ⟨rfl,hS⟩
 simp only[↓DD,UU,↓reduceIte,xA,xB,xC,xD,xE,xF,xG,xH,xI,xJ,xK,xL,xM,xN,xO,xP,xQ,ne_eq,eq_self]
 refine newB_intro fun y hy f3 f4=>?_
 have hS:=hS.new f3 (.cells #[.int .i64 3,.int .i64 c,.int .i64 0,.int .i64 0,.int .i64 0,.int .i64 0,.int .i64 0,.int .i64 0] 91 (0,0))
 have hx1:=hS.lk 2 rfl
 have hy1:=hS.look
 have r1:=fun o n=>rdn_of hx1 o n
 have nxy:=hS.qen 0 2 (by decide) rfl rfl
 have nyx:=hS.neq 0 2 (by decide) rfl rfl
 simp only[Ev.upd_upd,↓DD,UU,↓reduceIte,xA,xB,xC,xD,xE,xF,xG,xH,xI,xJ,xK,xL,xM,xN,xO,xP,xQ,ne_eq,eq_self]
 refine draw_intro [(x,#[.bool B.lg,.int .i64 B.p,.int .i64 B.i,.int .i64 B.k,.int .i64 B.n],[]),(y,#[.int .i64 3,.int .i64 c,.int .i64 0,.int .i64 0,.int .i64 0,.int .i64 0,.int .i64 0,.int .i64 0],[5])] (by simp only[hx1,hy1,↓DD,UU,↓reduceIte,xA,xB,xC,xD,xE,xF,xG,xH,xI,xJ,xK,xL,xM,xN,xO,xP,xQ,ne_eq,eq_self]) ?_
 simp only[hx1,hy1,r1,nxy,nyx,↓DD,UU,↓reduceIte,xA,xB,xC,xD,xE,xF,xG,xH,xI,xJ,xK,xL,xM,xN,xO,xP,xQ,ne_eq,eq_self]
 refine callT_of (m_blkat (B:=B) hS) ?_
 rintro v H' ⟨a1,rfl,hS⟩
 have hx1:=hS.lk 2 rfl
 have hy1:=hS.look
 have r1:=fun o n=>rdn_of hx1 o n
 simp only[hx1,hy1,r1,nxy,nyx,↓DD,UU,↓reduceIte,xA,xB,xC,xD,xE,xF,xG,xH,xI,xJ,xK,xL,xM,xN,xO,xP,xQ,ne_eq,eq_self]
 refine callT_of (m_blklen (B:=B) hS) ?_
 rintro v H' ⟨a2,rfl,hS⟩
 have hx1:=hS.lk 2 rfl
 have hy1:=hS.look
 have r1:=fun o n=>rdn_of hx1 o n
 simp only[hx1,hy1,r1,nxy,nyx,Ev.upd_upd,↓DD,UU,↓reduceIte,xA,xB,xC,xD,xE,xF,xG,xH,xI,xJ,xK,xL,xM,xN,xO,xP,xQ,ne_eq,eq_self]
 have hS:=hS.set (.cells #[.int .i64 3,.int .i64 c,.int .i64 0,.int .i64 0,.int .i64 0,.int .i64 a1,.int .i64 a2,.int .i64 0] 91 (0,0))
 refine draw_intro [(x,#[.bool B.lg,.int .i64 B.p,.int .i64 B.i,.int .i64 B.k,.int .i64 B.n],[]),(y,#[.int .i64 3,.int .i64 c,.int .i64 0,.int .i64 0,.int .i64 0,.int .i64 a1,.int .i64 a2,.int .i64 0],[])] (by simp only[hx1,nxy,↓DD,UU,↓reduceIte,xA,xB,xC,xD,xE,xF,xG,xH,xI,xJ,xK,xL,xM,xN,xO,xP,xQ,ne_eq,eq_self]) ?_
 simp only[hx1,r1,nxy,nyx,↓DD,UU,↓reduceIte,xA,xB,xC,xD,xE,xF,xG,xH,xI,xJ,xK,xL,xM,xN,xO,xP,xQ,ne_eq,eq_self]
 refine callT_of (m_blkat (B:=B) hS) ?_
 rintro v H' ⟨a3,rfl,hS⟩
 have hx1:=hS.lk 2 rfl
 have hy1:=hS.look
 simp only[hx1,hy1,↓DD,UU,↓reduceIte,xA,xB,xC,xD,xE,xF,xG,xH,xI,xJ,xK,xL,xM,xN,xO,xP,xQ,ne_eq,eq_self]
 refine callT_of (m_answer (busy:=busy) 0 a3 hS.p1) ?_
 rintro v H' ⟨rfl,hS⟩
 have hx1:=hS.lk 2 rfl
 have hy1:=hS.lk 1 rfl
 simp only[hx1,hy1,↓DD,UU,↓reduceIte,xA,xB,xC,xD,xE,xF,xG,xH,xI,xJ,xK,xL,xM,xN,xO,xP,xQ,ne_eq,eq_self]
 refine newB_intro fun z hz f5 f6=>?_
 have nxz:(x=z)=False:=f5 x (by rw[hx1];rfl)
 have nyz:(y=z)=False:=f5 y (by rw[hy1];rfl)
 simp only[hx1,hy1,nxz,nyz,↓DD,UU,↓reduceIte,xA,xB,xC,xD,xE,xF,xG,xH,xI,xJ,xK,xL,xM,xN,xO,xP,xQ,ne_eq,eq_self]
 exact⟨z,#[.int .i64 3,.int .i64 c,.int .i64 0,.int .i64 0,.int .i64 0,.int .i64 a1,.int .i64 a2,.int .i64 0,.int .i64 5,.int .i64 c,.int .i64 ok,.int .i64 oa,.int .i64 on,.int .i64 a3,.int .i64 0,.int .i64 0],rfl,rfl,rfl,(hS.new f5 (.cells #[.int .i64 3,.int .i64 c,.int .i64 0,.int .i64 0,.int .i64 0,.int .i64 a1,.int .i64 a2,.int .i64 0,.int .i64 5,.int .i64 c,.int .i64 ok,.int .i64 oa,.int .i64 on,.int .i64 a3,.int .i64 0,.int .i64 0] 91 (0,0))).p1.p3.tail.p2.tail⟩
end
inductive CL (sh:Sh) (c f:Int):Jb→Array Value→List Hp→Prop
 | off {ok oa on N:Int} {v1 v2 v3 v4 v5:Value}:CL sh c f .off (clC sh c f false ok oa on N v1 v2 v3 v4 v5) []
 | tk {v:Rv} {ok oa on N:Int} {k1:Nat} {C:Array Value} {Y X1 X2 X3 X4 X5:Hp} (h:RD v C Y X1 X2 X3 X4 X5) :
   CL sh c f (.tk v) (clC sh c f true ok oa on N (.pointer (some ⟨k1,0,none⟩)) (.pointer none) (.pointer none) (.pointer none) (.pointer none)) [rsD k1 C,Y,X1,X2,X3,X4,X5]
 | cm {b:Bk} {ok oa on N:Int} {v1:Value} {k2:Nat} :
   CL sh c f (.cm (Cm.new sh c b)) (clC sh c f true ok oa on N v1 (.pointer (some ⟨k2,0,none⟩)) (.pointer none) (.pointer none) (.pointer none)) [cmD k2 (Cm.new sh c b)]
 | gv {t:Gv} {ok oa on N:Int} {k1:Nat} {C:Array Value} {X Y:Hp} (h:FR t C X Y) (h5:∃ x,C[5]? = some (.bool x)) (h6:C[6]? = some (.bool t.dn)) :
   CL sh c f (.gv t) (clC sh c f true ok oa on N (.pointer none) (.pointer none) (.pointer (some ⟨k1,0,none⟩)) (.pointer none) (.pointer none)) [frB k1 C,X,Y]
 | re {t:Re} {ok oa on N:Int} {k1:Nat} {C:Array Value} {P:List Hp} (h:RE t C P) :
   CL sh c f (.re t) (clC sh c f true ok oa on N (.pointer none) (.pointer none) (.pointer none) (.pointer (some ⟨k1,0,none⟩)) (.pointer none)) (rnwD k1 C :: P)
section
variable {W:World} {H:Hp} {k b s:Nat} {l P:List Hp} {sh:Sh} {c f:Int} {j:Jb} {w:Wd} {a:Option Addr} {cap:Nat} {g:Hp} {C:Array Value} {ws0:Nat→Int} {ca cn cf:Int}
set_option maxHeartbeats 4000000 in
theorem m_clstep (hI:Jb.KI sh ws0 c ca cn cf w j) (hw:w.of sh) (hE:CL sh c f j C P) (hL:LogOk a cap w g) (hl:w.st+1≤1000000000) (hS:Sep (clB k C :: (P ++ mB b s a cap w :: wR s w :: g :: l)) H) :
  CallP Tryz.prog W 12 #[.pointer (some ⟨k,0,none⟩),.pointer (some ⟨b,0,none⟩)] H fun u H'=>
   ∃ C2 P2 a2 cap2 g2,CL sh c f (j.step sh c w).1 C2 P2∧LogOk a2 cap2 (j.step sh c w).2 g2∧Sep (clB k C2 :: (P2 ++ mB b s a2 cap2 (j.step sh c w).2 :: wR s (j.step sh c w).2 :: g2 :: l)) H':=by
 refine CallP.of mixed Tryz.func12 tr12 (by show 2≤_;decide) fun W _=>?_
 have hk:=hS.look
 have r1:=fun o=>rd_of hk o
 cases hE with
 |off=>
  simp only[hk,r1,clC,↓DD,UU,↓reduceIte,xA,xB,xC,xD,xE,xF,xG,xH,xI,xJ,xK,xL,xM,xN,xO,xP,xQ,ne_eq,eq_self]
  exact⟨_,_,a,cap,g,.off,hL,hS⟩
 | @tk v ok oa on N k1 C Y X1 X2 X3 X4 X5 h=>
  cases hI with
  | tk hwf hofs hvd hal=>
  have hS:Sep (clB k _ :: rsD k1 C :: Y :: X1 :: X2 :: X3 :: X4 :: X5 :: mB b s a cap w :: wR s w :: g :: l) H:=hS
  simp only[hk,r1,clC,Ev.upd_upd,↓DD,UU,↓reduceIte,xA,xB,xC,xD,xE,xF,xG,xH,xI,xJ,xK,xL,xM,xN,xO,xP,xQ,ne_eq,eq_self]
  have hS:=hS.set (.cells (clC sh c f true ok oa on (w64 (N+1)) (.pointer (some ⟨k1,0,none⟩)) (.pointer none) (.pointer none) (.pointer none) (.pointer none)) 89 (0,0))
  have hS:=Sep.over (X:=[_]) (L:=[_,_,_,_,_,_,_,_,_,_]) hS
  simp only[wrap_w64,↓DD,UU,↓reduceIte,xA,xB,xC,xD,xE,xF,xG,xH,xI,xJ,xK,xL,xM,xN,xO,xP,xQ,ne_eq,eq_self]
  refine callT_of (m_rsstep hwf hvd (rv_shp hofs hw hvd) h hL hl hS) ?_
  rintro u H' ⟨rfl,C2,Z,Y1,Y2,Y3,Y4,Y5,a2,cap2,g2,h2,hL2,hS⟩
  have hall:=hal.step
  obtain⟨v',hv'⟩:∃ v',(v.step w).1=v':=⟨_,rfl⟩
  have es:Jb.step sh c (.tk v) w=(if v'.fd then .cm (Cm.new sh c v'.bk) else if v'.dn then .off else .tk v',(v.step w).2):=by rw[← hv'];rfl
  rw[es]
  rw[hv']at h2 hall
  obtain⟨wp,wq,hC2⟩:=h2.rd
  have hS:Sep (clB k (clC sh c f true ok oa on (w64 (N+1)) (.pointer (some ⟨k1,0,none⟩)) (.pointer none) (.pointer none) (.pointer none) (.pointer none)) :: rsD k1 C2 :: Z :: Y1 :: Y2 :: Y3 :: Y4 :: Y5 :: mB b s a2 cap2 (v.step w).2 :: wR s (v.step w).2 :: g2 :: l) H':=Sep.over (X:=[_,_,_,_,_,_,_,_,_,_]) (L:=[_]) hS
  have hk:H' k=some (Obj.cells (clC sh c f true ok oa on (w64 (N+1)) (.pointer (some ⟨k1,0,none⟩)) (.pointer none) (.pointer none) (.pointer none) (.pointer none)) 89 (0,0)):=hS.look
  have r1:=fun o=>rd_of hk o
  have rn:=fun o n=>rdn_of hk o n
  have hk1:=hS.lk 1 rfl
  have r2:=fun o=>rd_of hk1 o
  have r2n:=fun o n=>rdn_of hk1 o n
  have n1:=hS.neq 0 1 (by decide) rfl rfl
  have n1':=hS.qen 0 1 (by decide) rfl rfl
  have q6:C2[6]? = some (.bool v'.dn):=by rw[hC2];rfl
  have q5:C2[5]? = some (.bool v'.fd):=by rw[hC2];rfl
  cases hvf:v'.fd
  ·rw[hvf]at q5
   cases hvd2:v'.dn
   ·rw[hvd2]at q6
    simp only[hk,r1,hk1,r2,q5,q6,clC,↓DD,UU,↓reduceIte,xA,xB,xC,xD,xE,xF,xG,xH,xI,xJ,xK,xL,xM,xN,xO,xP,xQ,ne_eq,eq_self]
    exact⟨_,_,a2,cap2,g2,.tk h2,hL2,hS⟩
   ·rw[hvd2]at q6
    simp only[hk,r1,hk1,r2,q5,q6,clC,↓DD,UU,↓reduceIte,xA,xB,xC,xD,xE,xF,xG,xH,xI,xJ,xK,xL,xM,xN,xO,xP,xQ,ne_eq,eq_self]
    refine callT_of (m_answer 3 0 hS) ?_
    rintro u H' ⟨rfl,hS⟩
    simp only[↓DD,UU,↓reduceIte,xA,xB,xC,xD,xE,xF,xG,xH,xI,xJ,xK,xL,xM,xN,xO,xP,xQ,ne_eq,eq_self]
    refine newB_intro fun z hz f5 f6=>?_
    simp only[↓DD,UU,↓reduceIte,xA,xB,xC,xD,xE,xF,xG,xH,xI,xJ,xK,xL,xM,xN,xO,xP,xQ,ne_eq,eq_self]
    exact⟨_,[],a2,cap2,g2,.off,hL2,Sep.dropF (m:=[_,_,_,_,_,_,_]) (Sep.over (X:=[_]) (L:=[_,_,_,_,_,_,_]) (hS.new f5 _).tail)⟩
  ·have hvd2:v'.dn=true:=by
    cases e:v'.dn
    ·have:=Rv.nfd (by rw[← hv'];exact Rv.step_wf hwf) e;rw[hvf]at this;cases this
    ·rfl
   rw[hvf]at q5
   rw[hvd2]at q6
   obtain⟨hgot,-⟩:=hall.got hvd2 hvf
   have q0:C2=rsC v'.bk true true wp wq:=by rw[hC2,hvf,hvd2]
   clear hC2
   subst q0
   simp only[hk,r1,hk1,r2,q5,clC,rsC,↓DD,UU,↓reduceIte,xA,xB,xC,xD,xE,xF,xG,xH,xI,xJ,xK,xL,xM,xN,xO,xP,xQ,ne_eq,eq_self]
   refine draw_intro [(k,(clC sh c f true ok oa on (w64 (N+1)) (.pointer (some ⟨k1,0,none⟩)) (.pointer none) (.pointer none) (.pointer none) (.pointer none)),[]),(k1,rsC v'.bk true true wp wq,[])] (by simp only[hk,hk1,clC,rsC,↓DD,UU,↓reduceIte,xA,xB,xC,xD,xE,xF,xG,xH,xI,xJ,xK,xL,xM,xN,xO,xP,xQ,ne_eq,eq_self]) ?_
   simp only[hk,r1,rn,hk1,r2n,n1,n1',rsC,clC,↓DD,UU,↓reduceIte,xA,xB,xC,xD,xE,xF,xG,xH,xI,xJ,xK,xL,xM,xN,xO,xP,xQ,ne_eq,eq_self]
   refine callT_of (m_cmnew (sh:=sh) (c:=c) hgot.res.f (Rv.bk00 _) hS) ?_
   rintro u H' ⟨k2,rfl,hS⟩
   have hk:=hS.lk 1 rfl
   have hk1:=hS.lk 2 rfl
   have r2:=fun o=>rd_of hk1 o
   simp only[hk,hk1,r2,n1,n1',rsC,clC,Ev.upd_upd,↓DD,UU,↓reduceIte,xA,xB,xC,xD,xE,xF,xG,xH,xI,xJ,xK,xL,xM,xN,xO,xP,xQ,ne_eq,eq_self]
   exact⟨_,_,a2,cap2,g2,.cm,hL2,Sep.dropF (m:=[_,_,_,_,_,_,_]) (Sep.over (X:=[_,_]) (L:=[_,_,_,_,_,_,_]) (hS.p1.set (.cells (clC sh c f true ok oa on (w64 (N+1)) (.pointer (some ⟨k1,0,none⟩)) (.pointer (some ⟨k2,0,none⟩)) (.pointer none) (.pointer none) (.pointer none)) 89 (0,0))))⟩
 | @cm b' ok oa on N v1 k2=>
  cases hI with
  | cm hb hz hsn hr=>
  have hS:Sep (clB k _ :: cmD k2 (Cm.new sh c b') :: mB b s a cap w :: wR s w :: g :: l) H:=hS
  simp only[hk,r1,clC,Ev.upd_upd,↓DD,UU,↓reduceIte,xA,xB,xC,xD,xE,xF,xG,xH,xI,xJ,xK,xL,xM,xN,xO,xP,xQ,ne_eq,eq_self]
  have hS:=hS.set (.cells (clC sh c f true ok oa on (w64 (N+1)) v1 (.pointer (some ⟨k2,0,none⟩)) (.pointer none) (.pointer none) (.pointer none)) 89 (0,0))
  have hS:=Sep.over (X:=[_]) (L:=[_,_,_,_]) hS
  simp only[wrap_w64,↓DD,UU,↓reduceIte,xA,xB,xC,xD,xE,xF,xG,xH,xI,xJ,xK,xL,xM,xN,xO,xP,xQ,ne_eq,eq_self]
  refine callT_of (m_cmstep hb hw hL hl hS) ?_
  rintro u H' ⟨rfl,a2,cap2,g2,hL2,hS⟩
  have es:Jb.step sh c (.cm (Cm.new sh c b')) w=(.off,((Cm.new sh c b').step w).2):=rfl
  rw[es]
  have hS:=Sep.over (X:=[_,_,_,_]) (L:=[_]) hS
  have hk:=hS.look
  have r1:=fun o=>rd_of hk o
  have hk1:=hS.lk 1 rfl
  have r2n:=fun o n=>rdn_of hk1 o n
  have ebb:((Cm.new sh c b').step w).1.b=b':=by
   unfold Cm.step
   split
   ·rfl
   ·split<;>rfl
  simp only[hk,r1,hk1,r2n,cmE,ebb,clC,↓DD,UU,↓reduceIte,xA,xB,xC,xD,xE,xF,xG,xH,xI,xJ,xK,xL,xM,xN,xO,xP,xQ,ne_eq,eq_self]
  refine callT_of (m_took (B:=b') hS) ?_
  rintro u H' ⟨z,Cz,rfl,-,-,hS⟩
  simp only[↓DD,UU,↓reduceIte,xA,xB,xC,xD,xE,xF,xG,xH,xI,xJ,xK,xL,xM,xN,xO,xP,xQ,ne_eq,eq_self]
  exact⟨_,[],a2,cap2,g2,.off,hL2,hS.p1.tail.p1.tail⟩
 | @gv t ok oa on N k1 C X Y h h5 h6=>
  cases hI with
  | gv hvd hal=>
  obtain⟨x0,h5⟩:=h5
  have hwf:=hal.wf
  have hS:Sep (clB k _ :: frB k1 C :: X :: Y :: mB b s a cap w :: wR s w :: g :: l) H:=hS
  simp only[hk,r1,clC,Ev.upd_upd,↓DD,UU,↓reduceIte,xA,xB,xC,xD,xE,xF,xG,xH,xI,xJ,xK,xL,xM,xN,xO,xP,xQ,ne_eq,eq_self]
  have hk1':H k1=some (Obj.cells C 113 (0,0)):=hS.lk 1 rfl
  have r5:Ev.rd H k1 5=some (.bool x0):=by rw[rd_of hk1',h5]
  have n1:=hS.neq 0 1 (by decide) rfl rfl
  have n1':=hS.qen 0 1 (by decide) rfl rfl
  have hS:=hS.set (.cells (clC sh c f true ok oa on (w64 (N+1)) (.pointer none) (.pointer none) (.pointer (some ⟨k1,0,none⟩)) (.pointer none) (.pointer none)) 89 (0,0))
  have hS:=Sep.over (X:=[_]) (L:=[_,_,_,_,_,_]) hS
  simp only[wrap_w64,n1,n1',r5,↓DD,UU,↓reduceIte,xA,xB,xC,xD,xE,xF,xG,xH,xI,xJ,xK,xL,xM,xN,xO,xP,xQ,ne_eq,eq_self]
  refine callT_of (m_frstep hwf.1 hvd h (by rw[hwf.2.1];exact hw) hL hl hS) ?_
  rintro u H' ⟨rfl,c2,X2,Y2,a2,cap2,g2,hF2,i5,i6,hL2,hS⟩
  obtain⟨t',ht'⟩:∃ t',(t.step w).1=t':=⟨_,rfl⟩
  have es:Jb.step sh c (.gv t) w=(if t'.dn then .off else .gv t',(t.step w).2):=by rw[← ht'];rfl
  rw[es]
  rw[ht']at hF2 i5 i6
  have hS:Sep (clB k (clC sh c f true ok oa on (w64 (N+1)) (.pointer none) (.pointer none) (.pointer (some ⟨k1,0,none⟩)) (.pointer none) (.pointer none)) :: frB k1 c2 :: X2 :: Y2 :: mB b s a2 cap2 (t.step w).2 :: wR s (t.step w).2 :: g2 :: l) H':=Sep.over (X:=[_,_,_,_,_,_]) (L:=[_]) hS
  have hk:=hS.look
  have r1:=fun o=>rd_of hk o
  have hk1:=hS.lk 1 rfl
  have r2:=fun o=>rd_of hk1 o
  cases hg2:t'.gv
  ·rw[hg2]at i5
   cases hd2:t'.dn
   ·rw[hd2]at i6
    simp only[hk,r1,hk1,r2,i5,i6,clC,↓DD,UU,↓reduceIte,xA,xB,xC,xD,xE,xF,xG,xH,xI,xJ,xK,xL,xM,xN,xO,xP,xQ,ne_eq,eq_self]
    exact⟨_,_,a2,cap2,g2,.gv hF2 ⟨_,i5⟩ (by rw[i6,hd2]),hL2,hS⟩
   ·rw[hd2]at i6
    simp only[hk,r1,hk1,r2,i5,i6,clC,↓DD,UU,↓reduceIte,xA,xB,xC,xD,xE,xF,xG,xH,xI,xJ,xK,xL,xM,xN,xO,xP,xQ,ne_eq,eq_self]
    refine callT_of (m_answer 1 0 hS) ?_
    rintro u H' ⟨rfl,hS⟩
    simp only[↓DD,UU,↓reduceIte,xA,xB,xC,xD,xE,xF,xG,xH,xI,xJ,xK,xL,xM,xN,xO,xP,xQ,ne_eq,eq_self]
    refine newB_intro fun z2 hz2 f7 f8=>?_
    have ha:rds (upd H' z2 (.cells #[.int .i64 5,.int .i64 c,.int .i64 ok,.int .i64 oa,.int .i64 on,.int .i64 0,.int .i64 0,.int .i64 1] 91 (0,0))) (some ⟨z2,0,none⟩) 8=some #[.int .i64 5,.int .i64 c,.int .i64 ok,.int .i64 oa,.int .i64 on,.int .i64 0,.int .i64 0,.int .i64 1]:=by
     simp only[rds,↓DD,UU,↓reduceIte,xA,xB,xC,xD,xE,xF,xG,xH,xI,xJ,xK,xL,xM,xN,xO,xP,xQ,ne_eq,eq_self]
    simp only[ha,↓DD,UU,↓reduceIte,xA,xB,xC,xD,xE,xF,xG,xH,xI,xJ,xK,xL,xM,xN,xO,xP,xQ,ne_eq,eq_self]
    refine grow0 (T:=91) (new:=#[.int .i64 5,.int .i64 c,.int .i64 ok,.int .i64 oa,.int .i64 on,.int .i64 0,.int .i64 0,.int .i64 1]) (z0:=#[.int .i64 0,.int .i64 0,.int .i64 0,.int .i64 0,.int .i64 0,.int .i64 0,.int .i64 0,.int .i64 0]) (by decide) rfl rfl (hS.new f7 (.cells #[.int .i64 5,.int .i64 c,.int .i64 ok,.int .i64 oa,.int .i64 on,.int .i64 0,.int .i64 0,.int .i64 1] 91 (0,0))) fun old cp b4 hG2 hS=>?_
    simp only[↓DD,UU,↓reduceIte,xA,xB,xC,xD,xE,xF,xG,xH,xI,xJ,xK,xL,xM,xN,xO,xP,xQ,ne_eq,eq_self]
    exact⟨_,[],a2,cap2,g2,.off,hL2,Sep.dropF (m:=[_,_,_]) (Sep.over (X:=[_]) (L:=[_,_,_]) hS.tail.tail)⟩
  ·rw[hg2]at i5
   cases x0
   ·cases hd2:t'.dn
    ·rw[hd2]at i6
     simp only[hk,r1,hk1,r2,i5,i6,clC,↓DD,UU,↓reduceIte,xA,xB,xC,xD,xE,xF,xG,xH,xI,xJ,xK,xL,xM,xN,xO,xP,xQ,ne_eq,eq_self]
     refine callT_of (m_gave hS) ?_
     rintro u H' ⟨rfl,hS⟩
     simp only[↓DD,UU,↓reduceIte,xA,xB,xC,xD,xE,xF,xG,xH,xI,xJ,xK,xL,xM,xN,xO,xP,xQ,ne_eq,eq_self]
     refine newB_intro fun z hz f5 f6=>?_
     have ha:rds (upd H' z (.cells #[.int .i64 4,.int .i64 c,.int .i64 0,.int .i64 0,.int .i64 0,.int .i64 oa,.int .i64 0,.int .i64 0] 91 (0,0))) (some ⟨z,0,none⟩) 8=some #[.int .i64 4,.int .i64 c,.int .i64 0,.int .i64 0,.int .i64 0,.int .i64 oa,.int .i64 0,.int .i64 0]:=by
      simp only[rds,↓DD,UU,↓reduceIte,xA,xB,xC,xD,xE,xF,xG,xH,xI,xJ,xK,xL,xM,xN,xO,xP,xQ,ne_eq,eq_self]
     simp only[ha,↓DD,UU,↓reduceIte,xA,xB,xC,xD,xE,xF,xG,xH,xI,xJ,xK,xL,xM,xN,xO,xP,xQ,ne_eq,eq_self]
     refine grow0 (T:=91) (new:=#[.int .i64 4,.int .i64 c,.int .i64 0,.int .i64 0,.int .i64 0,.int .i64 oa,.int .i64 0,.int .i64 0]) (z0:=#[.int .i64 0,.int .i64 0,.int .i64 0,.int .i64 0,.int .i64 0,.int .i64 0,.int .i64 0,.int .i64 0]) (by decide) rfl rfl (hS.new f5 (.cells #[.int .i64 4,.int .i64 c,.int .i64 0,.int .i64 0,.int .i64 0,.int .i64 oa,.int .i64 0,.int .i64 0] 91 (0,0))) fun old cp b3 hG hS=>?_
     have hk:=hS.lk 2 rfl
     have r1:=fun o=>rd_of hk o
     have rn:=fun o n=>rdn_of hk o n
     have hk1:=hS.lk 3 rfl
     have r2:=fun o=>rd_of hk1 o
     have r2n:=fun o n=>rdn_of hk1 o n
     simp only[hk,r1,hk1,r2,i5,i6,clC,↓DD,UU,↓reduceIte,xA,xB,xC,xD,xE,xF,xG,xH,xI,xJ,xK,xL,xM,xN,xO,xP,xQ,ne_eq,eq_self]
     exact⟨_,_,a2,cap2,g2,.gv hF2 ⟨_,i5⟩ (by rw[i6,hd2]),hL2,hS.tail.tail⟩
    ·rw[hd2]at i6
     simp only[hk,r1,hk1,r2,i5,i6,clC,↓DD,UU,↓reduceIte,xA,xB,xC,xD,xE,xF,xG,xH,xI,xJ,xK,xL,xM,xN,xO,xP,xQ,ne_eq,eq_self]
     refine callT_of (m_gave hS) ?_
     rintro u H' ⟨rfl,hS⟩
     simp only[↓DD,UU,↓reduceIte,xA,xB,xC,xD,xE,xF,xG,xH,xI,xJ,xK,xL,xM,xN,xO,xP,xQ,ne_eq,eq_self]
     refine newB_intro fun z hz f5 f6=>?_
     have ha:rds (upd H' z (.cells #[.int .i64 4,.int .i64 c,.int .i64 0,.int .i64 0,.int .i64 0,.int .i64 oa,.int .i64 0,.int .i64 0] 91 (0,0))) (some ⟨z,0,none⟩) 8=some #[.int .i64 4,.int .i64 c,.int .i64 0,.int .i64 0,.int .i64 0,.int .i64 oa,.int .i64 0,.int .i64 0]:=by
      simp only[rds,↓DD,UU,↓reduceIte,xA,xB,xC,xD,xE,xF,xG,xH,xI,xJ,xK,xL,xM,xN,xO,xP,xQ,ne_eq,eq_self]
     simp only[ha,↓DD,UU,↓reduceIte,xA,xB,xC,xD,xE,xF,xG,xH,xI,xJ,xK,xL,xM,xN,xO,xP,xQ,ne_eq,eq_self]
     refine grow0 (T:=91) (new:=#[.int .i64 4,.int .i64 c,.int .i64 0,.int .i64 0,.int .i64 0,.int .i64 oa,.int .i64 0,.int .i64 0]) (z0:=#[.int .i64 0,.int .i64 0,.int .i64 0,.int .i64 0,.int .i64 0,.int .i64 0,.int .i64 0,.int .i64 0]) (by decide) rfl rfl (hS.new f5 (.cells #[.int .i64 4,.int .i64 c,.int .i64 0,.int .i64 0,.int .i64 0,.int .i64 oa,.int .i64 0,.int .i64 0] 91 (0,0))) fun old cp b3 hG hS=>?_
     have hk:=hS.lk 2 rfl
     have r1:=fun o=>rd_of hk o
     have rn:=fun o n=>rdn_of hk o n
     have hk1:=hS.lk 3 rfl
     have r2:=fun o=>rd_of hk1 o
     have r2n:=fun o n=>rdn_of hk1 o n
     simp only[hk,r1,hk1,r2,i5,i6,clC,↓DD,UU,↓reduceIte,xA,xB,xC,xD,xE,xF,xG,xH,xI,xJ,xK,xL,xM,xN,xO,xP,xQ,ne_eq,eq_self]
     have hS:=hS.p2
     refine callT_of (m_answer 0 0 hS) ?_
     rintro u H' ⟨rfl,hS⟩
     simp only[↓DD,UU,↓reduceIte,xA,xB,xC,xD,xE,xF,xG,xH,xI,xJ,xK,xL,xM,xN,xO,xP,xQ,ne_eq,eq_self]
     refine newB_intro fun z2 hz2 f7 f8=>?_
     have ha:rds (upd H' z2 (.cells #[.int .i64 5,.int .i64 c,.int .i64 ok,.int .i64 oa,.int .i64 on,.int .i64 0,.int .i64 0,.int .i64 0] 91 (0,0))) (some ⟨z2,0,none⟩) 8=some #[.int .i64 5,.int .i64 c,.int .i64 ok,.int .i64 oa,.int .i64 on,.int .i64 0,.int .i64 0,.int .i64 0]:=by
      simp only[rds,↓DD,UU,↓reduceIte,xA,xB,xC,xD,xE,xF,xG,xH,xI,xJ,xK,xL,xM,xN,xO,xP,xQ,ne_eq,eq_self]
     simp only[ha,↓DD,UU,↓reduceIte,xA,xB,xC,xD,xE,xF,xG,xH,xI,xJ,xK,xL,xM,xN,xO,xP,xQ,ne_eq,eq_self]
     refine grow1 (T:=91) (new:=#[.int .i64 5,.int .i64 c,.int .i64 ok,.int .i64 oa,.int .i64 on,.int .i64 0,.int .i64 0,.int .i64 0]) (z0:=#[.int .i64 0,.int .i64 0,.int .i64 0,.int .i64 0,.int .i64 0,.int .i64 0,.int .i64 0,.int .i64 0]) (m:=1) hG rfl (by decide) rfl rfl rfl (hS.new f7 (.cells #[.int .i64 5,.int .i64 c,.int .i64 ok,.int .i64 oa,.int .i64 on,.int .i64 0,.int .i64 0,.int .i64 0] 91 (0,0))).p2 (fun g4 H3 hG2 hS=>?_) (fun old cp b4 hG2 hS=>?_)
     all_goals
      simp only[↓DD,UU,↓reduceIte,xA,xB,xC,xD,xE,xF,xG,xH,xI,xJ,xK,xL,xM,xN,xO,xP,xQ,ne_eq,eq_self]
      exact⟨_,[],a2,cap2,g2,.off,hL2,Sep.dropF (m:=[_,_,_]) (Sep.over (X:=[_]) (L:=[_,_,_]) (hS.tail.tail.p1.tail))⟩
   ·cases hd2:t'.dn
    ·rw[hd2]at i6
     simp only[hk,r1,hk1,r2,i5,i6,clC,↓DD,UU,↓reduceIte,xA,xB,xC,xD,xE,xF,xG,xH,xI,xJ,xK,xL,xM,xN,xO,xP,xQ,ne_eq,eq_self]
     exact⟨_,_,a2,cap2,g2,.gv hF2 ⟨_,i5⟩ (by rw[i6,hd2]),hL2,hS⟩
    ·rw[hd2]at i6
     simp only[hk,r1,hk1,r2,i5,i6,clC,↓DD,UU,↓reduceIte,xA,xB,xC,xD,xE,xF,xG,xH,xI,xJ,xK,xL,xM,xN,xO,xP,xQ,ne_eq,eq_self]
     refine callT_of (m_answer 0 0 hS) ?_
     rintro u H' ⟨rfl,hS⟩
     simp only[↓DD,UU,↓reduceIte,xA,xB,xC,xD,xE,xF,xG,xH,xI,xJ,xK,xL,xM,xN,xO,xP,xQ,ne_eq,eq_self]
     refine newB_intro fun z2 hz2 f7 f8=>?_
     have ha:rds (upd H' z2 (.cells #[.int .i64 5,.int .i64 c,.int .i64 ok,.int .i64 oa,.int .i64 on,.int .i64 0,.int .i64 0,.int .i64 0] 91 (0,0))) (some ⟨z2,0,none⟩) 8=some #[.int .i64 5,.int .i64 c,.int .i64 ok,.int .i64 oa,.int .i64 on,.int .i64 0,.int .i64 0,.int .i64 0]:=by
      simp only[rds,↓DD,UU,↓reduceIte,xA,xB,xC,xD,xE,xF,xG,xH,xI,xJ,xK,xL,xM,xN,xO,xP,xQ,ne_eq,eq_self]
     simp only[ha,↓DD,UU,↓reduceIte,xA,xB,xC,xD,xE,xF,xG,xH,xI,xJ,xK,xL,xM,xN,xO,xP,xQ,ne_eq,eq_self]
     refine grow0 (T:=91) (new:=#[.int .i64 5,.int .i64 c,.int .i64 ok,.int .i64 oa,.int .i64 on,.int .i64 0,.int .i64 0,.int .i64 0]) (z0:=#[.int .i64 0,.int .i64 0,.int .i64 0,.int .i64 0,.int .i64 0,.int .i64 0,.int .i64 0,.int .i64 0]) (by decide) rfl rfl (hS.new f7 (.cells #[.int .i64 5,.int .i64 c,.int .i64 ok,.int .i64 oa,.int .i64 on,.int .i64 0,.int .i64 0,.int .i64 0] 91 (0,0))) fun old cp b4 hG2 hS=>?_
     simp only[↓DD,UU,↓reduceIte,xA,xB,xC,xD,xE,xF,xG,xH,xI,xJ,xK,xL,xM,xN,xO,xP,xQ,ne_eq,eq_self]
     exact⟨_,[],a2,cap2,g2,.off,hL2,Sep.dropF (m:=[_,_,_]) (Sep.over (X:=[_]) (L:=[_,_,_]) hS.tail.tail)⟩
 | @re t ok oa on N k1 C P h=>
  cases hI with
  | re hvd hal=>
  obtain⟨hs1,hs2,-⟩:=hal.es
  obtain⟨B1,gb1,fb1,er1,u1,u2,u3,u4,hC,-⟩:=h.rd
  have hS:Sep (clB k _ :: rnwD k1 C :: (P ++ mB b s a cap w :: wR s w :: g :: l)) H:=hS
  simp only[hk,r1,clC,Ev.upd_upd,↓DD,UU,↓reduceIte,xA,xB,xC,xD,xE,xF,xG,xH,xI,xJ,xK,xL,xM,xN,xO,xP,xQ,ne_eq,eq_self]
  have hk1':H k1=some (Obj.cells C 116 (0,0)):=hS.lk 1 rfl
  have r9:Ev.rd H k1 9=some (.bool gb1):=by rw[rd_of hk1',hC];rfl
  have n1:=hS.neq 0 1 (by decide) rfl rfl
  have n1':=hS.qen 0 1 (by decide) rfl rfl
  have hS:=hS.set (.cells (clC sh c f true ok oa on (w64 (N+1)) (.pointer none) (.pointer none) (.pointer none) (.pointer (some ⟨k1,0,none⟩)) (.pointer none)) 89 (0,0))
  have eA:P ++ mB b s a cap w :: wR s w :: g :: l=(P ++ [mB b s a cap w,wR s w,g]) ++ l:=by rw[List.append_assoc];rfl
  rw[eA]at hS
  have hS:=Sep.over (X:=[_]) (L:=rnwD k1 C :: (P ++ [mB b s a cap w,wR s w,g])) hS
  have eB:∀ (Q M:List Hp) (x1 x2 x3:Hp),(Q ++ [x1,x2,x3]) ++ M=Q ++ x1 :: x2 :: x3 :: M:=fun Q M x1 x2 x3=>by rw[List.append_assoc];rfl
  have hS:Sep (rnwD k1 C :: ((P ++ [mB b s a cap w,wR s w,g]) ++ (clB k _ :: l))) _:=hS
  rw[eB]at hS
  simp only[wrap_w64,n1,n1',r9,↓DD,UU,↓reduceIte,xA,xB,xC,xD,xE,xF,xG,xH,xI,xJ,xK,xL,xM,xN,xO,xP,xQ,ne_eq,eq_self]
  refine callT_of (m_rdstep (by rw[hs1,hs2];exact hal) hvd h hL hl hS) ?_
  rintro u H' ⟨rfl,C2,P2,a2,cap2,g2,hE2,hL2,hS⟩
  obtain⟨t',ht'⟩:∃ t',(t.step w).1=t':=⟨_,rfl⟩
  have es:Jb.step sh c (.re t) w=(if t'.dn then .off else .re t',(t.step w).2):=by rw[← ht'];rfl
  rw[es]
  rw[ht']at hE2
  rw[← eB]at hS
  have hS:=Sep.over (X:=rnwD k1 C2 :: (P2 ++ [mB b s a2 cap2 (t.step w).2,wR s (t.step w).2,g2])) (L:=[clB k (clC sh c f true ok oa on (w64 (N+1)) (.pointer none) (.pointer none) (.pointer none) (.pointer (some ⟨k1,0,none⟩)) (.pointer none))]) hS
  have hS:Sep (clB k (clC sh c f true ok oa on (w64 (N+1)) (.pointer none) (.pointer none) (.pointer none) (.pointer (some ⟨k1,0,none⟩)) (.pointer none)) :: rnwD k1 C2 :: ((P2 ++ [mB b s a2 cap2 (t.step w).2,wR s (t.step w).2,g2]) ++ l)) H':=hS
  rw[eB]at hS
  obtain⟨B2,gb2,fb2,er2,u1',u2',u3',u4',hC2,hfo⟩:=hE2.rd
  subst hC2
  have hk:=hS.look
  have r1:=fun o=>rd_of hk o
  have rn:=fun o n=>rdn_of hk o n
  have hk1:=hS.lk 1 rfl
  have r2:=fun o=>rd_of hk1 o
  have r2n:=fun o n=>rdn_of hk1 o n
  cases gb2
  ·simp only[hk,r1,rn,hk1,r2,r2n,rnwC,clC,↓DD,UU,↓reduceIte,xA,xB,xC,xD,xE,xF,xG,xH,xI,xJ,xK,xL,xM,xN,xO,xP,xQ,ne_eq,eq_self]
   have hE2:=hE2
   cases fb2
   ·cases hd2:t'.dn
    ·rw[hd2]at hE2 hk1 r2 r2n hS
     simp only[hk,r1,rn,hk1,r2,r2n,rnwC,clC,↓DD,UU,↓reduceIte,xA,xB,xC,xD,xE,xF,xG,xH,xI,xJ,xK,xL,xM,xN,xO,xP,xQ,ne_eq,eq_self]
     exact⟨_,_,a2,cap2,g2,.re hE2,hL2,hS⟩
    ·rw[hd2]at hk1 r2 r2n hS
     simp only[hk,r1,rn,hk1,r2,r2n,rnwC,clC,↓DD,UU,↓reduceIte,xA,xB,xC,xD,xE,xF,xG,xH,xI,xJ,xK,xL,xM,xN,xO,xP,xQ,ne_eq,eq_self]
     refine callT_of (m_answer er2 0 hS) ?_
     rintro u H' ⟨rfl,hS⟩
     simp only[↓DD,UU,↓reduceIte,xA,xB,xC,xD,xE,xF,xG,xH,xI,xJ,xK,xL,xM,xN,xO,xP,xQ,ne_eq,eq_self]
     refine newB_intro fun z2 hz2 f7 f8=>?_
     have ha:rds (upd H' z2 (.cells #[.int .i64 5,.int .i64 c,.int .i64 ok,.int .i64 oa,.int .i64 on,.int .i64 0,.int .i64 0,.int .i64 er2] 91 (0,0))) (some ⟨z2,0,none⟩) 8=some #[.int .i64 5,.int .i64 c,.int .i64 ok,.int .i64 oa,.int .i64 on,.int .i64 0,.int .i64 0,.int .i64 er2]:=by
      simp only[rds,↓DD,UU,↓reduceIte,xA,xB,xC,xD,xE,xF,xG,xH,xI,xJ,xK,xL,xM,xN,xO,xP,xQ,ne_eq,eq_self]
     simp only[ha,↓DD,UU,↓reduceIte,xA,xB,xC,xD,xE,xF,xG,xH,xI,xJ,xK,xL,xM,xN,xO,xP,xQ,ne_eq,eq_self]
     refine grow0 (T:=91) (new:=#[.int .i64 5,.int .i64 c,.int .i64 ok,.int .i64 oa,.int .i64 on,.int .i64 0,.int .i64 0,.int .i64 er2]) (z0:=#[.int .i64 0,.int .i64 0,.int .i64 0,.int .i64 0,.int .i64 0,.int .i64 0,.int .i64 0,.int .i64 0]) (by decide) rfl rfl (hS.new f7 (.cells #[.int .i64 5,.int .i64 c,.int .i64 ok,.int .i64 oa,.int .i64 on,.int .i64 0,.int .i64 0,.int .i64 er2] 91 (0,0))) fun old cp b4 hG2 hS=>?_
     simp only[↓DD,UU,↓reduceIte,xA,xB,xC,xD,xE,xF,xG,xH,xI,xJ,xK,xL,xM,xN,xO,xP,xQ,ne_eq,eq_self]
     exact⟨_,[],a2,cap2,g2,.off,hL2,Sep.dropF (m:=rnwD k1 _ :: P2) (Sep.over (X:=[_]) (L:=rnwD k1 _ :: P2) hS.tail.tail)⟩
   ·have hd2:t'.dn=true:=hfo rfl
    rw[hd2]at hk1 r2 r2n hS ⊢
    simp only[hk,r1,rn,hk1,r2,r2n,rnwC,clC,↓DD,UU,↓reduceIte,xA,xB,xC,xD,xE,xF,xG,xH,xI,xJ,xK,xL,xM,xN,xO,xP,xQ,ne_eq,eq_self]
    refine callT_of (m_took (B:=B2) hS) ?_
    rintro u H' ⟨z2,Cz,rfl,hc1,hc2,hS⟩
    have hz2:=hS.lk 1 rfl
    have ha:rds H' (some ⟨z2,0,none⟩) 16=some Cz:=by
     show rdn H' z2 0 16=_
     rw[rdn_of hz2,if_pos (by omega),show 0+16=Cz.size by omega,Array.extract_size]
    simp only[ha,hc1,↓DD,UU,↓reduceIte,xA,xB,xC,xD,xE,xF,xG,xH,xI,xJ,xK,xL,xM,xN,xO,xP,xQ,ne_eq,eq_self]
    refine grow0 (T:=91) (m:=2) (new:=Cz) (z0:=#[.int .i64 0,.int .i64 0,.int .i64 0,.int .i64 0,.int .i64 0,.int .i64 0,.int .i64 0,.int .i64 0]) (by decide) hc1 rfl hS fun old cp b4 hG2 hS=>?_
    simp only[↓DD,UU,↓reduceIte,xA,xB,xC,xD,xE,xF,xG,xH,xI,xJ,xK,xL,xM,xN,xO,xP,xQ,ne_eq,eq_self]
    exact⟨_,[],a2,cap2,g2,.off,hL2,Sep.dropF (m:=rnwD k1 _ :: P2) (Sep.over (X:=[_]) (L:=rnwD k1 _ :: P2) hS.tail.p1.tail)⟩
  ·cases gb1
   ·simp only[hk,r1,rn,hk1,r2,r2n,rnwC,clC,↓DD,UU,↓reduceIte,xA,xB,xC,xD,xE,xF,xG,xH,xI,xJ,xK,xL,xM,xN,xO,xP,xQ,ne_eq,eq_self]
    refine callT_of (m_gave hS) ?_
    rintro u H' ⟨rfl,hS⟩
    simp only[↓DD,UU,↓reduceIte,xA,xB,xC,xD,xE,xF,xG,xH,xI,xJ,xK,xL,xM,xN,xO,xP,xQ,ne_eq,eq_self]
    refine newB_intro fun z hz f5 f6=>?_
    have ha:rds (upd H' z (.cells #[.int .i64 4,.int .i64 c,.int .i64 0,.int .i64 0,.int .i64 0,.int .i64 oa,.int .i64 0,.int .i64 0] 91 (0,0))) (some ⟨z,0,none⟩) 8=some #[.int .i64 4,.int .i64 c,.int .i64 0,.int .i64 0,.int .i64 0,.int .i64 oa,.int .i64 0,.int .i64 0]:=by
     simp only[rds,↓DD,UU,↓reduceIte,xA,xB,xC,xD,xE,xF,xG,xH,xI,xJ,xK,xL,xM,xN,xO,xP,xQ,ne_eq,eq_self]
    simp only[ha,↓DD,UU,↓reduceIte,xA,xB,xC,xD,xE,xF,xG,xH,xI,xJ,xK,xL,xM,xN,xO,xP,xQ,ne_eq,eq_self]
    refine grow0 (T:=91) (new:=#[.int .i64 4,.int .i64 c,.int .i64 0,.int .i64 0,.int .i64 0,.int .i64 oa,.int .i64 0,.int .i64 0]) (z0:=#[.int .i64 0,.int .i64 0,.int .i64 0,.int .i64 0,.int .i64 0,.int .i64 0,.int .i64 0,.int .i64 0]) (by decide) rfl rfl (hS.new f5 (.cells #[.int .i64 4,.int .i64 c,.int .i64 0,.int .i64 0,.int .i64 0,.int .i64 oa,.int .i64 0,.int .i64 0] 91 (0,0))) fun old cp b3 hG hS=>?_
    have hk:=hS.lk 2 rfl
    have r1:=fun o=>rd_of hk o
    have rn:=fun o n=>rdn_of hk o n
    have hk1:=hS.lk 3 rfl
    have r2:=fun o=>rd_of hk1 o
    have r2n:=fun o n=>rdn_of hk1 o n
    cases fb2
    ·cases hd2:t'.dn
     ·rw[hd2]at hE2 hk1 r2 r2n hS
      simp only[hk,r1,rn,hk1,r2,r2n,rnwC,clC,↓DD,UU,↓reduceIte,xA,xB,xC,xD,xE,xF,xG,xH,xI,xJ,xK,xL,xM,xN,xO,xP,xQ,ne_eq,eq_self]
      exact⟨_,_,a2,cap2,g2,.re hE2,hL2,hS.tail.tail⟩
     ·rw[hd2]at hk1 r2 r2n hS
      simp only[hk,r1,rn,hk1,r2,r2n,rnwC,clC,↓DD,UU,↓reduceIte,xA,xB,xC,xD,xE,xF,xG,xH,xI,xJ,xK,xL,xM,xN,xO,xP,xQ,ne_eq,eq_self]
      have hS:=hS.p2
      refine callT_of (m_answer er2 0 hS) ?_
      rintro u H' ⟨rfl,hS⟩
      simp only[↓DD,UU,↓reduceIte,xA,xB,xC,xD,xE,xF,xG,xH,xI,xJ,xK,xL,xM,xN,xO,xP,xQ,ne_eq,eq_self]
      refine newB_intro fun z2 hz2 f7 f8=>?_
      have ha:rds (upd H' z2 (.cells #[.int .i64 5,.int .i64 c,.int .i64 ok,.int .i64 oa,.int .i64 on,.int .i64 0,.int .i64 0,.int .i64 er2] 91 (0,0))) (some ⟨z2,0,none⟩) 8=some #[.int .i64 5,.int .i64 c,.int .i64 ok,.int .i64 oa,.int .i64 on,.int .i64 0,.int .i64 0,.int .i64 er2]:=by
       simp only[rds,↓DD,UU,↓reduceIte,xA,xB,xC,xD,xE,xF,xG,xH,xI,xJ,xK,xL,xM,xN,xO,xP,xQ,ne_eq,eq_self]
      simp only[ha,↓DD,UU,↓reduceIte,xA,xB,xC,xD,xE,xF,xG,xH,xI,xJ,xK,xL,xM,xN,xO,xP,xQ,ne_eq,eq_self]
      refine grow1 (T:=91) (new:=#[.int .i64 5,.int .i64 c,.int .i64 ok,.int .i64 oa,.int .i64 on,.int .i64 0,.int .i64 0,.int .i64 er2]) (z0:=#[.int .i64 0,.int .i64 0,.int .i64 0,.int .i64 0,.int .i64 0,.int .i64 0,.int .i64 0,.int .i64 0]) (m:=1) hG rfl (by decide) rfl rfl rfl (hS.new f7 (.cells #[.int .i64 5,.int .i64 c,.int .i64 ok,.int .i64 oa,.int .i64 on,.int .i64 0,.int .i64 0,.int .i64 er2] 91 (0,0))).p2 (fun g4 H3 hG2 hS=>?_) (fun old cp b4 hG2 hS=>?_)
      all_goals
       simp only[↓DD,UU,↓reduceIte,xA,xB,xC,xD,xE,xF,xG,xH,xI,xJ,xK,xL,xM,xN,xO,xP,xQ,ne_eq,eq_self]
       exact⟨_,[],a2,cap2,g2,.off,hL2,Sep.dropF (m:=rnwD k1 _ :: P2) (Sep.over (X:=[_]) (L:=rnwD k1 _ :: P2) (hS.tail.tail.p1.tail))⟩
    ·have hd2:t'.dn=true:=hfo rfl
     rw[hd2]at hk1 r2 r2n hS ⊢
     simp only[hk,r1,rn,hk1,r2,r2n,rnwC,clC,↓DD,UU,↓reduceIte,xA,xB,xC,xD,xE,xF,xG,xH,xI,xJ,xK,xL,xM,xN,xO,xP,xQ,ne_eq,eq_self]
     have hS:=hS.p2
     refine callT_of (m_took (B:=B2) hS) ?_
     rintro u H' ⟨z2,Cz,rfl,hc1,hc2,hS⟩
     have hz2:=hS.lk 1 rfl
     have ha:rds H' (some ⟨z2,0,none⟩) 16=some Cz:=by
      show rdn H' z2 0 16=_
      rw[rdn_of hz2,if_pos (by omega),show 0+16=Cz.size by omega,Array.extract_size]
     simp only[ha,hc1,↓DD,UU,↓reduceIte,xA,xB,xC,xD,xE,xF,xG,xH,xI,xJ,xK,xL,xM,xN,xO,xP,xQ,ne_eq,eq_self]
     refine grow1 (T:=91) (new:=Cz) (z0:=#[.int .i64 0,.int .i64 0,.int .i64 0,.int .i64 0,.int .i64 0,.int .i64 0,.int .i64 0,.int .i64 0]) (m:=2) hG rfl (by decide) hc1 rfl hc2 hS.p2 (fun g4 H3 hG2 hS=>?_) (fun old cp b4 hG2 hS=>?_)
     all_goals
      simp only[↓DD,UU,↓reduceIte,xA,xB,xC,xD,xE,xF,xG,xH,xI,xJ,xK,xL,xM,xN,xO,xP,xQ,ne_eq,eq_self]
      exact⟨_,[],a2,cap2,g2,.off,hL2,Sep.dropF (m:=rnwD k1 _ :: P2) (Sep.over (X:=[_]) (L:=rnwD k1 _ :: P2) hS.tail.p1.tail.p1.tail)⟩
   ·simp only[hk,r1,rn,hk1,r2,r2n,rnwC,clC,↓DD,UU,↓reduceIte,xA,xB,xC,xD,xE,xF,xG,xH,xI,xJ,xK,xL,xM,xN,xO,xP,xQ,ne_eq,eq_self]
    cases fb2
    ·cases hd2:t'.dn
     ·rw[hd2]at hE2 hk1 r2 r2n hS
      simp only[hk,r1,rn,hk1,r2,r2n,rnwC,clC,↓DD,UU,↓reduceIte,xA,xB,xC,xD,xE,xF,xG,xH,xI,xJ,xK,xL,xM,xN,xO,xP,xQ,ne_eq,eq_self]
      exact⟨_,_,a2,cap2,g2,.re hE2,hL2,hS⟩
     ·rw[hd2]at hk1 r2 r2n hS
      simp only[hk,r1,rn,hk1,r2,r2n,rnwC,clC,↓DD,UU,↓reduceIte,xA,xB,xC,xD,xE,xF,xG,xH,xI,xJ,xK,xL,xM,xN,xO,xP,xQ,ne_eq,eq_self]
      refine callT_of (m_answer er2 0 hS) ?_
      rintro u H' ⟨rfl,hS⟩
      simp only[↓DD,UU,↓reduceIte,xA,xB,xC,xD,xE,xF,xG,xH,xI,xJ,xK,xL,xM,xN,xO,xP,xQ,ne_eq,eq_self]
      refine newB_intro fun z2 hz2 f7 f8=>?_
      have ha:rds (upd H' z2 (.cells #[.int .i64 5,.int .i64 c,.int .i64 ok,.int .i64 oa,.int .i64 on,.int .i64 0,.int .i64 0,.int .i64 er2] 91 (0,0))) (some ⟨z2,0,none⟩) 8=some #[.int .i64 5,.int .i64 c,.int .i64 ok,.int .i64 oa,.int .i64 on,.int .i64 0,.int .i64 0,.int .i64 er2]:=by
       simp only[rds,↓DD,UU,↓reduceIte,xA,xB,xC,xD,xE,xF,xG,xH,xI,xJ,xK,xL,xM,xN,xO,xP,xQ,ne_eq,eq_self]
      simp only[ha,↓DD,UU,↓reduceIte,xA,xB,xC,xD,xE,xF,xG,xH,xI,xJ,xK,xL,xM,xN,xO,xP,xQ,ne_eq,eq_self]
      refine grow0 (T:=91) (new:=#[.int .i64 5,.int .i64 c,.int .i64 ok,.int .i64 oa,.int .i64 on,.int .i64 0,.int .i64 0,.int .i64 er2]) (z0:=#[.int .i64 0,.int .i64 0,.int .i64 0,.int .i64 0,.int .i64 0,.int .i64 0,.int .i64 0,.int .i64 0]) (by decide) rfl rfl (hS.new f7 (.cells #[.int .i64 5,.int .i64 c,.int .i64 ok,.int .i64 oa,.int .i64 on,.int .i64 0,.int .i64 0,.int .i64 er2] 91 (0,0))) fun old cp b4 hG2 hS=>?_
      simp only[↓DD,UU,↓reduceIte,xA,xB,xC,xD,xE,xF,xG,xH,xI,xJ,xK,xL,xM,xN,xO,xP,xQ,ne_eq,eq_self]
      exact⟨_,[],a2,cap2,g2,.off,hL2,Sep.dropF (m:=rnwD k1 _ :: P2) (Sep.over (X:=[_]) (L:=rnwD k1 _ :: P2) hS.tail.tail)⟩
    ·have hd2:t'.dn=true:=hfo rfl
     rw[hd2]at hk1 r2 r2n hS ⊢
     simp only[hk,r1,rn,hk1,r2,r2n,rnwC,clC,↓DD,UU,↓reduceIte,xA,xB,xC,xD,xE,xF,xG,xH,xI,xJ,xK,xL,xM,xN,xO,xP,xQ,ne_eq,eq_self]
     refine callT_of (m_took (B:=B2) hS) ?_
     rintro u H' ⟨z2,Cz,rfl,hc1,hc2,hS⟩
     have hz2:=hS.lk 1 rfl
     have ha:rds H' (some ⟨z2,0,none⟩) 16=some Cz:=by
      show rdn H' z2 0 16=_
      rw[rdn_of hz2,if_pos (by omega),show 0+16=Cz.size by omega,Array.extract_size]
     simp only[ha,hc1,↓DD,UU,↓reduceIte,xA,xB,xC,xD,xE,xF,xG,xH,xI,xJ,xK,xL,xM,xN,xO,xP,xQ,ne_eq,eq_self]
     refine grow0 (T:=91) (m:=2) (new:=Cz) (z0:=#[.int .i64 0,.int .i64 0,.int .i64 0,.int .i64 0,.int .i64 0,.int .i64 0,.int .i64 0,.int .i64 0]) (by decide) hc1 rfl hS fun old cp b4 hG2 hS=>?_
     simp only[↓DD,UU,↓reduceIte,xA,xB,xC,xD,xE,xF,xG,xH,xI,xJ,xK,xL,xM,xN,xO,xP,xQ,ne_eq,eq_self]
     exact⟨_,[],a2,cap2,g2,.off,hL2,Sep.dropF (m:=rnwD k1 _ :: P2) (Sep.over (X:=[_]) (L:=rnwD k1 _ :: P2) hS.tail.p1.tail)⟩
end
end Go.Proofs.YtbcdaglbdnkocaaGreat
set_option maxRecDepth 8000
namespace Go.Proofs.YtbcdaglbdnkocaaGreat
open Go Go.Ev Go.Pl
def hlf:Nat:=4602678819172646912
def shv (n:Nat):Option Int:=(floatBits .mul .f64 hlf (floatOfInt .f64 n)).bind fun r=>floatToIntVal .f64 r .i64
theorem shv_all:∀ n:Fin 65,shv n.val=some ((n.val / 2:Nat):Int):=by decide +kernel
theorem f_neq:fcompared .neq hlf hlf=some false:=by decide +kernel
theorem f_lss:fcompared .lss hlf 0=some false:=by decide +kernel
theorem f_eql:fcompared .eql hlf 0=some false:=by decide +kernel
theorem f_one:fcompared .geq hlf 4607182418800017408=some false:=by decide +kernel
theorem f_max:fcompared .gtr hlf 9218868437227405311=some false:=by decide +kernel
theorem f_min:fcompared .gtr (Op.negFloat .f64 hlf) 9218868437227405311=some false:=by decide +kernel
section
variable {W:World} {H:Hp} {l:List Hp}
theorem m_isinf (x:Int) (hx:x=1∨x=-1) (hS:Sep l H):CallP Tryz.prog W 118 #[.float .f64 hlf,.int .i64 x] H fun v H'=>v=.bool false∧Sep l H':=by
 refine CallP.of mixed Tryz.func118 tr118 (by show 2≤_;decide) fun W _=>?_
 rcases hx with rfl | rfl
 all_goals
  simp only[↓o_fcm,↓t_fcm,↓o_fng,↓t_fng,onFl_mk,f_max,f_min,↓DD,UU,↓reduceIte,xA,xB,xC,xD,xE,xF,xG,xH,xI,xJ,xK,xL,xM,xN,xO,xP,xQ,ne_eq,eq_self]
  exact hS
theorem m_kind (hS:Sep l H):CallP Tryz.prog W 71 #[.float .f64 hlf] H fun v H'=>v=.int .i64 4∧Sep l H':=by
 refine CallP.of mixed Tryz.func71 tr71 (by show 1≤_;decide) fun W _=>?_
 simp only[↓o_fcm,↓t_fcm,onFl_mk,f_neq,f_lss,f_eql,↓DD,UU,↓reduceIte,xA,xB,xC,xD,xE,xF,xG,xH,xI,xJ,xK,xL,xM,xN,xO,xP,xQ,ne_eq,eq_self]
 refine callT_of (m_isinf (-1) (.inr rfl) hS) ?_
 rintro v H' ⟨rfl,hS⟩
 simp only[↓o_fcm,↓t_fcm,onFl_mk,f_neq,f_lss,f_eql,↓DD,UU,↓reduceIte,xA,xB,xC,xD,xE,xF,xG,xH,xI,xJ,xK,xL,xM,xN,xO,xP,xQ,ne_eq,eq_self]
 refine callT_of (m_isinf 1 (.inl rfl) hS) ?_
 rintro v H' ⟨rfl,hS⟩
 simp only[↓o_fcm,↓t_fcm,onFl_mk,f_neq,f_lss,f_eql,↓DD,UU,↓reduceIte,xA,xB,xC,xD,xE,xF,xG,xH,xI,xJ,xK,xL,xM,xN,xO,xP,xQ,ne_eq,eq_self]
 exact hS
theorem m_share {n:Int} (h0:1≤n) (h1:n≤64) (hS:Sep l H):CallP Tryz.prog W 35 #[.float .f64 hlf,.int .i64 n] H fun v H'=>∃ f,v=.int .i64 f∧0≤f∧f<n∧Sep l H':=by
 refine CallP.of mixed Tryz.func35 tr35 (by show 2≤_;decide) fun W _=>?_
 have g1:decide (n<1)=false:=decide_eq_false (by omega)
 simp only[g1,↓o_fcm,↓t_fcm,onFl_mk,↓DD,UU,↓reduceIte,xA,xB,xC,xD,xE,xF,xG,xH,xI,xJ,xK,xL,xM,xN,xO,xP,xQ,ne_eq,eq_self]
 refine callT_of (m_kind hS) ?_
 rintro v H' ⟨rfl,hS⟩
 obtain⟨N,hN⟩:∃ N:Nat,(N:Int)=n:=⟨n.toNat,by omega⟩
 have hv:=shv_all ⟨N,by omega⟩
 dsimp only at hv
 unfold shv at hv
 rw[hN]at hv
 obtain⟨r,hr,hi⟩:=Option.bind_eq_some_iff.1 hv
 have wn:w64 (n - 1)=n - 1:=w64_eq (by omega) (by omega)
 simp only[g1,f_lss,f_one,hr,hi,wrap_w64,wn,↓o_fcm,↓t_fcm,↓o_far,↓t_far,↓o_fcv,↓t_fcv,↓o_fti,↓t_fti,onFl_mk,↓DD,UU,↓reduceIte,xA,xB,xC,xD,xE,xF,xG,xH,xI,xJ,xK,xL,xM,xN,xO,xP,xQ,ne_eq,eq_self]
 refine⟨_,rfl,?_,?_,hS⟩
 ·split<;>omega
 ·split<;>omega
end
end Go.Proofs.YtbcdaglbdnkocaaGreat
set_option maxRecDepth 8000
namespace Go.Proofs.YtbcdaglbdnkocaaGreat
open Go Go.Ev Go.Pl Go.Ma
inductive Ini (sh:Sh) (c f kd ca cn:Int):Jb→Prop
 | off:Ini sh c f kd ca cn .off
 | tk (h:fine cn=true) (hl:large cn=true→pages cn≤sh.p):Ini sh c f kd ca cn (.tk (Rv.new sh c cn f))
 | gv (h:there sh.p sh.c sh.m ca=true):Ini sh c f kd ca cn (.gv (Gv.new sh c ca))
 | re (h:Re.ok sh c ca cn=true) (hl:large cn=true→pages cn≤sh.p):Ini sh c f kd ca cn (.re (Re.new sh c ca cn f))
section
variable {W:World} {H:Hp} {k:Nat} {l:List Hp} {sh:Sh} {c f:Int}
theorem m_clnew (hm:may sh.p sh.c sh.m=true) (hc:0≤c∧c<sh.c) (hS:Sep l H) :
  CallP Tryz.prog W 9 #[.agg #[.int .i64 sh.p,.int .i64 sh.c,.int .i64 sh.m],.int .i64 c,.float .f64 hlf] H fun v H'=>∃ k f,v=.pointer (some ⟨k,0,none⟩)∧0≤f∧f<sh.p∧Sep (clB k (clC sh c f false 0 0 0 0 (.pointer none) (.pointer none) (.pointer none) (.pointer none) (.pointer none)) :: l) H':=by
 refine CallP.of mixed Tryz.func9 tr9 (by show 3≤_;decide) fun W _=>?_
 have hb:=(may_iff _ _ _).1 hm
 have g1:decide (status sh.p sh.c sh.m c<0)=false:=by rw[status_yes hm hc.1 hc.2];exact decide_eq_false (by omega)
 simp only[↓DD,UU,↓reduceIte,xA,xB,xC,xD,xE,xF,xG,xH,xI,xJ,xK,xL,xM,xN,xO,xP,xQ,ne_eq,eq_self]
 refine newB_intro fun x hx f1 f2=>?_
 have hS:=hS.new f1 (.cells #[.int .i64 sh.p,.int .i64 sh.c,.int .i64 sh.m] 23 (0,0))
 have hx1:=hS.look
 have r0:=fun o=>rd_of hx1 o
 have r1:=fun o n=>rdn_of hx1 o n
 simp only[hx1,r1,u_status,g1,↓DD,UU,↓reduceIte,xA,xB,xC,xD,xE,xF,xG,xH,xI,xJ,xK,xL,xM,xN,xO,xP,xQ,ne_eq,eq_self]
 refine draw_intro [(x,#[.int .i64 sh.p,.int .i64 sh.c,.int .i64 sh.m],[])] (by simp only[hx1,↓DD,UU,↓reduceIte,xA,xB,xC,xD,xE,xF,xG,xH,xI,xJ,xK,xL,xM,xN,xO,xP,xQ,ne_eq,eq_self]) ?_
 simp only[hx1,r0,r1,↓DD,UU,↓reduceIte,xA,xB,xC,xD,xE,xF,xG,xH,xI,xJ,xK,xL,xM,xN,xO,xP,xQ,ne_eq,eq_self]
 refine callT_of (m_share (n:=sh.p) (by omega) (by omega) hS) ?_
 rintro v H' ⟨f,rfl,h0,h1,hS⟩
 have hx1:=hS.look
 simp only[hx1,↓DD,UU,↓reduceIte,xA,xB,xC,xD,xE,xF,xG,xH,xI,xJ,xK,xL,xM,xN,xO,xP,xQ,ne_eq,eq_self]
 refine newB_intro fun y hy f3 f4=>?_
 have nxy:(x=y)=False:=f3 x (by rw[hx1];rfl)
 simp only[hx1,nxy,↓DD,UU,↓reduceIte,xA,xB,xC,xD,xE,xF,xG,xH,xI,xJ,xK,xL,xM,xN,xO,xP,xQ,ne_eq,eq_self]
 exact⟨y,f,rfl,h0,h1,(hS.new f3 _).p1.tail⟩
set_option maxHeartbeats 2000000 in
theorem m_clinvoke {kd ca cn:Int} (hk13:1≤kd∧kd≤3) (hm:may sh.p sh.c sh.m=true) (hc:0≤c∧c<sh.c) (hS:Sep (clB k (clC sh c f false 0 0 0 0 (.pointer none) (.pointer none) (.pointer none) (.pointer none) (.pointer none)) :: l) H) :
  CallP Tryz.prog W 10 #[.pointer (some ⟨k,0,none⟩),.agg #[.int .i64 kd,.int .i64 ca,.int .i64 cn]] H fun u H'=>∃ j C P,Ini sh c f kd ca cn j∧CL sh c f j C P∧Sep (clB k C :: (P ++ l)) H':=by
 refine CallP.of mixed Tryz.func10 tr10 (by show 2≤_;decide) fun W _=>?_
 have hb:=(may_iff _ _ _).1 hm
 have g1:decide (kd<1)=false:=decide_eq_false (by omega)
 have g2:decide (4<kd)=false:=decide_eq_false (by omega)
 simp only[↓DD,UU,↓reduceIte,xA,xB,xC,xD,xE,xF,xG,xH,xI,xJ,xK,xL,xM,xN,xO,xP,xQ,ne_eq,eq_self]
 refine newB_intro fun x hx f1 f2=>?_
 have hS:=hS.new f1 (.cells #[.int .i64 kd,.int .i64 ca,.int .i64 cn] 45 (0,0))
 have hx1:=hS.look
 have q0:=fun o=>rd_of hx1 o
 have q1:=fun o n=>rdn_of hx1 o n
 have hk:=hS.lk 1 rfl
 have r0:=fun o=>rd_of hk o
 have r1:=fun o n=>rdn_of hk o n
 have nxk:=hS.neq 0 1 (by decide) rfl rfl
 have nkx:=hS.qen 0 1 (by decide) rfl rfl
 simp only[hx1,q0,q1,hk,r0,r1,nxk,nkx,g1,g2,clC,↓DD,UU,↓reduceIte,xA,xB,xC,xD,xE,xF,xG,xH,xI,xJ,xK,xL,xM,xN,xO,xP,xQ,ne_eq,eq_self]
 refine draw_intro [(k,clC sh c f false 0 0 0 0 (.pointer none) (.pointer none) (.pointer none) (.pointer none) (.pointer none),[]),(x,#[.int .i64 kd,.int .i64 ca,.int .i64 cn],[])] (by simp only[hk,hx1,clC,↓DD,UU,↓reduceIte,xA,xB,xC,xD,xE,xF,xG,xH,xI,xJ,xK,xL,xM,xN,xO,xP,xQ,ne_eq,eq_self]) ?_
 simp only[hx1,q0,q1,hk,r0,r1,nxk,nkx,clC,Ev.upd_upd,↓DD,UU,↓reduceIte,xA,xB,xC,xD,xE,xF,xG,xH,xI,xJ,xK,xL,xM,xN,xO,xP,xQ,ne_eq,eq_self]
 have hS:=hS.p1.set (.cells (clC sh c f true kd ca cn 0 (.pointer none) (.pointer none) (.pointer none) (.pointer none) (.pointer none)) 89 (0,0))
 refine callT_of (m_event 2 hS) ?_
 rintro v H' ⟨rfl,hS⟩
 simp only[↓DD,UU,↓reduceIte,xA,xB,xC,xD,xE,xF,xG,xH,xI,xJ,xK,xL,xM,xN,xO,xP,xQ,ne_eq,eq_self]
 refine newB_intro fun e he f3 f4=>?_
 have hk:=hS.look
 have r0:=fun o=>rd_of hk o
 have r1:=fun o n=>rdn_of hk o n
 have hx1:=hS.lk 1 rfl
 have q0:=fun o=>rd_of hx1 o
 have q1:=fun o n=>rdn_of hx1 o n
 have nke:(k=e)=False:=f3 k (by rw[hk];rfl)
 have nek:(e=k)=False:=f4 k (by rw[hk];rfl)
 have nxe:(x=e)=False:=f3 x (by rw[hx1];rfl)
 have nex:(e=x)=False:=f4 x (by rw[hx1];rfl)
 have hS:=hS.new f3 (.cells #[.int .i64 2,.int .i64 c,.int .i64 kd,.int .i64 ca,.int .i64 cn,.int .i64 0,.int .i64 0,.int .i64 0] 91 (0,0))
 cases hat:atonce sh.p sh.c sh.m c kd ca cn
 rotate_left
 ·simp only[hx1,q0,q1,hk,r0,r1,nxk,nkx,nke,nek,nxe,nex,u_atonce,hat,clC,Ev.upd_upd,↓DD,UU,↓reduceIte,xA,xB,xC,xD,xE,xF,xG,xH,xI,xJ,xK,xL,xM,xN,xO,xP,xQ,ne_eq,eq_self]
  refine draw_intro [(k,clC sh c f true kd ca cn 0 (.pointer none) (.pointer none) (.pointer none) (.pointer none) (.pointer none),[5]),(e,#[.int .i64 2,.int .i64 c,.int .i64 kd,.int .i64 ca,.int .i64 cn,.int .i64 0,.int .i64 0,.int .i64 0],[])] (by simp only[hk,nke,clC,↓DD,UU,↓reduceIte,xA,xB,xC,xD,xE,xF,xG,xH,xI,xJ,xK,xL,xM,xN,xO,xP,xQ,ne_eq,eq_self]) ?_
  simp only[hk,nke,nek,clC,↓DD,UU,↓reduceIte,xA,xB,xC,xD,xE,xF,xG,xH,xI,xJ,xK,xL,xM,xN,xO,xP,xQ,ne_eq,eq_self]
  refine callT_of (m_answer (errno sh.p sh.c sh.m c kd ca cn) 0 hS.p1) ?_
  rintro v H' ⟨rfl,hS⟩
  have hk:=hS.look
  have he1:=hS.lk 1 rfl
  simp only[hk,he1,clC,↓DD,UU,↓reduceIte,xA,xB,xC,xD,xE,xF,xG,xH,xI,xJ,xK,xL,xM,xN,xO,xP,xQ,ne_eq,eq_self]
  refine newB_intro fun z hz f5 f6=>?_
  have nkz:(k=z)=False:=f5 k (by rw[hk];rfl)
  have nez:(e=z)=False:=f5 e (by rw[he1];rfl)
  simp only[hk,he1,nkz,nez,clC,↓DD,UU,↓reduceIte,xA,xB,xC,xD,xE,xF,xG,xH,xI,xJ,xK,xL,xM,xN,xO,xP,xQ,ne_eq,eq_self]
  exact⟨.off,_,[],.off,.off,(hS.new f5 _).tail.p1.tail.p1.tail⟩
 unfold atonce at hat
 simp only[Bool.or_eq_false_iff]at hat
 obtain⟨hb0,hn0⟩:=hat
 have hat:atonce sh.p sh.c sh.m c kd ca cn=false:=by unfold atonce;rw[hb0,hn0];rfl
 unfold bad0 at hb0
 simp only[Bool.or_eq_false_iff]at hb0
 obtain⟨⟨-,hb1⟩,hb2⟩:=hb0
 unfold nomem at hn0
 have hlg:(kd=1∨kd=3)→large cn=true→pages cn≤sh.p:=fun g hl=>by
  rw[hl]at hn0
  have e1:(kd == 1 || kd == 3)=true:=by rcases g with g | g<;>subst g<;>rfl
  rw[e1]at hn0
  simpa using hn0
 have hfn:(kd=1∨kd=3)→fine cn=true:=fun g=>by
  have e1:(kd == 1 || kd == 3)=true:=by rcases g with g | g<;>subst g<;>rfl
  rw[e1]at hb1;simpa using hb1
 have hth:(kd=2∨kd=3)→there sh.p sh.c sh.m ca=true:=fun g=>by
  have e1:(kd == 2 || kd == 3)=true:=by rcases g with g | g<;>subst g<;>rfl
  rw[e1]at hb2;simpa using hb2
 clear hb1 hb2 hn0
 rcases (by omega:kd=1∨kd=2∨kd=3) with rfl | rfl | rfl
 ·simp only[hx1,q0,q1,hk,r0,r1,nxk,nkx,nke,nek,nxe,nex,u_atonce,hat,clC,Ev.upd_upd,↓DD,UU,↓reduceIte,xA,xB,xC,xD,xE,xF,xG,xH,xI,xJ,xK,xL,xM,xN,xO,xP,xQ,ne_eq,eq_self]
  refine draw_intro [(k,clC sh c f true 1 ca cn 0 (.pointer none) (.pointer none) (.pointer none) (.pointer none) (.pointer none),[]),(x,#[.int .i64 1,.int .i64 ca,.int .i64 cn],[])] (by simp only[hk,hx1,nke,nxe,clC,↓DD,UU,↓reduceIte,xA,xB,xC,xD,xE,xF,xG,xH,xI,xJ,xK,xL,xM,xN,xO,xP,xQ,ne_eq,eq_self]) ?_
  simp only[hx1,q0,q1,hk,r0,r1,nxk,nkx,nke,nek,nxe,nex,clC,↓DD,UU,↓reduceIte,xA,xB,xC,xD,xE,xF,xG,xH,xI,xJ,xK,xL,xM,xN,xO,xP,xQ,ne_eq,eq_self]
  refine callT_of (m_rsnew (sh:=sh) (c:=c) (n:=cn) (f:=f) (hfn (.inl rfl)) hS) ?_
  rintro v H' ⟨k1,C,Y,X1,X2,X3,X4,X5,rfl,hD,hS⟩
  have hS:=Sep.over (X:=[_,_,_,_,_,_,_]) (L:=[_,_,_]) hS
  have hk:=hS.lk 1 rfl
  have he1:=hS.look
  have hx1:=hS.lk 2 rfl
  have re:=fun o n=>rdn_of he1 o n
  simp only[hk,hx1,he1,re,nxk,nkx,nke,nek,nxe,nex,clC,Ev.upd_upd,↓DD,UU,↓reduceIte,xA,xB,xC,xD,xE,xF,xG,xH,xI,xJ,xK,xL,xM,xN,xO,xP,xQ,ne_eq,eq_self]
  refine newB_intro fun z hz f5 f6=>?_
  have hS:=hS.p1.set (.cells (clC sh c f true 1 ca cn 0 (.pointer (some ⟨k1,0,none⟩)) (.pointer none) (.pointer none) (.pointer none) (.pointer none)) 89 (0,0))
  simp only[↓DD,UU,↓reduceIte,xA,xB,xC,xD,xE,xF,xG,xH,xI,xJ,xK,xL,xM,xN,xO,xP,xQ,ne_eq,eq_self]
  exact⟨_,_,_,.tk (hfn (.inl rfl)) (hlg (.inl rfl)),.tk hD,(hS.new f5 _).tail.p1.tail.p1.tail⟩
 ·simp only[hx1,q0,q1,hk,r0,r1,nxk,nkx,nke,nek,nxe,nex,u_atonce,hat,clC,Ev.upd_upd,↓DD,UU,↓reduceIte,xA,xB,xC,xD,xE,xF,xG,xH,xI,xJ,xK,xL,xM,xN,xO,xP,xQ,ne_eq,eq_self]
  refine draw_intro [(k,clC sh c f true 2 ca cn 0 (.pointer none) (.pointer none) (.pointer none) (.pointer none) (.pointer none),[]),(x,#[.int .i64 2,.int .i64 ca,.int .i64 cn],[])] (by simp only[hk,hx1,nke,nxe,clC,↓DD,UU,↓reduceIte,xA,xB,xC,xD,xE,xF,xG,xH,xI,xJ,xK,xL,xM,xN,xO,xP,xQ,ne_eq,eq_self]) ?_
  simp only[hx1,q0,q1,hk,r0,r1,nxk,nkx,nke,nek,nxe,nex,clC,↓DD,UU,↓reduceIte,xA,xB,xC,xD,xE,xF,xG,xH,xI,xJ,xK,xL,xM,xN,xO,xP,xQ,ne_eq,eq_self]
  refine callT_of (m_frnew (sh:=sh) (c:=c) (a:=ca) hS) ?_
  rintro v H' ⟨k1,rfl,hS⟩
  have hS:=hS.nothing.nothing.p2
  have hS:=Sep.over (X:=[_,_,_]) (L:=[_,_,_]) hS
  have hk:=hS.lk 1 rfl
  have he1:=hS.look
  have hx1:=hS.lk 2 rfl
  have re:=fun o n=>rdn_of he1 o n
  simp only[hk,hx1,he1,re,nxk,nkx,nke,nek,nxe,nex,clC,Ev.upd_upd,↓DD,UU,↓reduceIte,xA,xB,xC,xD,xE,xF,xG,xH,xI,xJ,xK,xL,xM,xN,xO,xP,xQ,ne_eq,eq_self]
  refine newB_intro fun z hz f5 f6=>?_
  have hS:=hS.p1.set (.cells (clC sh c f true 2 ca cn 0 (.pointer none) (.pointer none) (.pointer (some ⟨k1,0,none⟩)) (.pointer none) (.pointer none)) 89 (0,0))
  simp only[↓DD,UU,↓reduceIte,xA,xB,xC,xD,xE,xF,xG,xH,xI,xJ,xK,xL,xM,xN,xO,xP,xQ,ne_eq,eq_self]
  have gn:(Gv.new sh c ca).dn=false:=by
   show(!there sh.p sh.c sh.m ca || decide (status sh.p sh.c sh.m c<0))=false
   rw[hth (.inl rfl),status_yes hm hc.1 hc.2,decide_eq_false (by omega)];rfl
  exact⟨_,_,_,.gv (hth (.inl rfl)),.gv (X:=emp) (Y:=emp) (.inr (.inl ⟨rfl,by rw[gn],rfl,rfl⟩)) ⟨false,rfl⟩ rfl,(hS.new f5 _).tail.p1.tail.p1.tail⟩
 ·have hro:Re.ok sh c ca cn=true:=by
   unfold Re.ok
   rw[hth (.inr rfl),hfn (.inr rfl),status_yes hm hc.1 hc.2,decide_eq_true hc.1];rfl
  simp only[hx1,q0,q1,hk,r0,r1,nxk,nkx,nke,nek,nxe,nex,u_atonce,hat,clC,Ev.upd_upd,↓DD,UU,↓reduceIte,xA,xB,xC,xD,xE,xF,xG,xH,xI,xJ,xK,xL,xM,xN,xO,xP,xQ,ne_eq,eq_self]
  refine draw_intro [(k,clC sh c f true 3 ca cn 0 (.pointer none) (.pointer none) (.pointer none) (.pointer none) (.pointer none),[]),(x,#[.int .i64 3,.int .i64 ca,.int .i64 cn],[])] (by simp only[hk,hx1,nke,nxe,clC,↓DD,UU,↓reduceIte,xA,xB,xC,xD,xE,xF,xG,xH,xI,xJ,xK,xL,xM,xN,xO,xP,xQ,ne_eq,eq_self]) ?_
  simp only[hx1,q0,q1,hk,r0,r1,nxk,nkx,nke,nek,nxe,nex,clC,↓DD,UU,↓reduceIte,xA,xB,xC,xD,xE,xF,xG,xH,xI,xJ,xK,xL,xM,xN,xO,xP,xQ,ne_eq,eq_self]
  refine callT_of (m_rdnew (sh:=sh) (c:=c) (a:=ca) (n:=cn) (f:=f) hm hc hro hS) ?_
  rintro v H' ⟨k1,C,P,rfl,hD,hS⟩
  have hS:=Sep.over (X:=rnwD k1 C :: P) (L:=[_,_,_]) hS
  have hk:=hS.lk 1 rfl
  have he1:=hS.look
  have hx1:=hS.lk 2 rfl
  have re:=fun o n=>rdn_of he1 o n
  simp only[hk,hx1,he1,re,nxk,nkx,nke,nek,nxe,nex,clC,Ev.upd_upd,↓DD,UU,↓reduceIte,xA,xB,xC,xD,xE,xF,xG,xH,xI,xJ,xK,xL,xM,xN,xO,xP,xQ,ne_eq,eq_self]
  refine newB_intro fun z hz f5 f6=>?_
  have hS:=hS.p1.set (.cells (clC sh c f true 3 ca cn 0 (.pointer none) (.pointer none) (.pointer none) (.pointer (some ⟨k1,0,none⟩)) (.pointer none)) 89 (0,0))
  simp only[↓DD,UU,↓reduceIte,xA,xB,xC,xD,xE,xF,xG,xH,xI,xJ,xK,xL,xM,xN,xO,xP,xQ,ne_eq,eq_self]
  exact⟨_,_,_,.re hro (hlg (.inr rfl)),.re hD,(hS.new f5 _).tail.p1.tail.p1.tail⟩
end
end Go.Proofs.YtbcdaglbdnkocaaGreat
