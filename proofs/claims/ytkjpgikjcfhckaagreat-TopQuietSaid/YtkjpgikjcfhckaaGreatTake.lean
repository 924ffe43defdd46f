/-
 A block that is not yet anyone's: the program's machines. Conditions: none.
-/
import Derived.Test.YtkjpgikjcfhckaaGreatCodeY
import Derived.Test.YtkjpgikjcfhckaaGreatSeek
import Derived.Test.YtkjpgikjcfhckaaGreatRun
import Derived.Test.YtkjpgikjcfhckaaGreatMaB
open Nat renaming reduceAdd→xA,reduceMul→xB,reduceSub→xC,reduceEqDiff→xD,reduceBEq→xE,reduceLeDiff→xF,reduceLT→xG
open Int renaming reduceAdd→xH,reduceMul→xI,reduceSub→xJ,reduceLT→xK,reduceLE→xL,reduceToNat→xM,reduceEq→xN,reduceNe→xO,reduceBEq→xP,reduceBNe→xQ
set_option linter.unusedVariables false
set_option linter.unusedSectionVars false
set_option linter.unusedSimpArgs false
set_option maxRecDepth 8000
namespace Go.Proofs.YtkjpgikjcfhckaaGreat
open Go Go.Ev Go.Pl Go.Ma

def Bk.cells (b:Bk):List Value:=[.bool b.lg,.int .i64 b.p,.int .i64 b.i,.int .i64 b.k,.int .i64 b.n]
def bkV (b:Bk):Value:=.agg #[.bool b.lg,.int .i64 b.p,.int .i64 b.i,.int .i64 b.k,.int .i64 b.n]
def Rv.enc (k2:Nat):Rv→Array Value
 | .sk t=>#[.int .i64 t.k,.int .i64 0,.pointer (some ⟨k2,0,none⟩),.pointer none]
 | .rn t=>#[.int .i64 0,.int .i64 t.n,.pointer none,.pointer (some ⟨k2,0,none⟩)]
 | .no=>#[.int .i64 0,.int .i64 0,.pointer none,.pointer none]
def rvB (k k2:Nat) (v:Rv):Hp:=sg k (.cells (Rv.enc k2 v) 212 (0,0))
def rvA (k2 kn:Nat):Rv→Hp
 | .sk t=>skB k2 kn t
 | .rn t=>rnB k2 kn t
 | .no=>fun _=>none
def rvN (kn:Nat):Rv→Hp
 | .sk t=>nwB kn t.nw
 | .rn t=>stO kn t.st
 | .no=>fun _=>none
def Cm.enc (t:Cm):Array Value:=#[.int .i64 t.s.p,.int .i64 t.s.c,.int .i64 t.s.m,.int .i64 t.c,.bool t.b.lg,.int .i64 t.b.p,.int .i64 t.b.i,.int .i64 t.b.k,.int .i64 t.b.n,.bool t.dn]
def cmB (k:Nat) (t:Cm):Hp:=sg k (.cells (Cm.enc t) 246 (0,0))
def Uo.enc (t:Uo):Array Value:=#[.int .i64 t.s.p,.int .i64 t.s.c,.int .i64 t.s.m,.int .i64 t.c,.bool t.b.lg,.int .i64 t.b.p,.int .i64 t.b.i,.int .i64 t.b.k,.int .i64 t.b.n,.int .i64 t.i,.bool t.dn]
def uoB (k:Nat) (t:Uo):Hp:=sg k (.cells (Uo.enc t) 244 (0,0))

section
variable {W:World} {H:Hp} {k k2 kn b s:Nat} {t:Rv} {w:Wd} {l:List Hp}

theorem c_bkat {B:Bk} (hp:0≤B.p∧B.p≤64) (hi:0≤B.i∧B.i≤64) (hS:Sep l H) :
  CallP Tryz.prog W 126 #[bkV B] H fun v H'=>v=.int .i64 B.ad∧Sep l H':=by
 refine CallP.of mixed Tryz.func126 tr126 (by show 1≤_;decide) fun W _=>?_
 have w1:w64 (B.p*64)=B.p*64:=w64_eq (by omega) (by omega)
 cases hl:B.lg
 all_goals
  simp only[bkV,hl,↓DD,UU]
  refine newB_intro fun y hy f3 f4=>?_
  have hS:=hS.new f3 (.cells #[.bool B.lg,.int .i64 B.p,.int .i64 B.i,.int .i64 B.k,.int .i64 B.n] 204 (0,0))
  rw[hl]at hS
  have hy1:=hS.look
  have r1:=fun o=>rd_of hy1 o
  simp only[r1,hl,v_address B.k hp.1 hp.2 hi.1 hi.2,wrap_w64,w1,Bk.ad,Bool.false_eq_true,↓DD,UU,↓reduceIte,xE]
  exact hS.tail
theorem c_bklen {B:Bk} (hn:0≤B.n∧B.n≤64) (hS:Sep l H) :
  CallP Tryz.prog W 127 #[bkV B] H fun v H'=>v=.int .i64 B.len∧Sep l H':=by
 refine CallP.of mixed Tryz.func127 tr127 (by show 1≤_;decide) fun W _=>?_
 have w1:w64 (B.n*64)=B.n*64:=w64_eq (by omega) (by omega)
 cases hl:B.lg
 all_goals
  simp only[bkV,hl,↓DD,UU]
  refine newB_intro fun y hy f3 f4=>?_
  have hS:=hS.new f3 (.cells #[.bool B.lg,.int .i64 B.p,.int .i64 B.i,.int .i64 B.k,.int .i64 B.n] 204 (0,0))
  rw[hl]at hS
  have hy1:=hS.look
  have r1:=fun o=>rd_of hy1 o
  simp only[r1,hl,v_size,wrap_w64,w1,Bk.len,Bool.false_eq_true,↓DD,UU,↓reduceIte,xE]
  exact hS.tail

/-! ### Who is not there -/
theorem c_sknone_found (hS:Sep l H):CallP Tryz.prog W 149 #[.pointer none] H fun v H'=>v=.tuple #[.int .i64 0,.int .i64 0,.bool false]∧Sep l H':=by
 refine CallP.of mixed Tryz.func149 tr149 (by show 1≤_;decide) fun W _=>?_
 simp only[↓DD,UU,↓reduceIte,xE]
 exact hS
theorem c_sknone_step (x:Value) (hS:Sep l H):CallP Tryz.prog W 197 #[.pointer none,x] H fun v H'=>v=.tuple #[]∧Sep l H':=by
 refine CallP.of mixed Tryz.func197 tr197 (by show 2≤_;decide) fun W _=>?_
 simp only[↓DD,UU,↓reduceIte,xA,xE]
 exact hS
theorem c_rnnone_found (hS:Sep l H):CallP Tryz.prog W 150 #[.pointer none] H fun v H'=>v=.tuple #[.int .i64 0,.bool false]∧Sep l H':=by
 refine CallP.of mixed Tryz.func150 tr150 (by show 1≤_;decide) fun W _=>?_
 simp only[↓DD,UU,↓reduceIte,xE]
 exact hS
theorem c_rnnone_step (x:Value) (hS:Sep l H):CallP Tryz.prog W 198 #[.pointer none,x] H fun v H'=>v=.tuple #[]∧Sep l H':=by
 refine CallP.of mixed Tryz.func198 tr198 (by show 2≤_;decide) fun W _=>?_
 simp only[↓DD,UU,↓reduceIte,xA,xE]
 exact hS

/-! ### The reserver -/
theorem c_rvdone (hS:Sep (rvB k k2 t :: rvA k2 kn t :: rvN kn t :: l) H) :
  CallP Tryz.prog W 141 #[.pointer (some ⟨k,0,none⟩)] H fun v H'=>v=.bool t.dn∧Sep (rvB k k2 t :: rvA k2 kn t :: rvN kn t :: l) H':=by
 refine CallP.of mixed Tryz.func141 tr141 (by show 1≤_;decide) fun W _=>?_
 have hk:=hS.look
 have r1:=fun o=>rd_of hk o
 cases t with
 |sk t=>
  simp only[r1,Rv.enc,↓DD,UU,↓reduceIte,xE]
  refine callT_of (c_skdone hS.p1) ?_
  rintro v H' ⟨rfl,hS⟩
  simp only[↓DD,UU]
  exact⟨rfl,hS.p1⟩
 |rn t=>
  simp only[r1,Rv.enc,↓DD,UU,↓reduceIte,xE]
  refine callT_of (c_rndone hS.p1) ?_
  rintro v H' ⟨rfl,hS⟩
  simp only[↓DD,UU]
  exact⟨rfl,hS.p1⟩
 |no=>
  simp only[r1,Rv.enc,↓DD,UU,↓reduceIte,xE]
  exact⟨rfl,hS⟩
theorem c_rvfound (hS:Sep (rvB k k2 t :: rvA k2 kn t :: rvN kn t :: l) H) :
  CallP Tryz.prog W 138 #[.pointer (some ⟨k,0,none⟩)] H fun v H'=>v=.tuple #[bkV t.bk,.bool t.fd]∧Sep (rvB k k2 t :: rvA k2 kn t :: rvN kn t :: l) H':=by
 refine CallP.of mixed Tryz.func138 tr138 (by show 1≤_;decide) fun W _=>?_
 simp only[↓DD,UU]
 refine newB_intro fun y hy f3 f4=>?_
 have hS:=hS.new f3 (.cells #[.bool false,.int .i64 0,.int .i64 0,.int .i64 0,.int .i64 0] 204 (0,0))
 have hk:=hS.lk 1 rfl
 have hy1:=hS.look
 have r1:=fun o=>rd_of hk o
 have r2:=fun o n=>rdn_of hy1 o n
 cases t with
 |sk t=>
  simp only[r1,Rv.enc,↓DD,UU,↓reduceIte,xE]
  refine callT_of (c_skfound hS.p2) ?_
  rintro v H' ⟨rfl,hS⟩
  have hS:=hS.r2
  cases hf:t.fd
  ·have hk:=hS.lk 1 rfl
   have r1:=fun o=>rd_of hk o
   simp only[r1,Rv.enc,↓DD,UU,↓reduceIte,xE]
   refine callT_of (c_rnnone_found hS) ?_
   rintro v H' ⟨rfl,hS⟩
   have hy1:=hS.look
   have r2:=fun o n=>rdn_of hy1 o n
   simp only[hy1,↓DD,UU,↓reduceIte,xA,xC,xE,xF]
   refine⟨by unfold Rv.bk Rv.fd bkV Bk.zero;simp only[hf];rfl,?_⟩
   exact(hS.set (.cells #[.bool false,.int .i64 0,.int .i64 0,.int .i64 0,.int .i64 0] 204 (0,0))).tail
  ·have hk:=hS.lk 1 rfl
   have hy1:=hS.look
   have r1:=fun o=>rd_of hk o
   have r2:=fun o n=>rdn_of hy1 o n
   simp only[r1,hy1,Rv.enc,↓DD,UU,↓reduceIte,xA,xC,xE,xF]
   refine⟨by unfold Rv.bk Rv.fd bkV;simp only[hf];rfl,?_⟩
   exact(hS.set _).tail
 |rn t=>
  simp only[r1,Rv.enc,↓DD,UU,↓reduceIte,xE]
  refine callT_of (c_sknone_found hS) ?_
  rintro v H' ⟨rfl,hS⟩
  have hk:=hS.lk 1 rfl
  have r1:=fun o=>rd_of hk o
  simp only[r1,Rv.enc,↓DD,UU,xE]
  refine callT_of (c_rnfound hS.p2) ?_
  rintro v H' ⟨rfl,hS⟩
  have hS:=hS.r2
  cases hf:t.fd
  ·have hy1:=hS.look
   have r2:=fun o n=>rdn_of hy1 o n
   simp only[hy1,↓DD,UU,↓reduceIte,xA,xC,xE,xF]
   refine⟨by unfold Rv.bk Rv.fd bkV Bk.zero;simp only[hf];rfl,?_⟩
   exact(hS.set _).tail
  ·have hk:=hS.lk 1 rfl
   have hy1:=hS.look
   have r1:=fun o=>rd_of hk o
   have r2:=fun o n=>rdn_of hy1 o n
   simp only[r1,hy1,Rv.enc,↓DD,UU,↓reduceIte,xA,xC,xE,xF]
   refine⟨by unfold Rv.bk Rv.fd bkV;simp only[hf];rfl,?_⟩
   exact(hS.set _).tail
 |no=>
  simp only[r1,Rv.enc,↓DD,UU,↓reduceIte,xE]
  refine callT_of (c_sknone_found hS) ?_
  rintro v H' ⟨rfl,hS⟩
  have hk:=hS.lk 1 rfl
  have r1:=fun o=>rd_of hk o
  simp only[r1,Rv.enc,↓DD,UU,xE]
  refine callT_of (c_rnnone_found hS) ?_
  rintro v H' ⟨rfl,hS⟩
  have hy1:=hS.look
  have r2:=fun o n=>rdn_of hy1 o n
  simp only[hy1,↓DD,UU,↓reduceIte,xA,xC,xE,xF]
  exact⟨rfl,(hS.set _).tail⟩
theorem c_rvnew {sh:Sh} {c n f:Int} (hS:Sep l H) :
  CallP Tryz.prog W 115 #[.agg #[.int .i64 sh.p,.int .i64 sh.c,.int .i64 sh.m],.int .i64 c,.int .i64 n,.int .i64 f] H fun v H'=>∃ k k2 kn,v=.pointer (some ⟨k,0,none⟩)∧Sep (rvB k k2 (Rv.new sh c n f) :: rvA k2 kn (Rv.new sh c n f) :: rvN kn (Rv.new sh c n f) :: l) H':=by
 refine CallP.of mixed Tryz.func115 tr115 (by show 4≤_;decide) fun W _=>?_
 simp only[↓DD,UU,xA]
 refine newB_intro fun x hx f1 f2=>?_
 have hS:=hS.new f1 (.cells #[.int .i64 sh.p,.int .i64 sh.c,.int .i64 sh.m] 23 (0,0))
 have hx1:=hS.look
 have r1:=fun o n=>rdn_of hx1 o n
 cases hs:small n
 ·cases hl:large n
  ·have e:Rv.new sh c n f=.no:=by unfold Rv.new;rw[hs,hl];rfl
   rw[e]
   simp only[v_class,v_run,hs,hl,↓DD,UU,xA,xE]
   refine newB_intro fun y hy f3 f4=>?_
   simp only[↓DD,UU,xA]
   exact⟨y,0,0,rfl,(hS.new f3 (.cells (Rv.enc 0 .no) 212 (0,0))).p1.tail.nothing.nothing.p2⟩
  ·have e:Rv.new sh c n f=.rn (Rn.new sh c (pages n)):=by unfold Rv.new;rw[hs,hl];rfl
   rw[e]
   simp only[r1,v_class,v_run,hs,hl,↓DD,UU,↓reduceIte,xA,xC,xE,xF]
   refine callT_of (c_rnnew (sh:=sh) (c:=c) (n:=pages n) hS) ?_
   rintro v H' ⟨k2,rfl,hS⟩
   simp only[↓DD,UU,xA,xE]
   refine newB_intro fun y hy f3 f4=>?_
   simp only[↓DD,UU,xA]
   have:=hS.new f3 (.cells (Rv.enc k2 (.rn (Rn.new sh c (pages n)))) 212 (0,0))
   exact⟨y,k2,0,rfl,(this.p2.tail.nothing.r2)⟩
 ·have e:Rv.new sh c n f=.sk (Sk.new sh c (cls n) f):=by unfold Rv.new;rw[hs];rfl
  rw[e]
  simp only[r1,v_class,hs,↓DD,UU,↓reduceIte,xA,xC,xE,xF]
  refine callT_of (c_sknew (sh:=sh) (c:=c) (kk:=cls n) (f:=f) hS) ?_
  rintro v H' ⟨k2,kn,rfl,hS⟩
  simp only[↓DD,UU,xA,xE]
  refine newB_intro fun y hy f3 f4=>?_
  simp only[↓DD,UU,xA]
  have hkk:(Sk.new sh c (cls n) f).k=cls n:=(Sk.new_kp sh c (cls n) f).2.2.1
  have e2:Rv.enc k2 (.sk (Sk.new sh c (cls n) f))=#[.int .i64 (cls n),.int .i64 0,.pointer (some ⟨k2,0,none⟩),.pointer none]:=by
   show #[Value.int .i64 (Sk.new sh c (cls n) f).k,_,_,_] = _;rw[hkk]
  refine⟨y,k2,kn,rfl,?_⟩
  unfold rvB
  rw[e2]
  exact(hS.new f3 _).p3.tail
theorem c_rvstep (ht:t.wf) (hw:t.dn=false→w.of t.shp) (hS:Sep (rvB k k2 t :: rvA k2 kn t :: rvN kn t :: wB b s w :: wR s w :: l) H) :
  CallP Tryz.prog W 195 #[.pointer (some ⟨k,0,none⟩),.pointer (some ⟨b,0,none⟩)] H fun v H'=>v=.tuple #[]∧∃ kn',Sep (rvB k k2 (t.step w).1 :: rvA k2 kn' (t.step w).1 :: rvN kn' (t.step w).1 :: wB b s (t.step w).2 :: wR s (t.step w).2 :: l) H':=by
 refine CallP.of mixed Tryz.func195 tr195 (by show 2≤_;decide) fun W _=>?_
 have hk:=hS.look
 have r1:=fun o=>rd_of hk o
 cases t with
 |sk t=>
  simp only[r1,Rv.enc,↓DD,UU,↓reduceIte,xA,xE]
  refine callT_of (c_skstep ht hw hS.r4) ?_
  rintro v H' ⟨rfl,kn',hS⟩
  have hS:=hS.p4
  have hk:=hS.look
  have r1:=fun o=>rd_of hk o
  simp only[r1,Rv.enc,↓DD,UU,xA,xE]
  refine callT_of (c_rnnone_step _ hS) ?_
  rintro v H' ⟨rfl,hS⟩
  simp only[↓DD,UU]
  refine⟨kn',?_⟩
  have hkk:(t.step w).1.k=t.k:=(Sk.step_kp (t:=t) (w:=w)).2.2.1
  have e:rvB k k2 (.sk t)=rvB k k2 (.sk (t.step w).1):=by show sg k (.cells #[.int .i64 t.k,_,_,_] _ _)=sg k (.cells #[.int .i64 (t.step w).1.k,_,_,_] _ _);rw[hkk]
  exact e ▸ hS
 |rn t=>
  simp only[r1,Rv.enc,↓DD,UU,↓reduceIte,xA,xE]
  refine callT_of (c_sknone_step _ hS) ?_
  rintro v H' ⟨rfl,hS⟩
  have hk:=hS.look
  have r1:=fun o=>rd_of hk o
  simp only[r1,Rv.enc,↓DD,UU,xA,xE]
  refine callT_of (c_rnstep ht hw hS.r4) ?_
  rintro v H' ⟨rfl,kn',hS⟩
  have hS:=hS.p4
  simp only[↓DD,UU]
  refine⟨kn',?_⟩
  have hkk:(t.step w).1.n=t.n:=(Rn.step_k ht w).2.2
  have e:rvB k k2 (.rn t)=rvB k k2 (.rn (t.step w).1):=by show sg k (.cells #[_,.int .i64 t.n,_,_] _ _)=sg k (.cells #[_,.int .i64 (t.step w).1.n,_,_] _ _);rw[hkk]
  exact e ▸ hS
 |no=>
  simp only[r1,Rv.enc,↓DD,UU,↓reduceIte,xA,xE]
  refine callT_of (c_sknone_step _ hS) ?_
  rintro v H' ⟨rfl,hS⟩
  have hk:=hS.look
  have r1:=fun o=>rd_of hk o
  simp only[r1,Rv.enc,↓DD,UU,xA,xE]
  refine callT_of (c_rnnone_step _ hS) ?_
  rintro v H' ⟨rfl,hS⟩
  simp only[↓DD,UU]
  exact⟨kn,hS⟩

/-! ### The committer -/
theorem c_bkfits {sh:Sh} {c:Int} {B:Bk} (hS:Sep l H) :
  CallP Tryz.prog W 153 #[bkV B,.agg #[.int .i64 sh.p,.int .i64 sh.c,.int .i64 sh.m],.int .i64 c] H fun v H'=>v=.bool (B.fits sh c)∧Sep l H':=by
 refine CallP.of mixed Tryz.func153 tr153 (by show 3≤_;decide) fun W _=>?_
 simp only[bkV,↓DD,UU,xA]
 refine newB_intro fun x hx f1 f2=>?_
 have hS:=hS.new f1 (.cells #[.bool B.lg,.int .i64 B.p,.int .i64 B.i,.int .i64 B.k,.int .i64 B.n] 204 (0,0))
 have hx1:=hS.look
 simp only[↓DD,UU,xA,xE]
 refine newB_intro fun y hy f3 f4=>?_
 have nxy:(x=y)=False:=f3 x (by rw[hx1];rfl)
 have nyx:(y=x)=False:=f4 x (by rw[hx1];rfl)
 have hS:=hS.new f3 (.cells #[.int .i64 sh.p,.int .i64 sh.c,.int .i64 sh.m] 23 (0,0))
 have hy1:=hS.look
 have hx1:=hS.lk 1 rfl
 have rx:=fun o=>rd_of hx1 o
 have ry:=fun o=>rd_of hy1 o
 have r2:=fun o n=>rdn_of hy1 o n
 have fin:=hS.tail.tail
 cases h1:decide (status sh.p sh.c sh.m c<0)
 rotate_left
 ·have e:B.fits sh c=false:=by
   have h1:=of_decide_eq_true h1
   unfold Bk.fits;rw[decide_eq_false (by omega:¬ 0≤status sh.p sh.c sh.m c)];rfl
  rw[e]
  simp only[r2,v_status,h1,↓DD,UU,↓reduceIte,xA,xC,xE,xF]
  exact fin
 cases h2:decide (page sh.p sh.c sh.m B.p<0)
 rotate_left
 ·have e:B.fits sh c=false:=by
   have h2:=of_decide_eq_true h2
   unfold Bk.fits;rw[decide_eq_false (by omega:¬ 0≤page sh.p sh.c sh.m B.p)];simp
  rw[e]
  simp only[rx,r2,v_status,v_page,h1,h2,↓DD,UU,↓reduceIte,xA,xC,xE,xF]
  exact fin
 have g1:=of_decide_eq_false h1
 have g2:=of_decide_eq_false h2
 rw[page_lt0,Decidable.not_not]at g2
 have hb:=(may_iff _ _ _).1 g2.1
 have w1:w64 (sh.p - B.p)=sh.p - B.p:=w64_eq (by omega) (by omega)
 have e:B.fits sh c=if B.lg then decide (1≤B.n) && decide (B.n≤8) && decide (B.n≤sh.p - B.p) else decide (0≤B.i) && decide (B.i<slots B.k):=by
  have h2:=of_decide_eq_false h2
  unfold Bk.fits;rw[decide_eq_true (by omega:0≤status sh.p sh.c sh.m c),decide_eq_true (by omega:0≤page sh.p sh.c sh.m B.p)];rfl
 rw[e]
 cases hl:B.lg
 ·rw[hl]at fin
  cases h3:decide (0≤B.i)<;>cases h4:decide (B.i<slots B.k)
  all_goals
   simp only[nxy,v_status,v_page,v_slots,h1,h2,h3,h4,↓DD,UU,↓reduceIte,xA,xC,xE,xF]
   first
   | exact fin
   | exact⟨rfl,fin⟩
 ·rw[hl]at fin
  cases h3:decide (1≤B.n)<;>cases h4:decide (B.n≤8)<;>cases h5:decide (B.n≤sh.p - B.p)
  all_goals
   simp only[nxy,v_status,v_page,h1,h2,h3,h4,h5,wrap_w64,w1,↓DD,UU,↓reduceIte,xA,xC,xE,xF]
   first
   | exact fin
   | exact⟨rfl,fin⟩
theorem c_cmnew {sh:Sh} {c:Int} {B:Bk} (hS:Sep l H) :
  CallP Tryz.prog W 144 #[.agg #[.int .i64 sh.p,.int .i64 sh.c,.int .i64 sh.m],.int .i64 c,bkV B] H fun v H'=>∃ k,v=.pointer (some ⟨k,0,none⟩)∧Sep (cmB k (Cm.new sh c B) :: l) H':=by
 refine CallP.of mixed Tryz.func144 tr144 (by show 3≤_;decide) fun W _=>?_
 simp only[bkV,↓DD,UU,xA]
 refine newB_intro fun x hx f1 f2=>?_
 have hS:=hS.new f1 (.cells #[.int .i64 sh.p,.int .i64 sh.c,.int .i64 sh.m] 23 (0,0))
 have hx1:=hS.look
 simp only[↓DD,UU,xA,xE]
 refine newB_intro fun y hy f3 f4=>?_
 have nxy:(x=y)=False:=f3 x (by rw[hx1];rfl)
 have nyx:(y=x)=False:=f4 x (by rw[hx1];rfl)
 have hS:=hS.new f3 (.cells #[.bool B.lg,.int .i64 B.p,.int .i64 B.i,.int .i64 B.k,.int .i64 B.n] 204 (0,0))
 have hy1:=hS.look
 have hx1:=hS.lk 1 rfl
 have rx:=fun o n=>rdn_of hx1 o n
 have ry:=fun o n=>rdn_of hy1 o n
 simp only[↓DD,UU,xA]
 refine draw_intro [(x,#[.int .i64 sh.p,.int .i64 sh.c,.int .i64 sh.m],[]),(y,#[.bool B.lg,.int .i64 B.p,.int .i64 B.i,.int .i64 B.k,.int .i64 B.n],[])] (by simp only[hx1,hy1,↓DD,UU]) ?_
 simp only[rx,ry,nyx,↓DD,UU,↓reduceIte,xA,xC,xE,xF]
 refine callT_of (c_bkfits (sh:=sh) (c:=c) (B:=B) hS) ?_
 rintro v H' ⟨rfl,hS⟩
 have hy1:=hS.look
 have hx1:=hS.lk 1 rfl
 simp only[hx1,hy1,↓DD,UU,xA,xE]
 refine newB_intro fun z hz f5 f6=>?_
 have nxz:(x=z)=False:=f5 x (by rw[hx1];rfl)
 have nyz:(y=z)=False:=f5 y (by rw[hy1];rfl)
 simp only[hx1,hy1,nxz,nyz,↓DD,UU,↓reduceIte]
 have:=hS.new f5 (.cells (Cm.enc (Cm.new sh c B)) 246 (0,0))
 exact⟨z,rfl,this.p2.tail.p1.tail⟩
theorem c_cmdone {t:Cm} (hS:Sep (cmB k t :: l) H) :
  CallP Tryz.prog W 140 #[.pointer (some ⟨k,0,none⟩)] H fun v H'=>v=.bool t.dn∧Sep (cmB k t :: l) H':=by
 refine CallP.of mixed Tryz.func140 tr140 (by show 1≤_;decide) fun W _=>?_
 have hk:=hS.look
 have r1:=fun o=>rd_of hk o
 simp only[r1,Cm.enc,↓DD,UU,↓reduceIte,xE]
 exact hS
theorem c_cmstep {t:Cm} (ht:t.wf) (hw:t.dn=false→w.of t.s) (hS:Sep (cmB k t :: wB b s w :: wR s w :: l) H) :
  CallP Tryz.prog W 196 #[.pointer (some ⟨k,0,none⟩),.pointer (some ⟨b,0,none⟩)] H fun v H'=>v=.tuple #[]∧Sep (cmB k (t.step w).1 :: wB b s (t.step w).2 :: wR s (t.step w).2 :: l) H':=by
 refine CallP.of mixed Tryz.func196 tr196 (by show 2≤_;decide) fun W _=>?_
 have hk:=hS.look
 have r1:=fun o=>rd_of hk o
 have r2:=fun o n=>rdn_of hk o n
 cases hd:t.dn
 rotate_left
 ·have e:t.step w=(t,w):=by unfold Cm.step;rw[if_pos hd]
  rw[e]
  simp only[r1,Cm.enc,hd,↓DD,UU,↓reduceIte,xA,xE]
  exact hS
 obtain⟨hm,c0,c1,p0,p1,fl,fs⟩:=ht hd
 have hw:=hw hd
 cases hl:t.b.lg
 ·have e:t.step w=({ t with dn:=true },w.store t.c t.sat (putSl 3 t.b.k)):=by unfold Cm.step;rw[hd,hl];rfl
  obtain⟨i0,i1⟩:=fs hl
  have hs:=slots_bd t.b.k
  obtain⟨q0,q1⟩:=slot_in hw hm p0 p1 i0 (by omega:t.b.i<16)
  rw[e]
  simp only[r1,Cm.enc,hd,hl,↓DD,UU,↓reduceIte,xA,xE]
  refine draw_intro [(k,Cm.enc t,[])] (by simp only[hk,↓DD,UU]) ?_
  simp only[hk,r1,r2,v_slot,v_putsl,Cm.enc,hd,↓DD,UU,↓reduceIte,xA,xC,xE,xF]
  refine callT_of (c_store _ _ _ q0 q1 hS.r2) ?_
  rintro v H' ⟨rfl,hS⟩
  have hS:=hS.p2
  have hk:=hS.look
  simp only[hk,Cm.enc,↓DD,UU,xA,xE,xG]
  exact hS.set (.cells (Cm.enc { t with dn:=true }) 246 (0,0))
 ·have e:t.step w=({ t with dn:=true },w.store t.c t.pat (putPg 3 t.b.n 0)):=by unfold Cm.step;rw[hd,hl];rfl
  obtain⟨q0,q1⟩:=page_in hw hm p0 p1
  rw[e]
  simp only[r1,Cm.enc,hd,hl,↓DD,UU,↓reduceIte,xA,xE]
  refine draw_intro [(k,Cm.enc t,[])] (by simp only[hk,↓DD,UU]) ?_
  simp only[hk,r1,r2,v_page,v_putpg,Cm.enc,hd,↓DD,UU,↓reduceIte,xA,xC,xE,xF]
  refine callT_of (c_store _ _ _ q0 q1 hS.r2) ?_
  rintro v H' ⟨rfl,hS⟩
  have hS:=hS.p2
  have hk:=hS.look
  simp only[hk,Cm.enc,↓DD,UU,xA,xE,xG]
  exact hS.set (.cells (Cm.enc { t with dn:=true }) 246 (0,0))
theorem c_cmnone_done (hS:Sep l H):CallP Tryz.prog W 140 #[.pointer none] H fun v H'=>v=.bool false∧Sep l H':=by
 refine CallP.of mixed Tryz.func140 tr140 (by show 1≤_;decide) fun W _=>?_
 simp only[↓DD,UU,↓reduceIte,xE]
 exact hS

/-! ### The undoer -/
theorem c_uonew {sh:Sh} {c:Int} {B:Bk} (hS:Sep l H) :
  CallP Tryz.prog W 145 #[.agg #[.int .i64 sh.p,.int .i64 sh.c,.int .i64 sh.m],.int .i64 c,bkV B] H fun v H'=>∃ k,v=.pointer (some ⟨k,0,none⟩)∧Sep (uoB k (Uo.new sh c B) :: l) H':=by
 refine CallP.of mixed Tryz.func145 tr145 (by show 3≤_;decide) fun W _=>?_
 simp only[bkV,↓DD,UU,xA]
 refine newB_intro fun x hx f1 f2=>?_
 have hS:=hS.new f1 (.cells #[.int .i64 sh.p,.int .i64 sh.c,.int .i64 sh.m] 23 (0,0))
 have hx1:=hS.look
 simp only[↓DD,UU,xA,xE]
 refine newB_intro fun y hy f3 f4=>?_
 have nxy:(x=y)=False:=f3 x (by rw[hx1];rfl)
 have nyx:(y=x)=False:=f4 x (by rw[hx1];rfl)
 have hS:=hS.new f3 (.cells #[.bool B.lg,.int .i64 B.p,.int .i64 B.i,.int .i64 B.k,.int .i64 B.n] 204 (0,0))
 have hy1:=hS.look
 have hx1:=hS.lk 1 rfl
 have rx:=fun o n=>rdn_of hx1 o n
 have ry:=fun o n=>rdn_of hy1 o n
 simp only[↓DD,UU,xA]
 refine draw_intro [(x,#[.int .i64 sh.p,.int .i64 sh.c,.int .i64 sh.m],[]),(y,#[.bool B.lg,.int .i64 B.p,.int .i64 B.i,.int .i64 B.k,.int .i64 B.n],[])] (by simp only[hx1,hy1,↓DD,UU]) ?_
 simp only[rx,ry,nyx,↓DD,UU,↓reduceIte,xA,xC,xE,xF]
 refine callT_of (c_bkfits (sh:=sh) (c:=c) (B:=B) hS) ?_
 rintro v H' ⟨rfl,hS⟩
 have hy1:=hS.look
 have hx1:=hS.lk 1 rfl
 simp only[hx1,hy1,↓DD,UU,xA,xE]
 refine newB_intro fun z hz f5 f6=>?_
 have nxz:(x=z)=False:=f5 x (by rw[hx1];rfl)
 have nyz:(y=z)=False:=f5 y (by rw[hy1];rfl)
 simp only[hx1,hy1,nxz,nyz,↓DD,UU,↓reduceIte]
 have:=hS.new f5 (.cells (Uo.enc (Uo.new sh c B)) 244 (0,0))
 exact⟨z,rfl,this.p2.tail.p1.tail⟩
theorem c_uodone {t:Uo} (hS:Sep (uoB k t :: l) H) :
  CallP Tryz.prog W 139 #[.pointer (some ⟨k,0,none⟩)] H fun v H'=>v=.bool t.dn∧Sep (uoB k t :: l) H':=by
 refine CallP.of mixed Tryz.func139 tr139 (by show 1≤_;decide) fun W _=>?_
 have hk:=hS.look
 have r1:=fun o=>rd_of hk o
 simp only[r1,Uo.enc,↓DD,UU,↓reduceIte,xE]
 exact hS
theorem c_uostep {t:Uo} (ht:t.wf) (hw:t.dn=false→w.of t.s) (hS:Sep (uoB k t :: wB b s w :: wR s w :: l) H) :
  CallP Tryz.prog W 229 #[.pointer (some ⟨k,0,none⟩),.pointer (some ⟨b,0,none⟩)] H fun v H'=>v=.tuple #[]∧Sep (uoB k (t.step w).1 :: wB b s (t.step w).2 :: wR s (t.step w).2 :: l) H':=by
 refine CallP.of mixed Tryz.func229 tr229 (by show 2≤_;decide) fun W _=>?_
 have hk:=hS.look
 have r1:=fun o=>rd_of hk o
 have r2:=fun o n=>rdn_of hk o n
 cases hd:t.dn
 rotate_left
 ·have e:t.step w=(t,w):=by unfold Uo.step;rw[if_pos hd]
  rw[e]
  simp only[r1,Uo.enc,hd,↓DD,UU,↓reduceIte,xA,xE]
  exact hS
 obtain⟨⟨hm,c0,c1,p0,p1,fl,fs⟩,fi⟩:=ht hd
 have hb:=(may_iff _ _ _).1 hm
 have hw:=hw hd
 cases hl:t.b.lg
 ·have e:t.step w=({ t with dn:=true },w.store t.c t.sat (putSl 1 t.b.k)):=by unfold Uo.step;rw[hd,hl];rfl
  obtain⟨i0,i1⟩:=fs hl
  have hs:=slots_bd t.b.k
  obtain⟨q0,q1⟩:=slot_in hw hm p0 p1 i0 (by omega:t.b.i<16)
  rw[e]
  simp only[r1,Uo.enc,hd,hl,↓DD,UU,↓reduceIte,xA,xE]
  refine draw_intro [(k,Uo.enc t,[])] (by simp only[hk,↓DD,UU]) ?_
  simp only[hk,r1,r2,v_slot,v_putsl,Uo.enc,hd,↓DD,UU,↓reduceIte,xA,xC,xE,xF]
  refine callT_of (c_store _ _ _ q0 q1 hS.r2) ?_
  rintro v H' ⟨rfl,hS⟩
  have hS:=hS.p2
  have hk:=hS.look
  simp only[hk,Uo.enc,↓DD,UU,xA,xE,xG]
  exact hS.set (.cells (Uo.enc { t with dn:=true }) 244 (0,0))
 obtain⟨n1,n8,nq⟩:=fl hl
 obtain⟨i0,i1⟩:=fi hl
 have w1:w64 (t.b.n - 1)=t.b.n - 1:=w64_eq (by omega) (by omega)
 have w2:w64 (t.b.p+t.i)=t.b.p+t.i:=w64_eq (by omega) (by omega)
 have w3:w64 (t.b.p+t.i+1)=t.b.p+t.i+1:=w64_eq (by omega) (by omega)
 have w4:w64 (t.i+1)=t.i+1:=w64_eq (by omega) (by omega)
 by_cases hi:t.i=t.b.n - 1
 ·have e:t.step w=({ t with dn:=true },w.store t.c t.pat 0):=by unfold Uo.step;rw[hd,hl,if_neg (by decide),if_pos rfl,if_pos hi]
  have g1:(t.i == t.b.n - 1)=true:=beq_iff_eq.2 hi
  obtain⟨q0,q1⟩:=page_in hw hm p0 p1
  rw[e]
  simp only[r1,Uo.enc,hd,hl,wrap_w64,w1,g1,↓DD,UU,↓reduceIte,xA,xE]
  refine draw_intro [(k,Uo.enc t,[])] (by simp only[hk,↓DD,UU]) ?_
  simp only[hk,r1,r2,v_page,Uo.enc,hd,↓DD,UU,↓reduceIte,xA,xC,xE,xF]
  refine callT_of (c_store _ _ _ q0 q1 hS.r2) ?_
  rintro v H' ⟨rfl,hS⟩
  have hS:=hS.p2
  have hk:=hS.look
  simp only[hk,Uo.enc,↓DD,UU,xA,xE,xG]
  exact hS.set (.cells (Uo.enc { t with dn:=true }) 244 (0,0))
 ·have e:t.step w=({ t with i:=t.i+1 },w.store t.c t.iat 0):=by unfold Uo.step;rw[hd,hl,if_neg (by decide),if_pos rfl,if_neg hi]
  have g1:(t.i == t.b.n - 1)=false:=beq_eq_false_iff_ne.2 hi
  obtain⟨q0,q1⟩:=page_in (i:=t.b.p+t.i+1) hw hm (by omega) (by omega)
  rw[e]
  simp only[r1,Uo.enc,hd,hl,wrap_w64,w1,g1,↓DD,UU,↓reduceIte,xA,xE]
  refine draw_intro [(k,Uo.enc t,[])] (by simp only[hk,↓DD,UU]) ?_
  simp only[hk,r1,r2,v_page,Uo.enc,hd,wrap_w64,w2,w3,↓DD,UU,↓reduceIte,xA,xC,xE,xF]
  refine callT_of (c_store _ _ _ q0 q1 hS.r2) ?_
  rintro v H' ⟨rfl,hS⟩
  have hS:=hS.p2
  have hk:=hS.look
  have r1:=fun o=>rd_of hk o
  simp only[hk,r1,Uo.enc,wrap_w64,w4,↓DD,UU,xA,xE,xG]
  have:=hS.set (.cells (Uo.enc { t with i:=t.i+1 }) 244 (0,0))
  unfold Uo.enc at this
  rw[hd,hl]at this
  unfold uoB Uo.enc
  simp only[hl,hd]
  exact this
theorem c_uonone_done (hS:Sep l H):CallP Tryz.prog W 139 #[.pointer none] H fun v H'=>v=.bool false∧Sep l H':=by
 refine CallP.of mixed Tryz.func139 tr139 (by show 1≤_;decide) fun W _=>?_
 simp only[↓DD,UU,↓reduceIte,xE]
 exact hS
end
end Go.Proofs.YtkjpgikjcfhckaaGreat
