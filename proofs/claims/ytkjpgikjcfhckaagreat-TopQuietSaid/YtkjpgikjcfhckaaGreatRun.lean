/-
 Who claims a row of pages: the program's machine. Conditions: none.
-/
import Derived.Test.YtkjpgikjcfhckaaGreatCodeY
import Derived.Test.YtkjpgikjcfhckaaGreatStrip
import Derived.Test.YtkjpgikjcfhckaaGreatMaB
import Derived.Test.YtkjpgikjcfhckaaGreatAlt
open Nat renaming reduceAdd→xA,reduceMul→xB,reduceSub→xC,reduceEqDiff→xD,reduceBEq→xE,reduceLeDiff→xF,reduceLT→xG
open Int renaming reduceAdd→xH,reduceMul→xI,reduceSub→xJ,reduceLT→xK,reduceLE→xL,reduceToNat→xM,reduceEq→xN,reduceNe→xO,reduceBEq→xP,reduceBNe→xQ
set_option linter.unusedVariables false
set_option linter.unusedSimpArgs false
set_option maxRecDepth 8000
namespace Go.Proofs.YtkjpgikjcfhckaaGreat
open Go Go.Ev Go.Pl Go.Ma

def ptS (k:Nat):Option St→Value
 | none=>.pointer none
 | some _=>.pointer (some ⟨k,0,none⟩)
def stO (k:Nat):Option St→Hp
 | none=>fun _=>none
 | some p=>stB k p
def Rn.enc (ks:Nat) (t:Rn):Array Value:=#[.int .i64 t.s.p,.int .i64 t.s.c,.int .i64 t.s.m,.int .i64 t.c,.int .i64 t.n,.int .i64 t.hd,.int .i64 t.at',.int .i64 t.i,.int .i64 t.nx,ptS ks t.st,.bool t.fd,.bool t.dn]
def rnB (k ks:Nat) (t:Rn):Hp:=sg k (.cells (Rn.enc ks t) 233 (0,0))

section
variable {W:World} {H:Hp} {k ks b s:Nat} {t:Rn} {w:Wd} {l:List Hp}

theorem c_rndone (hS:Sep (rnB k ks t :: l) H) :
  CallP Tryz.prog W 152 #[.pointer (some ⟨k,0,none⟩)] H fun v H'=>v=.bool t.dn∧Sep (rnB k ks t :: l) H':=by
 refine CallP.of mixed Tryz.func152 tr152 (by show 1≤_;decide) fun W _=>?_
 have hk:=hS.look
 have r1:=fun o=>rd_of hk o
 simp only[r1,Rn.enc,↓DD,UU,↓reduceIte,xE]
 exact hS
theorem c_rnfound (hS:Sep (rnB k ks t :: l) H) :
  CallP Tryz.prog W 150 #[.pointer (some ⟨k,0,none⟩)] H fun v H'=>v=.tuple #[.int .i64 (if t.fd then t.hd else 0),.bool t.fd]∧Sep (rnB k ks t :: l) H':=by
 refine CallP.of mixed Tryz.func150 tr150 (by show 1≤_;decide) fun W _=>?_
 have hk:=hS.look
 have r1:=fun o=>rd_of hk o
 cases hf:t.fd
 ·simp only[r1,hf,Rn.enc,↓DD,UU,↓reduceIte,xE]
  exact hS
 ·simp only[r1,hf,Rn.enc,↓DD,UU,↓reduceIte,xE]
  exact hS
theorem c_rnnew {sh:Sh} {c n:Int} (hS:Sep l H) :
  CallP Tryz.prog W 130 #[.agg #[.int .i64 sh.p,.int .i64 sh.c,.int .i64 sh.m],.int .i64 c,.int .i64 n] H fun v H'=>∃ k,v=.pointer (some ⟨k,0,none⟩)∧Sep (rnB k 0 (Rn.new sh c n) :: l) H':=by
 refine CallP.of mixed Tryz.func130 tr130 (by show 3≤_;decide) fun W _=>?_
 simp only[↓DD,UU,xA]
 refine newB_intro fun x hx f1 f2=>?_
 have hS:=hS.new f1 (.cells #[.int .i64 sh.p,.int .i64 sh.c,.int .i64 sh.m] 23 (0,0))
 have hx1:=hS.look
 have r1:=fun o=>rd_of hx1 o
 have r2:=fun o n=>rdn_of hx1 o n
 cases h1:decide (0≤status sh.p sh.c sh.m c)<;>cases h2:decide (1≤n)<;>cases h3:decide (n≤8)<;>cases h4:decide (n≤sh.p)
 all_goals
  simp only[r1,r2,v_status,h1,h2,h3,h4,↓DD,UU,↓reduceIte,xA,xC,xE,xF]
  refine newB_intro fun y hy f3 f4=>?_
  have nxy:(x=y)=False:=f3 x (by rw[hx1];rfl)
  have nyx:(y=x)=False:=f4 x (by rw[hx1];rfl)
  simp only[↓DD,UU,xA]
  refine⟨y,rfl,?_⟩
  have:=(hS.new f3 (.cells (Rn.enc 0 (Rn.new sh c n)) 233 (0,0))).p1.tail
  unfold Rn.new Rn.ok at this ⊢
  unfold Rn.enc ptS at this
  unfold rnB Rn.enc ptS
  simp only[h1,h2,h3,h4]at this ⊢
  exact this
theorem c_rnwritten (hi:0≤t.i∧t.i≤1000) (hh:0≤t.hd∧t.hd≤1000) (hn:0≤t.n∧t.n≤1000) (hS:Sep (rnB k ks t :: l) H) :
  CallP Tryz.prog W 210 #[.pointer (some ⟨k,0,none⟩)] H fun v H'=>v=.tuple #[]∧Sep (rnB k ks t.written :: l) H':=by
 refine CallP.of mixed Tryz.func210 tr210 (by show 1≤_;decide) fun W _=>?_
 have hk:=hS.look
 have r1:=fun o=>rd_of hk o
 have w1:w64 (t.i+1)=t.i+1:=w64_eq (by omega) (by omega)
 have w2:w64 (t.hd+t.n)=t.hd+t.n:=w64_eq (by omega) (by omega)
 by_cases he:t.i+1=t.hd+t.n
 ·have g1:(t.i+1 == t.hd+t.n)=true:=beq_iff_eq.2 he
  have e:t.written = { t with i:=t.i+1,fd:=true,dn:=true }:=by unfold Rn.written;rw[if_pos he]
  simp only[hk,r1,wrap_w64,w1,w2,g1,Rn.enc,Ev.upd_upd,↓DD,UU,↓reduceIte,xA,xE,xG]
  rw[e]
  exact hS.set (.cells (Rn.enc ks { t with i:=t.i+1,fd:=true,dn:=true }) 233 (0,0))
 ·have g1:(t.i+1 == t.hd+t.n)=false:=beq_eq_false_iff_ne.2 he
  have e:t.written = { t with i:=t.i+1 }:=by unfold Rn.written;rw[if_neg he]
  simp only[hk,r1,wrap_w64,w1,w2,g1,Rn.enc,↓DD,UU,↓reduceIte,xA,xE,xG]
  rw[e]
  exact hS.set (.cells (Rn.enc ks { t with i:=t.i+1 }) 233 (0,0))
theorem c_rnown (ha:0≤t.at'∧t.at'≤1000) (hh:0≤t.hd∧t.hd≤1000) (hn:0≤t.n∧t.n≤1000) (hS:Sep (rnB k ks t :: l) H) :
  CallP Tryz.prog W 204 #[.pointer (some ⟨k,0,none⟩)] H fun v H'=>v=.tuple #[]∧Sep (rnB k ks t.own :: l) H':=by
 refine CallP.of mixed Tryz.func204 tr204 (by show 1≤_;decide) fun W _=>?_
 have hk:=hS.look
 have r1:=fun o=>rd_of hk o
 have w1:w64 (t.at'+1)=t.at'+1:=w64_eq (by omega) (by omega)
 have w2:w64 (t.hd+t.n)=t.hd+t.n:=w64_eq (by omega) (by omega)
 by_cases he:t.at'+1=t.hd+t.n
 ·have g1:(t.at'+1 == t.hd+t.n)=true:=beq_iff_eq.2 he
  have e:t.own=({ t with at':=t.at'+1,nx:=5,i:=t.hd }:Rn).written:=by unfold Rn.own;rw[if_pos he]
  simp only[hk,r1,wrap_w64,w1,w2,g1,Rn.enc,Ev.upd_upd,↓DD,UU,↓reduceIte,xA,xE,xG]
  refine callT_of (c_rnwritten (t:={ t with at':=t.at'+1,nx:=5,i:=t.hd }) hh hh hn (hS.set (.cells (Rn.enc ks { t with at':=t.at'+1,nx:=5,i:=t.hd }) 233 (0,0)))) ?_
  rintro v H' ⟨rfl,hS⟩
  simp only[↓DD,UU]
  rw[e]
  exact hS
 ·have g1:(t.at'+1 == t.hd+t.n)=false:=beq_eq_false_iff_ne.2 he
  have e:t.own = { t with at':=t.at'+1,nx:=0 }:=by unfold Rn.own;rw[if_neg he]
  simp only[hk,r1,wrap_w64,w1,w2,g1,Rn.enc,Ev.upd_upd,↓DD,UU,↓reduceIte,xA,xE,xG]
  rw[e]
  exact hS.set (.cells (Rn.enc ks { t with at':=t.at'+1,nx:=0 }) 233 (0,0))
theorem c_rngone (ha:0≤t.at'∧t.at'≤1000) (hn:0≤t.n∧t.n≤1000) (hp:0≤t.s.p∧t.s.p≤1000) (hdn:t.dn=false) (hS:Sep (rnB k ks t :: l) H) :
  CallP Tryz.prog W 209 #[.pointer (some ⟨k,0,none⟩)] H fun v H'=>v=.tuple #[]∧Sep (rnB k ks t.gone :: l) H':=by
 refine CallP.of mixed Tryz.func209 tr209 (by show 1≤_;decide) fun W _=>?_
 have hk:=hS.look
 have r1:=fun o=>rd_of hk o
 have w1:w64 (t.at'+1)=t.at'+1:=w64_eq (by omega) (by omega)
 have w2:w64 (t.s.p - t.n)=t.s.p - t.n:=w64_eq (by omega) (by omega)
 by_cases he:t.hd<t.i
 ·have g1:decide (t.hd<t.i)=true:=decide_eq_true he
  have e:t.gone=t:=by unfold Rn.gone;rw[if_pos he]
  simp only[r1,g1,Rn.enc,↓DD,UU,xE]
  rw[e]
  exact hS
 ·have g1:decide (t.hd<t.i)=false:=decide_eq_false he
  have e:t.gone = { t with at':=t.at'+1,hd:=t.at'+1,nx:=0,dn:=decide (t.s.p - t.n<t.at'+1) }:=by unfold Rn.gone;rw[if_neg he]
  simp only[hk,r1,wrap_w64,w1,g1,Rn.enc,Ev.upd_upd,↓DD,UU,↓reduceIte,xA,xE,xG]
  have hS1:=hS.set (.cells (Rn.enc ks { t with at':=t.at'+1,hd:=t.at'+1,nx:=0 }) 233 (0,0))
  have hk1:=hS1.look
  have r2:=fun o=>rd_of hk1 o
  refine draw_intro [(k,Rn.enc ks { t with at':=t.at'+1,hd:=t.at'+1,nx:=0 },[])] (by simp only[Rn.enc,↓DD,UU]) ?_
  simp only[wrap_w64,w2,Rn.enc,Ev.upd_upd,↓DD,UU,↓reduceIte,xA,xE,xG]
  rw[e]
  exact hS.set (.cells (Rn.enc ks { t with at':=t.at'+1,hd:=t.at'+1,nx:=0,dn:=decide (t.s.p - t.n<t.at'+1) }) 233 (0,0))
theorem c_rnmiss (ha:0≤t.at'∧t.at'≤1000) (hn:0≤t.n∧t.n≤1000) (hp:0≤t.s.p∧t.s.p≤1000) (hdn:t.dn=false) (hS:Sep (rnB k ks t :: l) H) :
  CallP Tryz.prog W 205 #[.pointer (some ⟨k,0,none⟩)] H fun v H'=>v=.tuple #[]∧Sep (rnB k ks t.miss :: l) H':=by
 refine CallP.of mixed Tryz.func205 tr205 (by show 1≤_;decide) fun W _=>?_
 have hk:=hS.look
 have r1:=fun o=>rd_of hk o
 simp only[hk,r1,Rn.enc,Ev.upd_upd,↓DD,UU,xA,xE,xG]
 refine callT_of (c_rngone (t:={ t with nx:=4,i:=t.at',gx:=t.at'+1 }) ha hn hp hdn (hS.set (.cells (Rn.enc ks { t with nx:=4,i:=t.at',gx:=t.at'+1 }) 233 (0,0)))) ?_
 rintro v H' ⟨rfl,hS⟩
 simp only[↓DD,UU]
 exact hS
theorem c_rnset {q a1 a2 a3:Int} (hm:may t.s.p t.s.c t.s.m=true) (h0:0≤q) (h1:q<t.s.p) (hw:w.of t.s) (hS:Sep (rnB k ks t :: wB b s w :: wR s w :: l) H) :
  CallP Tryz.prog W 208 #[.pointer (some ⟨k,0,none⟩),.pointer (some ⟨b,0,none⟩),.int .i64 q,.agg #[.int .i64 a1,.int .i64 a2,.int .i64 a3]] H fun v H'=>v=.tuple #[] ∧
   Sep (rnB k ks t :: wB b s (w.store t.c (page t.s.p t.s.c t.s.m q) (putPg a1 a2 a3)) :: wR s (w.store t.c (page t.s.p t.s.c t.s.m q) (putPg a1 a2 a3)) :: l) H':=by
 refine CallP.of mixed Tryz.func208 tr208 (by show 4≤_;decide) fun W _=>?_
 obtain⟨q0,q1⟩:=page_in hw hm h0 h1
 simp only[↓DD,UU,xA,xE]
 refine newB_intro fun y hy f3 f4=>?_
 have hS:=(hS.new f3 (.cells #[.int .i64 a1,.int .i64 a2,.int .i64 a3] 107 (0,0))).p1
 have hk:=hS.look
 have hy1:=hS.lk 1 rfl
 have r1:=fun o=>rd_of hk o
 have r2:=fun o n=>rdn_of hk o n
 have ry:=fun o n=>rdn_of hy1 o n
 have nky:=hS.neq 0 1 (by decide) rfl rfl
 have nyk:=hS.qen 0 1 (by decide) rfl rfl
 refine draw_intro [(k,Rn.enc ks t,[]),(y,#[.int .i64 a1,.int .i64 a2,.int .i64 a3],[])] (by simp only[hk,hy1,Rn.enc,↓DD,UU]) ?_
 simp only[hk,hy1,r1,r2,ry,nyk,v_page,v_putpg,Rn.enc,↓DD,UU,↓reduceIte,xA,xC,xE,xF]
 refine callT_of (c_store _ _ _ q0 q1 hS.p3.p3) ?_
 rintro v H' ⟨rfl,hS⟩
 simp only[↓DD,UU]
 exact hS.p3.p3.p1.tail
def rnC (k ks b s:Nat) (t:Rn) (w:Wd) (l:List Hp) (F':Fr) (H':Hp):Prop:=
 gt F' 0=.pointer (some ⟨k,0,none⟩)∧gt F' 5=.bool (okPg t.s t.at' (w.get t.pat))∧∃ y,gt F' 4=.pointer (some ⟨y,0,none⟩) ∧
  Sep (rnB k ks t :: wB b s (w.load t.c t.pat) :: wR s (w.load t.c t.pat) :: sg y (.cells #[.int .i64 (pgK t.s t.at' (w.get t.pat)),.int .i64 (pgA t.s t.at' (w.get t.pat)),.int .i64 (pgB t.s t.at' (w.get t.pat))] 107 (0,0)) :: l) H'
theorem c_rnlook (hm:may t.s.p t.s.c t.s.m=true) (h0:0≤t.at') (h1:t.at'<t.s.p) (hn:0≤t.n∧t.n≤1000) (hdn:t.dn=false) (hw:w.of t.s) (hS:Sep (rnB k ks t :: wB b s w :: wR s w :: stO ks t.st :: l) H) :
  CallP Tryz.prog W 202 #[.pointer (some ⟨k,0,none⟩),.pointer (some ⟨b,0,none⟩)] H fun v H'=>v=.tuple #[]∧∃ ks',Sep (rnB k ks' (t.look (w.get t.pat)) :: stO ks' (t.look (w.get t.pat)).st :: wB b s (w.load t.c t.pat) :: wR s (w.load t.c t.pat) :: l) H':=by
 refine CallP.of mixed Tryz.func202 tr202 (by show 2≤_;decide) fun W _=>?_
 have hk:=hS.look
 have r1:=fun o=>rd_of hk o
 have r2:=fun o n=>rdn_of hk o n
 obtain⟨p0,p1⟩:=page_in hw hm h0 h1
 have hu:U (w.get (page t.s.p t.s.c t.s.m t.at')):=hw.u _
 have hb:=(may_iff _ _ _).1 hm
 refine draw_cut [(k,Rn.enc ks t,[])] (rnC k ks b s t w (stO ks t.st :: l)) (by simp only[hk,Rn.enc,↓DD,UU]) ?_ ?_
 ·simp only[hk,r1,r2,v_page,Rn.enc,↓e_dalt2,↓DD,UU,↓reduceIte,xA,xC,xE,xF]
  refine⟨⟨?_,?_⟩,?_⟩
  ·refine callT_of (c_load _ _ p0 p1 hS.p2.p2) ?_
   rintro v H' ⟨rfl,hS⟩
   have hS:=hS.p2
   have hk:=hS.look
   have r1:=fun o=>rd_of hk o
   have r2:=fun o n=>rdn_of hk o n
   simp only[hk,v_readpg t.s _ hu,Rn.enc,↓e_dalt2,↓DD,UU,xA,xE]
   refine⟨?_,?_⟩
   all_goals
    refine newB_intro fun y hy f3 f4=>?_
    have nky:(k=y)=False:=f3 k (by rw[hk];rfl)
    have nyk:(y=k)=False:=f4 k (by rw[hk];rfl)
    have hS:=(hS.new f3 (.cells #[.int .i64 (pgK t.s t.at' (w.get t.pat)),.int .i64 (pgA t.s t.at' (w.get t.pat)),.int .i64 (pgB t.s t.at' (w.get t.pat))] 107 (0,0))).r3
    simp only[hk,nky,v_readpg t.s _ hu,Ev.upd_upd,Rn.enc,↓DD,UU,↓reduceIte,xA,xE,xF]
    exact⟨rfl,rfl,y,rfl,hS⟩
  ·refine newB_intro fun y hy f3 f4=>?_
   have nky:(k=y)=False:=f3 k (by rw[hk];rfl)
   have nyk:(y=k)=False:=f4 k (by rw[hk];rfl)
   have hS:=(hS.new f3 (.cells #[.int .i64 0,.int .i64 0,.int .i64 0] 107 (0,0))).r3
   simp only[hk,nky,Rn.enc,↓DD,UU,↓reduceIte,xA,xE]
   refine callT_of (c_load _ _ p0 p1 hS.p2.p2) ?_
   rintro v H' ⟨rfl,hS⟩
   have hS:=hS.p2
   have hk:=hS.look
   have hy1:=hS.lk 3 rfl
   have r1:=fun o=>rd_of hk o
   have r2:=fun o n=>rdn_of hk o n
   simp only[hk,hy1,nky,v_readpg t.s _ hu,Rn.enc,↓DD,UU,↓reduceIte,xA,xE,xF]
   exact⟨rfl,rfl,y,rfl,(hS.p3.set (.cells #[.int .i64 (pgK t.s t.at' (w.get t.pat)),.int .i64 (pgA t.s t.at' (w.get t.pat)),.int .i64 (pgB t.s t.at' (w.get t.pat))] 107 (0,0))).r3⟩
  ·refine newB_intro fun y hy f3 f4=>?_
   have nky:(k=y)=False:=f3 k (by rw[hk];rfl)
   have nyk:(y=k)=False:=f4 k (by rw[hk];rfl)
   have hS:=(hS.new f3 (.cells #[.int .i64 0,.int .i64 0,.int .i64 0] 107 (0,0))).r3
   simp only[hk,nky,v_page,Rn.enc,↓DD,UU,↓reduceIte,xA,xE]
   refine callT_of (c_load _ _ p0 p1 hS.p2.p2) ?_
   rintro v H' ⟨rfl,hS⟩
   have hS:=hS.p2
   have hk:=hS.look
   have hy1:=hS.lk 3 rfl
   have r1:=fun o=>rd_of hk o
   have r2:=fun o n=>rdn_of hk o n
   simp only[hk,hy1,nky,v_readpg t.s _ hu,Rn.enc,↓DD,UU,↓reduceIte,xA,xE,xF]
   exact⟨rfl,rfl,y,rfl,(hS.p3.set (.cells #[.int .i64 (pgK t.s t.at' (w.get t.pat)),.int .i64 (pgA t.s t.at' (w.get t.pat)),.int .i64 (pgB t.s t.at' (w.get t.pat))] 107 (0,0))).r3⟩
 ·rintro F' H' ⟨e0,e5,y,e4,hS⟩
  have hk:=hS.look
  have r1:=fun o=>rd_of hk o
  have r2:=fun o n=>rdn_of hk o n
  have hy1:=hS.lk 3 rfl
  have ry:=fun o=>rd_of hy1 o
  have nky:=hS.neq 0 3 (by decide) rfl rfl
  have nyk:=hS.qen 0 3 (by decide) rfl rfl
  cases ho:okPg t.s t.at' (w.get t.pat)
  ·have e:t.look (w.get t.pat)=t.miss:=by unfold Rn.look;rw[if_neg (by unfold Rn.isE;rw[ho];simp),if_neg (by unfold Rn.isS;rw[ho];simp)]
   rw[ho]at e5
   simp only[e0,e5,↓DD,UU,xE]
   refine callT_of (c_rnmiss (by omega) hn (by omega) hdn hS) ?_
   rintro v H' ⟨rfl,hS⟩
   have hst:t.miss.st=t.st:=by unfold Rn.miss Rn.gone;split<;>rfl
   simp only[↓DD,UU]
   rw[e,hst]
   exact⟨ks,hS.p3.tail.p3.p1⟩
  ·rw[ho]at e5
   by_cases hE:pgK t.s t.at' (w.get t.pat)=0
   ·have gE:(pgK t.s t.at' (w.get t.pat) == 0)=true:=beq_iff_eq.2 hE
    have e:t.look (w.get t.pat) = { t with nx:=1 }:=by unfold Rn.look;rw[if_pos (by unfold Rn.isE;rw[ho,decide_eq_true hE];rfl)]
    simp only[hk,ry,e0,e4,e5,gE,Rn.enc,↓DD,UU,xA,xE,xG]
    rw[e]
    exact⟨ks,(hS.set (.cells (Rn.enc ks { t with nx:=1 }) 233 (0,0))).p3.tail.p3.p1⟩
   ·have gE:(pgK t.s t.at' (w.get t.pat) == 0)=false:=beq_eq_false_iff_ne.2 hE
    have nE:¬ t.isE (w.get t.pat)=true:=by unfold Rn.isE;rw[decide_eq_false hE];simp
    by_cases hK:pgK t.s t.at' (w.get t.pat)=2
    ·have gK:(pgK t.s t.at' (w.get t.pat) == 2)=true:=beq_iff_eq.2 hK
     have e:t.look (w.get t.pat) = { t with nx:=2,st:=some (t.snew (w.get t.pat)) }:=by unfold Rn.look;rw[if_neg nE,if_pos (by unfold Rn.isS;rw[ho,decide_eq_true hK];rfl)]
     simp only[ry,e4,e5,gE,gK,↓DD,UU,xE]
     refine draw_intro [(k,Rn.enc ks t,[8]),(y,#[.int .i64 (pgK t.s t.at' (w.get t.pat)),.int .i64 (pgA t.s t.at' (w.get t.pat)),.int .i64 (pgB t.s t.at' (w.get t.pat))],[])] (by simp only[hk,hy1,Rn.enc,↓DD,UU]) ?_
     simp only[r1,r2,ry,e0,e4,nyk,Rn.enc,↓DD,UU,↓reduceIte,xA,xC,xE,xF,xG]
     refine callT_of (c_stnew (sh:=t.s) hS) ?_
     rintro v H' ⟨ks',rfl,hS⟩
     have hS:=hS.p1
     have hk:=hS.look
     have r1:=fun o=>rd_of hk o
     have hy1:=hS.lk 4 rfl
     have ry:=fun o=>rd_of hy1 o
     simp only[hk,hy1,nyk,Rn.enc,Ev.upd_upd,↓DD,UU,↓reduceIte,xA,xE,xG]
     rw[e]
     have hS:=hS.set (.cells (Rn.enc ks' { t with nx:=2,st:=some (t.snew (w.get t.pat)) }) 233 (0,0))
     exact⟨ks',hS.p5.tail.p4.tail⟩
    ·have gK:(pgK t.s t.at' (w.get t.pat) == 2)=false:=beq_eq_false_iff_ne.2 hK
     have e:t.look (w.get t.pat)=t.miss:=by unfold Rn.look;rw[if_neg nE,if_neg (by unfold Rn.isS;rw[decide_eq_false hK];simp)]
     simp only[ry,e0,e4,e5,gE,gK,↓DD,UU,xE]
     refine callT_of (c_rnmiss (by omega) hn (by omega) hdn hS) ?_
     rintro v H' ⟨rfl,hS⟩
     have hst:t.miss.st=t.st:=by unfold Rn.miss Rn.gone;split<;>rfl
     simp only[↓DD,UU]
     rw[e,hst]
     exact⟨ks,hS.p3.tail.p3.p1⟩
theorem c_rnstep (ht:t.wf) (hw:t.dn=false→w.of t.s) (hS:Sep (rnB k ks t :: stO ks t.st :: wB b s w :: wR s w :: l) H) :
  CallP Tryz.prog W 198 #[.pointer (some ⟨k,0,none⟩),.pointer (some ⟨b,0,none⟩)] H fun v H'=>v=.tuple #[]∧∃ ks',Sep (rnB k ks' (t.step w).1 :: stO ks' (t.step w).1.st :: wB b s (t.step w).2 :: wR s (t.step w).2 :: l) H':=by
 refine CallP.of mixed Tryz.func198 tr198 (by show 2≤_;decide) fun W _=>?_
 have hk:=hS.look
 have r1:=fun o=>rd_of hk o
 have r2:=fun o n=>rdn_of hk o n
 rcases Rn.step_cases ht w with⟨hd,e⟩|⟨hd,hc⟩
 ·rw[e]
  simp only[r1,Rn.enc,hd,↓DD,UU,↓reduceIte,xA,xE]
  exact⟨ks,hS⟩
 obtain⟨hm,hf,ar⟩:=ht.of hd
 unfold Rn.Ar at ar
 have hw:=hw hd
 have hb:=(may_iff _ _ _).1 hm
 have OST:t.own.st=t.st:=by unfold Rn.own;split;(unfold Rn.written;split<;>rfl);rfl
 have MST:t.miss.st=t.st:=by unfold Rn.miss Rn.gone;split<;>rfl
 rcases hc with⟨hn,e⟩|⟨hn,e⟩|⟨hn,q,hq,hqw,hqd,hqs,hqc,hqp,e⟩|⟨hn,e⟩|⟨hn,e⟩|⟨hn,e⟩<;>rw[e]
 ·have g0:(t.nx == 0)=true:=beq_iff_eq.2 hn
  simp only[r1,Rn.enc,hd,g0,↓DD,UU,↓reduceIte,xA,xE]
  refine callT_of (c_rnlook hm (by omega) (by omega) (by omega) hd hw hS.p1.r3) ?_
  rintro v H' ⟨rfl,ks',hS⟩
  simp only[↓DD,UU]
  exact⟨ks',hS⟩
 ·have g0:(t.nx == 0)=false:=beq_eq_false_iff_ne.2 (by omega)
  have g1:(t.nx == 1)=true:=beq_iff_eq.2 hn
  obtain⟨q0,q1⟩:=page_in (i:=t.at') hw hm (by omega) (by omega)
  simp only[r1,Rn.enc,hd,g0,g1,↓DD,UU,↓reduceIte,xA,xE]
  refine draw_intro [(k,Rn.enc ks t,[])] (by simp only[hk,↓DD,UU]) ?_
  simp only[hk,r1,r2,v_page,v_putpg,Rn.enc,hd,↓DD,UU,↓reduceIte,xA,xC,xE,xF]
  refine callT_of (c_swap _ _ _ _ q0 q1 hS.p3.p3) ?_
  rintro v H' ⟨rfl,hS⟩
  have hS:=hS.p2
  have hk:=hS.look
  have r1:=fun o=>rd_of hk o
  by_cases hz:w.get t.pat=0
  ·have gz:(w.get (page t.s.p t.s.c t.s.m t.at') == 0)=true:=beq_iff_eq.2 hz
   have e2:t.claim (w.get t.pat)=t.own:=by unfold Rn.claim;rw[if_pos hz]
   simp only[gz,↓DD,UU,xE]
   refine callT_of (c_rnown (by omega) (by omega) (by omega) hS) ?_
   rintro v H' ⟨rfl,hS⟩
   simp only[↓DD,UU]
   rw[e2,OST]
   exact⟨ks,hS.p3.p1⟩
  ·have gz:(w.get (page t.s.p t.s.c t.s.m t.at') == 0)=false:=beq_eq_false_iff_ne.2 hz
   have e2:t.claim (w.get t.pat)=t.miss:=by unfold Rn.claim;rw[if_neg hz]
   simp only[gz,↓DD,UU,xE]
   refine callT_of (c_rnmiss (by omega) (by omega) (by omega) hd hS) ?_
   rintro v H' ⟨rfl,hS⟩
   simp only[↓DD,UU]
   rw[e2,MST]
   exact⟨ks,hS.p3.p1⟩
 ·have g0:(t.nx == 0)=false:=beq_eq_false_iff_ne.2 (by omega)
  have g1:(t.nx == 1)=false:=beq_eq_false_iff_ne.2 (by omega)
  have g2:(t.nx == 2)=true:=beq_iff_eq.2 hn
  have hpo:stO ks t.st=stB ks q:=by rw[hq];rfl
  have hpt:ptS ks t.st=.pointer (some ⟨ks,0,none⟩):=by rw[hq];rfl
  rw[hpo]at hS
  simp only[r1,Rn.enc,hd,g0,g1,g2,hpt,↓DD,UU,↓reduceIte,xA,xE]
  refine callT_of (c_ststep hqw (fun _=>by rw[hqs];exact hw) hS.p3.p3.p3) ?_
  rintro v H' ⟨rfl,hS⟩
  have hS:=hS.p3
  have hrn:rnB k ks t=rnB k ks { t with st:=some (q.step w).1 }:=by unfold rnB Rn.enc;rw[hq];rfl
  rw[hrn]at hS
  have hk:=hS.look
  have r1:=fun o=>rd_of hk o
  have hsO:∀ p:St,ptS ks (some p)=.pointer (some ⟨ks,0,none⟩):=fun _=>rfl
  simp only[r1,Rn.enc,hsO,↓DD,UU,xA,xE]
  refine callT_of (c_stheld hS.p1) ?_
  rintro v H' ⟨rfl,hS⟩
  have hS:=hS.p1
  have hk:=hS.look
  have r1:=fun o=>rd_of hk o
  cases hh:(q.step w).1.hd
  ·simp only[r1,Rn.enc,hsO,↓DD,UU,xA,xE]
   refine callT_of (c_stdone hS.p1) ?_
   rintro v H' ⟨rfl,hS⟩
   have hS:=hS.p1
   have hk:=hS.look
   have r1:=fun o=>rd_of hk o
   cases hqd2:(q.step w).1.dn
   ·have e2:t.outs (q.step w).1 = { t with st:=some (q.step w).1 }:=by unfold Rn.outs;rw[hh,hqd2];rfl
    simp only[↓DD,UU,xA]
    rw[e2]
    exact⟨ks,hS⟩
   ·have e2:t.outs (q.step w).1=({ t with st:=some (q.step w).1 }:Rn).miss:=by unfold Rn.outs;rw[hh,hqd2];rfl
    have MST2:({ t with st:=some (q.step w).1 }:Rn).miss.st=some (q.step w).1:=by unfold Rn.miss Rn.gone;split<;>rfl
    simp only[↓DD,UU,xA,xE]
    refine callT_of (c_rnmiss (t:={ t with st:=some (q.step w).1 }) (by show 0≤t.at'∧t.at'≤1000;omega) (by show 0≤t.n∧t.n≤1000;omega) (by show 0≤t.s.p∧t.s.p≤1000;omega) hd hS) ?_
    rintro v H' ⟨rfl,hS⟩
    simp only[↓DD,UU]
    rw[e2,MST2]
    exact⟨ks,hS⟩
  ·have e2:t.outs (q.step w).1 = { t with st:=some (q.step w).1,nx:=3,i:=0 }:=by unfold Rn.outs;rw[hh];rfl
   simp only[hk,Rn.enc,hsO,Ev.upd_upd,↓DD,UU,xA,xE,xG]
   rw[e2]
   exact⟨ks,hS.set (.cells (Rn.enc ks { t with st:=some (q.step w).1,nx:=3,i:=0 }) 233 (0,0))⟩
 ·have g0:(t.nx == 0)=false:=beq_eq_false_iff_ne.2 (by omega)
  have g1:(t.nx == 1)=false:=beq_eq_false_iff_ne.2 (by omega)
  have g2:(t.nx == 2)=false:=beq_eq_false_iff_ne.2 (by omega)
  have g3:(t.nx == 3)=true:=beq_iff_eq.2 hn
  obtain⟨q0,q1⟩:=slot_in (i:=t.at') (j:=t.i) hw hm (by omega) (by omega) (by omega) (by omega)
  have w1:w64 (t.i+1)=t.i+1:=w64_eq (by omega) (by omega)
  simp only[r1,Rn.enc,hd,g0,g1,g2,g3,↓DD,UU,↓reduceIte,xA,xE]
  refine draw_intro [(k,Rn.enc ks t,[])] (by simp only[hk,↓DD,UU]) ?_
  simp only[hk,r1,r2,v_slot,Rn.enc,hd,↓DD,UU,↓reduceIte,xA,xC,xE,xF]
  refine callT_of (c_store _ _ _ q0 q1 hS.p3.p3) ?_
  rintro v H' ⟨rfl,hS⟩
  have hS:=hS.p2
  have hk:=hS.look
  have r1:=fun o=>rd_of hk o
  have hS1:=hS.set (.cells (Rn.enc ks { t with i:=t.i+1 }) 233 (0,0))
  by_cases h16:t.i+1=16
  ·have gi:(t.i+1 == 16)=true:=beq_iff_eq.2 h16
   have e2:t.clear=({ t with i:=t.i+1 }:Rn).own:=by unfold Rn.clear;rw[if_pos h16]
   have OST2:({ t with i:=t.i+1 }:Rn).own.st=t.st:=by unfold Rn.own;split;(unfold Rn.written;split<;>rfl);rfl
   simp only[hk,r1,wrap_w64,w1,gi,Rn.enc,↓DD,UU,↓reduceIte,xA,xE,xG]
   refine callT_of (c_rnown (t:={ t with i:=t.i+1 }) (by show 0≤t.at'∧t.at'≤1000;omega) (by show 0≤t.hd∧t.hd≤1000;omega) (by show 0≤t.n∧t.n≤1000;omega) hS1) ?_
   rintro v H' ⟨rfl,hS⟩
   simp only[↓DD,UU]
   rw[e2,OST2]
   exact⟨ks,hS.p3.p1⟩
  ·have gi:(t.i+1 == 16)=false:=beq_eq_false_iff_ne.2 h16
   have e2:t.clear = { t with i:=t.i+1 }:=by unfold Rn.clear;rw[if_neg h16]
   simp only[hk,r1,wrap_w64,w1,gi,Rn.enc,↓DD,UU,↓reduceIte,xA,xE,xG]
   rw[e2]
   exact⟨ks,hS1.p3.p1⟩
 ·have g0:(t.nx == 0)=false:=beq_eq_false_iff_ne.2 (by omega)
  have g1:(t.nx == 1)=false:=beq_eq_false_iff_ne.2 (by omega)
  have g2:(t.nx == 2)=false:=beq_eq_false_iff_ne.2 (by omega)
  have g3:(t.nx == 3)=false:=beq_eq_false_iff_ne.2 (by omega)
  have g4:(t.nx == 4)=true:=beq_iff_eq.2 hn
  have w1:w64 (t.i - 1)=t.i - 1:=w64_eq (by omega) (by omega)
  simp only[r1,wrap_w64,w1,Rn.enc,hd,g0,g1,g2,g3,g4,↓DD,UU,↓reduceIte,xA,xE]
  refine callT_of (c_rnset (q:=t.i - 1) hm (by omega) (by omega) hw hS.p1.r3) ?_
  rintro v H' ⟨rfl,hS⟩
  have hk:=hS.look
  have r1:=fun o=>rd_of hk o
  have hS1:=hS.set (.cells (Rn.enc ks { t with i:=t.i - 1 }) 233 (0,0))
  have GST:({ t with i:=t.i - 1 }:Rn).gone.st=t.st:=by unfold Rn.gone;split<;>rfl
  have hp0:putPg 0 0 0=0:=by decide
  simp only[hk,r1,wrap_w64,w1,Rn.enc,↓DD,UU,xA,xE,xG]
  refine callT_of (c_rngone (t:={ t with i:=t.i - 1 }) (by show 0≤t.at'∧t.at'≤1000;omega) (by show 0≤t.n∧t.n≤1000;omega) (by show 0≤t.s.p∧t.s.p≤1000;omega) hd hS1) ?_
  rintro v H' ⟨rfl,hS⟩
  simp only[↓DD,UU]
  rw[GST]
  rw[hp0]at hS
  exact⟨ks,hS.p3.p1⟩
 ·have g0:(t.nx == 0)=false:=beq_eq_false_iff_ne.2 (by omega)
  have g1:(t.nx == 1)=false:=beq_eq_false_iff_ne.2 (by omega)
  have g2:(t.nx == 2)=false:=beq_eq_false_iff_ne.2 (by omega)
  have g3:(t.nx == 3)=false:=beq_eq_false_iff_ne.2 (by omega)
  have g4:(t.nx == 4)=false:=beq_eq_false_iff_ne.2 (by omega)
  have g5:(t.nx == 5)=true:=beq_iff_eq.2 hn
  simp only[r1,Rn.enc,hd,g0,g1,g2,g3,g4,g5,↓DD,UU,↓reduceIte,xA,xE]
  refine draw_intro [(k,Rn.enc ks t,[])] (by simp only[hk,↓DD,UU]) ?_
  simp only[r1,Rn.enc,hd,↓DD,UU,↓reduceIte,xA,xE]
  refine callT_of (c_rnset (q:=t.i) hm (by omega) (by omega) hw hS.p1.r3) ?_
  rintro v H' ⟨rfl,hS⟩
  have hk:=hS.look
  have r1:=fun o=>rd_of hk o
  have WST:t.written.st=t.st:=by unfold Rn.written;split<;>rfl
  simp only[↓DD,UU,xE]
  refine callT_of (c_rnwritten (by omega) (by omega) (by omega) hS) ?_
  rintro v H' ⟨rfl,hS⟩
  simp only[↓DD,UU]
  rw[WST]
  exact⟨ks,hS.p3.p1⟩
end
end Go.Proofs.YtkjpgikjcfhckaaGreat
