/-
 Who adopts a dead client: the program's machine. Conditions: none.
-/
import Derived.Test.YtkjpgikjcfhckaaGreatCodeY
import Derived.Test.YtkjpgikjcfhckaaGreatStat
import Derived.Test.YtkjpgikjcfhckaaGreatWords
open Nat renaming reduceAdd→xA,reduceMul→xB,reduceSub→xC,reduceEqDiff→xD,reduceBEq→xE,reduceLeDiff→xF,reduceLT→xG
open Int renaming reduceAdd→xH,reduceMul→xI,reduceSub→xJ,reduceLT→xK,reduceLE→xL,reduceToNat→xM,reduceEq→xN,reduceNe→xO,reduceBEq→xP,reduceBNe→xQ
set_option linter.unusedVariables false
set_option linter.unusedSimpArgs false
set_option maxRecDepth 8000
namespace Go.Proofs.YtkjpgikjcfhckaaGreat
open Go Go.Ev Go.Pl Go.Ma

def Ad.enc (t:Ad):Array Value:=#[.int .i64 t.s.p,.int .i64 t.s.c,.int .i64 t.s.m,.int .i64 t.c,.int .i64 t.d,.int .i64 t.nx,.int .u64 t.was,.int .i64 t.by',.int .i64 t.at',.int .i64 t.i,.int .i64 t.pK,.int .i64 t.pA,.int .i64 t.pB,.int .i64 t.err,.bool t.dn]
def adB (k:Nat) (t:Ad):Hp:=sg k (.cells (Ad.enc t) 222 (0,0))
theorem status_in {s:Sh} {w:Wd} (h:w.of s) (hm:may s.p s.c s.m=true) {i:Int} (h0:0≤i) (h1:i<s.c):0≤status s.p s.c s.m i∧status s.p s.c s.m i<w.n:=by
 have e:status s.p s.c s.m i=i:=by unfold status within;rw[hm];simp;omega
 obtain⟨a1,a2,a3,a4,a5,a6⟩:=(may_iff _ _ _).1 hm
 have:=mul_bd s.c s.m (by omega) a4 a5 a6
 rw[e,h.n]
 unfold words;rw[if_pos hm];omega

section
variable {W:World} {H:Hp} {k b s:Nat} {t:Ad} {w:Wd} {l:List Hp}

theorem c_addone (hS:Sep (adB k t :: l) H) :
  CallP Tryz.prog W 236 #[.pointer (some ⟨k,0,none⟩)] H fun v H'=>v=.bool t.dn∧Sep (adB k t :: l) H':=by
 refine CallP.of mixed Tryz.func236 tr236 (by show 1≤_;decide) fun W _=>?_
 have hk:=hS.look
 have r1:=fun o=>rd_of hk o
 simp only[r1,Ad.enc,↓DD,UU,↓reduceIte,xE]
 exact hS
theorem c_aderr (hS:Sep (adB k t :: l) H) :
  CallP Tryz.prog W 249 #[.pointer (some ⟨k,0,none⟩)] H fun v H'=>v=.int .i64 t.err∧Sep (adB k t :: l) H':=by
 refine CallP.of mixed Tryz.func249 tr249 (by show 1≤_;decide) fun W _=>?_
 have hk:=hS.look
 have r1:=fun o=>rd_of hk o
 simp only[r1,Ad.enc,↓DD,UU,↓reduceIte,xE]
 exact hS
theorem c_adend (e:Int) (hS:Sep (adB k t :: l) H) :
  CallP Tryz.prog W 133 #[.pointer (some ⟨k,0,none⟩),.int .i64 e] H fun v H'=>v=.tuple #[]∧Sep (adB k (t.fin e) :: l) H':=by
 refine CallP.of mixed Tryz.func133 tr133 (by show 2≤_;decide) fun W _=>?_
 have hk:=hS.look
 have r1:=fun o=>rd_of hk o
 simp only[hk,Ad.enc,Ev.upd_upd,↓DD,UU,xA,xE,xG]
 exact hS.set (.cells (Ad.enc (t.fin e)) 222 (0,0))
theorem c_adnew {sh:Sh} {c d:Int} (hS:Sep l H) :
  CallP Tryz.prog W 118 #[.agg #[.int .i64 sh.p,.int .i64 sh.c,.int .i64 sh.m],.int .i64 c,.int .i64 d] H fun v H'=>∃ k,v=.pointer (some ⟨k,0,none⟩)∧Sep (adB k (Ad.new sh c d) :: l) H':=by
 refine CallP.of mixed Tryz.func118 tr118 (by show 3≤_;decide) fun W _=>?_
 simp only[↓DD,UU,xA]
 refine newB_intro fun x hx f1 f2=>?_
 have hS:=hS.new f1 (.cells #[.int .i64 sh.p,.int .i64 sh.c,.int .i64 sh.m] 23 (0,0))
 have hx1:=hS.look
 have r1:=fun o=>rd_of hx1 o
 have r2:=fun o n=>rdn_of hx1 o n
 simp only[r2,↓DD,UU,↓reduceIte,xA,xC,xE,xF]
 refine newB_intro fun y hy f3 f4=>?_
 have nxy:(x=y)=False:=f3 x (by rw[hx1];rfl)
 have nyx:(y=x)=False:=f4 x (by rw[hx1];rfl)
 have hS:=hS.new f3 (.cells (Ad.enc { Ad.new sh c d with err:=0,dn:=false }) 222 (0,0))
 have hE:∀ {e:Bool},Ad.bad sh c d=e→({ Ad.new sh c d with err:=if e then 1 else 0,dn:=e }:Ad)=Ad.new sh c d:=fun h=>by unfold Ad.new;rw[h]
 cases h1:decide (status sh.p sh.c sh.m c<0)
 ·cases h2:decide (status sh.p sh.c sh.m d<0)
  ·cases h3:(c == d)
   ·have hb:Ad.bad sh c d=false:=by
     unfold Ad.bad;rw[h1,h2,decide_eq_false (by simpa using h3)];rfl
    simp only[r2,nxy,v_status,h1,h2,h3,↓DD,UU,↓reduceIte,xA,xC,xE,xF]
    refine⟨y,rfl,?_⟩
    have:=hS.p1.tail
    rw[← hE hb]
    exact this
   ·have hb:Ad.bad sh c d=true:=by
     unfold Ad.bad;rw[h1,h2,decide_eq_true (by simpa using h3)];rfl
    simp only[r2,nxy,v_status,h1,h2,h3,↓DD,UU,↓reduceIte,xA,xC,xE,xF]
    refine callT_of (c_adend 1 hS) ?_
    rintro v H' ⟨rfl,hS⟩
    simp only[↓DD,UU,xA,xE]
    refine⟨y,rfl,?_⟩
    rw[← hE hb]
    exact hS.p1.tail
  ·have hb:Ad.bad sh c d=true:=by unfold Ad.bad;rw[h1,h2];rfl
   simp only[r2,nxy,v_status,h1,h2,↓DD,UU,↓reduceIte,xA,xC,xE,xF]
   refine callT_of (c_adend 1 hS) ?_
   rintro v H' ⟨rfl,hS⟩
   simp only[↓DD,UU,xA,xE]
   refine⟨y,rfl,?_⟩
   rw[← hE hb]
   exact hS.p1.tail
 ·have hb:Ad.bad sh c d=true:=by unfold Ad.bad;rw[h1];rfl
  simp only[r2,nxy,v_status,h1,↓DD,UU,↓reduceIte,xA,xC,xE,xF]
  refine callT_of (c_adend 1 hS) ?_
  rintro v H' ⟨rfl,hS⟩
  simp only[↓DD,UU,xA,xE]
  refine⟨y,rfl,?_⟩
  rw[← hE hb]
  exact hS.p1.tail
theorem c_adturn (x y:Int) (hx:x≠9) (ha:0≤t.at'∧t.at'≤1000) (hS:Sep (adB k t :: l) H) :
  CallP Tryz.prog W 244 #[.pointer (some ⟨k,0,none⟩),.int .i64 x,.int .i64 y] H fun v H'=>v=.tuple #[]∧Sep (adB k (t.turn x y) :: l) H':=by
 refine CallP.of mixed Tryz.func244 tr244 (by show 3≤_;decide) fun W _=>?_
 have hk:=hS.look
 have r1:=fun o=>rd_of hk o
 have w1:w64 (t.at'+1)=t.at'+1:=w64_eq (by omega) (by omega)
 by_cases he:t.at'+1=t.s.p
 ·have g1:(t.at'+1 == t.s.p)=true:=beq_iff_eq.2 he
  by_cases hy:y=9
  ·have gy:(y == 9)=true:=beq_iff_eq.2 hy
   by_cases hm:t.s.m=0
   ·have gm:(t.s.m == 0)=true:=beq_iff_eq.2 hm
    have e:t.turn x y = { t with at':=0,i:=0,di:=0,nx:=10 }:=by unfold Ad.turn;rw[if_pos he,if_pos ⟨hy,hm⟩]
    simp only[hk,r1,wrap_w64,w1,g1,gy,gm,Ad.enc,Ev.upd_upd,↓DD,UU,↓reduceIte,xA,xE,xG]
    rw[e]
    exact hS.set (.cells (Ad.enc { t with at':=0,i:=0,di:=0,nx:=10 }) 222 (0,0))
   ·have gm:(t.s.m == 0)=false:=beq_eq_false_iff_ne.2 hm
    have e:t.turn x y = { t with at':=0,i:=0,di:=0,nx:=y }:=by unfold Ad.turn;rw[if_pos he,if_neg (by omega)]
    simp only[hk,r1,wrap_w64,w1,g1,gy,gm,Ad.enc,Ev.upd_upd,↓DD,UU,↓reduceIte,xA,xE,xG]
    rw[e]
    exact hS.set (.cells (Ad.enc { t with at':=0,i:=0,di:=0,nx:=y }) 222 (0,0))
  ·have gy:(y == 9)=false:=beq_eq_false_iff_ne.2 hy
   have e:t.turn x y = { t with at':=0,i:=0,di:=0,nx:=y }:=by unfold Ad.turn;rw[if_pos he,if_neg (by omega)]
   simp only[hk,r1,wrap_w64,w1,g1,gy,Ad.enc,Ev.upd_upd,↓DD,UU,↓reduceIte,xA,xE,xG]
   rw[e]
   exact hS.set (.cells (Ad.enc { t with at':=0,i:=0,di:=0,nx:=y }) 222 (0,0))
 ·have g1:(t.at'+1 == t.s.p)=false:=beq_eq_false_iff_ne.2 he
  have gx:(x == 9)=false:=beq_eq_false_iff_ne.2 hx
  have e:t.turn x y = { t with at':=t.at'+1,nx:=x }:=by unfold Ad.turn;rw[if_neg he]
  simp only[hk,r1,wrap_w64,w1,g1,gx,Ad.enc,Ev.upd_upd,↓DD,UU,↓reduceIte,xA,xE,xG]
  rw[e]
  exact hS.set (.cells (Ad.enc { t with at':=t.at'+1,nx:=x }) 222 (0,0))
theorem c_adslot (hi:0≤t.i∧t.i≤1000) (ha:0≤t.at'∧t.at'≤1000) (hS:Sep (adB k t :: l) H) :
  CallP Tryz.prog W 238 #[.pointer (some ⟨k,0,none⟩)] H fun v H'=>v=.tuple #[]∧Sep (adB k t.slot :: l) H':=by
 refine CallP.of mixed Tryz.func238 tr238 (by show 1≤_;decide) fun W _=>?_
 have hk:=hS.look
 have r1:=fun o=>rd_of hk o
 have w1:w64 (t.i+1)=t.i+1:=w64_eq (by omega) (by omega)
 by_cases he:t.i+1=slots t.pA
 ·have g1:(t.i+1 == slots t.pA)=true:=beq_iff_eq.2 he
  have e:t.slot=({ t with i:=0,di:=t.di+1,nx:=11 }:Ad).turn 10 13:=by unfold Ad.slot;rw[if_pos he]
  simp only[hk,r1,v_slots,wrap_w64,w1,g1,Ad.enc,Ev.upd_upd,↓DD,UU,↓reduceIte,xA,xE,xG]
  refine callT_of (c_adturn (t:={ t with i:=0,di:=t.di+1,nx:=11 }) 10 13 (by decide) ha (hS.set (.cells (Ad.enc { t with i:=0,di:=t.di+1,nx:=11 }) 222 (0,0)))) ?_
  rintro v H' ⟨rfl,hS⟩
  simp only[↓DD,UU]
  rw[e]
  exact hS
 ·have g1:(t.i+1 == slots t.pA)=false:=beq_eq_false_iff_ne.2 he
  have e:t.slot = { t with i:=t.i+1,di:=t.di+1,nx:=11 }:=by unfold Ad.slot;rw[if_neg he]
  simp only[hk,r1,v_slots,wrap_w64,w1,g1,Ad.enc,Ev.upd_upd,↓DD,UU,↓reduceIte,xA,xE,xG]
  rw[e]
  exact hS.set (.cells (Ad.enc { t with i:=t.i+1,di:=t.di+1,nx:=11 }) 222 (0,0))
theorem c_adown {q x:Int} (hS:Sep (adB k t :: l) H) :
  CallP Tryz.prog W 245 #[.pointer (some ⟨k,0,none⟩),.agg #[.int .i64 (pgK t.s q x),.int .i64 (pgA t.s q x),.int .i64 (pgB t.s q x)],.bool (okPg t.s q x)] H fun v H'=>v=.bool (t.own q x)∧Sep (adB k t :: l) H':=by
 refine CallP.of mixed Tryz.func245 tr245 (by show 3≤_;decide) fun W _=>?_
 simp only[↓DD,UU,xA,xE]
 refine newB_intro fun y hy f3 f4=>?_
 have hk:=hS.look
 have r1:=fun o=>rd_of hk o
 have nky:(k=y)=False:=f3 k (by rw[hk];rfl)
 have nyk:(y=k)=False:=f4 k (by rw[hk];rfl)
 have hS2:=(hS.new f3 (.cells #[.int .i64 (pgK t.s q x),.int .i64 (pgA t.s q x),.int .i64 (pgB t.s q x)] 107 (0,0))).tail
 have e1:decide (pgK t.s q x=1)=(pgK t.s q x == 1):=by by_cases h:pgK t.s q x=1<;>simp [h]
 have e2:decide (pgA t.s q x=t.d)=(pgA t.s q x == t.d):=by by_cases h:pgA t.s q x=t.d<;>simp [h]
 cases h1:okPg t.s q x
 ·simp only[↓DD,UU,xA,xE]
  exact⟨by unfold Ad.own;rw[h1];rfl,hS2⟩
 ·cases h2:(pgK t.s q x == 1)
  ·simp only[h2,↓DD,UU,↓reduceIte,xA,xE]
   exact⟨by unfold Ad.own;rw[h1,e1,h2];rfl,hS2⟩
  ·simp only[r1,nky,h2,Ad.enc,↓DD,UU,↓reduceIte,xA,xE]
   exact⟨by unfold Ad.own;rw[h1,e1,h2,e2];rfl,hS2⟩
theorem c_adread {q:Int} (hm:may t.s.p t.s.c t.s.m=true) (h0:0≤q) (h1:q<t.s.p) (hw:w.of t.s) (hS:Sep (adB k t :: wB b s w :: wR s w :: l) H) :
  CallP Tryz.prog W 243 #[.pointer (some ⟨k,0,none⟩),.pointer (some ⟨b,0,none⟩),.int .i64 q] H fun v H'=>
   v=.tuple #[.agg #[.int .i64 (pgK t.s q (w.get (page t.s.p t.s.c t.s.m q))),.int .i64 (pgA t.s q (w.get (page t.s.p t.s.c t.s.m q))),.int .i64 (pgB t.s q (w.get (page t.s.p t.s.c t.s.m q)))],.bool (okPg t.s q (w.get (page t.s.p t.s.c t.s.m q)))] ∧
   Sep (adB k t :: wB b s (w.load t.c (page t.s.p t.s.c t.s.m q)) :: wR s (w.load t.c (page t.s.p t.s.c t.s.m q)) :: l) H':=by
 refine CallP.of mixed Tryz.func243 tr243 (by show 3≤_;decide) fun W _=>?_
 obtain⟨q0,q1⟩:=page_in hw hm h0 h1
 have hu:U (w.get (page t.s.p t.s.c t.s.m q)):=hw.u _
 simp only[↓DD,UU]
 refine newB_intro fun y hy f3 f4=>?_
 have hS:=(hS.new f3 (.cells #[.int .i64 0,.int .i64 0,.int .i64 0] 107 (0,0))).p1
 have hk:=hS.look
 have hy1:=hS.lk 1 rfl
 have r1:=fun o=>rd_of hk o
 have r2:=fun o n=>rdn_of hk o n
 have nky:=hS.neq 0 1 (by decide) rfl rfl
 have nyk:=hS.qen 0 1 (by decide) rfl rfl
 refine draw_intro [(k,Ad.enc t,[]),(y,#[.int .i64 0,.int .i64 0,.int .i64 0],[0,1,2])] (by simp only[hk,hy1,Ad.enc,↓DD,UU]) ?_
 simp only[hk,hy1,r1,r2,v_page,Ad.enc,↓DD,UU,↓reduceIte,xA,xC,xE,xF]
 refine callT_of (c_load _ _ q0 q1 hS.p3.p3) ?_
 rintro v H' ⟨rfl,hS⟩
 have hS:=hS.p3.p3
 have hk:=hS.look
 have hy1:=hS.lk 1 rfl
 have r1:=fun o=>rd_of hk o
 have r2:=fun o n=>rdn_of hk o n
 simp only[hk,hy1,nky,v_readpg t.s _ hu,Ad.enc,↓DD,UU,↓reduceIte,xA,xC,xE,xF]
 exact(hS.p1.set (.cells #[.int .i64 (pgK t.s q (w.get (page t.s.p t.s.c t.s.m q))),.int .i64 (pgA t.s q (w.get (page t.s.p t.s.c t.s.m q))),.int .i64 (pgB t.s q (w.get (page t.s.p t.s.c t.s.m q)))] 107 (0,0))).tail
end
end Go.Proofs.YtkjpgikjcfhckaaGreat
