/-
 Who adopts a dead client: the steps of the program's machine. Conditions: none.
-/
import Derived.Test.YtkjpgikjcfhckaaGreatCodeY
import Derived.Test.YtkjpgikjcfhckaaGreatAdopt
open Nat renaming reduceAdd→xA,reduceMul→xB,reduceSub→xC,reduceEqDiff→xD,reduceBEq→xE,reduceLeDiff→xF,reduceLT→xG
open Int renaming reduceAdd→xH,reduceMul→xI,reduceSub→xJ,reduceLT→xK,reduceLE→xL,reduceToNat→xM,reduceEq→xN,reduceNe→xO,reduceBEq→xP,reduceBNe→xQ
set_option linter.unusedVariables false
set_option linter.unusedSimpArgs false
set_option maxRecDepth 8000
namespace Go.Proofs.YtkjpgikjcfhckaaGreat
open Go Go.Ev Go.Pl Go.Ma

section
variable {W:World} {H:Hp} {k b s:Nat} {t:Ad} {w:Wd} {l:List Hp}

theorem c_adask (hm:may t.s.p t.s.c t.s.m=true) (h0:0≤t.d) (h1:t.d<t.s.c) (hw:w.of t.s) (hS:Sep (adB k t :: wB b s w :: wR s w :: l) H) :
  CallP Tryz.prog W 242 #[.pointer (some ⟨k,0,none⟩),.pointer (some ⟨b,0,none⟩)] H fun v H'=>v=.tuple #[]∧Sep (adB k (t.ask (w.get t.dat)) :: wB b s (w.load t.c t.dat) :: wR s (w.load t.c t.dat) :: l) H':=by
 refine CallP.of mixed Tryz.func242 tr242 (by show 2≤_;decide) fun W _=>?_
 have hk:=hS.look
 have r1:=fun o=>rd_of hk o
 have r2:=fun o n=>rdn_of hk o n
 obtain⟨q0,q1⟩:=status_in hw hm h0 h1
 have hu:U (w.get (status t.s.p t.s.c t.s.m t.d)):=hw.u _
 refine draw_intro [(k,Ad.enc t,[])] (by simp only[hk,↓DD,UU]) ?_
 simp only[hk,r1,r2,v_status,Ad.enc,↓DD,UU,↓reduceIte,xA,xC,xE,xF]
 refine callT_of (c_load _ _ q0 q1 hS.p2.p2) ?_
 rintro v H' ⟨rfl,hS⟩
 have hS:=hS.p2
 have hk:=hS.look
 have r1:=fun o=>rd_of hk o
 have r2:=fun o n=>rdn_of hk o n
 have hS1:=hS.set (.cells (Ad.enc { t with was:=w.get (status t.s.p t.s.c t.s.m t.d) }) 222 (0,0))
 obtain⟨x,hx⟩:∃ x,x=w.get (status t.s.p t.s.c t.s.m t.d):=⟨_,rfl⟩
 have hx2:w.get t.dat=x:=hx.symm
 rw[hx2]
 rw[← hx]at hu hS1 ⊢
 by_cases k2:stK x=2
 ·have g2:(stK x == 2)=true:=beq_iff_eq.2 k2
  have e:t.ask x = { t with was:=x,nx:=2 }:=by unfold Ad.ask;rw[if_pos k2]
  simp only[hk,v_readst hu,g2,Ad.enc,Ev.upd_upd,↓DD,UU,↓reduceIte,xA,xE,xG]
  rw[e]
  exact hS.set (.cells (Ad.enc { t with was:=x,nx:=2 }) 222 (0,0))
 have g2:(stK x == 2)=false:=beq_eq_false_iff_ne.2 k2
 by_cases k3:stK x=3
 ·have g3:(stK x != 3)=false:=by simp [k3]
  by_cases hs:status t.s.p t.s.c t.s.m (stB x)<0
  ·have gs:decide (status t.s.p t.s.c t.s.m (stB x)<0)=true:=decide_eq_true hs
   have e:t.ask x=({ t with was:=x }:Ad).fin 4:=by unfold Ad.ask;rw[if_neg k2,if_pos k3,if_pos hs];rfl
   simp only[hk,v_readst hu,v_status,g2,g3,gs,Ad.enc,↓DD,UU,↓reduceIte,xA,xC,xE,xF,xG]
   refine callT_of (c_adend (t:={ t with was:=x }) 4 hS1) ?_
   rintro v H' ⟨rfl,hS⟩
   simp only[↓DD,UU]
   rw[e]
   exact hS
  ·have gs:decide (status t.s.p t.s.c t.s.m (stB x)<0)=false:=decide_eq_false hs
   have e:t.ask x = { t with was:=x,by':=stB x,nx:=1,di:=stB x }:=by unfold Ad.ask;rw[if_neg k2,if_pos k3,if_neg hs]
   simp only[hk,v_readst hu,v_status,g2,g3,gs,Ad.enc,Ev.upd_upd,↓DD,UU,↓reduceIte,xA,xC,xE,xF,xG]
   rw[e]
   exact hS.set (.cells (Ad.enc { t with was:=x,by':=stB x,nx:=1,di:=stB x }) 222 (0,0))
 ·have g3:(stK x != 3)=true:=by simp [k3]
  have e:t.ask x=({ t with was:=x }:Ad).fin 5:=by unfold Ad.ask;rw[if_neg k2,if_neg k3];rfl
  simp only[hk,v_readst hu,g2,g3,Ad.enc,↓DD,UU,↓reduceIte,xA,xE,xG]
  refine callT_of (c_adend (t:={ t with was:=x }) 5 hS1) ?_
  rintro v H' ⟨rfl,hS⟩
  simp only[↓DD,UU]
  rw[e]
  exact hS
theorem c_adbegin (ht:t.wf) (hd:t.dn=false) (hn:t.nx≤2) (hw:w.of t.s) (hS:Sep (adB k t :: wB b s w :: wR s w :: l) H) :
  CallP Tryz.prog W 239 #[.pointer (some ⟨k,0,none⟩),.pointer (some ⟨b,0,none⟩)] H fun v H'=>v=.tuple #[]∧Sep (adB k (t.step w).1 :: wB b s (t.step w).2 :: wR s (t.step w).2 :: l) H':=by
 refine CallP.of mixed Tryz.func239 tr239 (by show 2≤_;decide) fun W _=>?_
 have hk:=hS.look
 have r1:=fun o=>rd_of hk o
 have r2:=fun o n=>rdn_of hk o n
 obtain⟨hm,he,hcd,ar⟩:=ht.of hd
 unfold Ad.Ar at ar
 have hb:=(may_iff _ _ _).1 hm
 rcases (by omega:t.nx=0∨t.nx=1∨t.nx=2) with hn | hn | hn
 ·rw[Ad.s0 hd hn]
  have g0:(t.nx == 0)=true:=beq_iff_eq.2 hn
  simp only[r1,g0,Ad.enc,↓DD,UU,xA,xE]
  refine callT_of (c_adask hm (by omega) (by omega) hw hS) ?_
  rintro v H' ⟨rfl,hS⟩
  simp only[↓DD,UU]
  exact hS
 ·rw[Ad.s1 hd hn]
  have g0:(t.nx == 0)=false:=beq_eq_false_iff_ne.2 (by omega)
  have g1:(t.nx == 1)=true:=beq_iff_eq.2 hn
  obtain⟨q0,q1⟩:=status_in (i:=t.by') hw hm (by omega) (by omega)
  have hu:U (w.get (status t.s.p t.s.c t.s.m t.by')):=hw.u _
  simp only[r1,g0,g1,Ad.enc,↓DD,UU,xA,xE]
  refine draw_intro [(k,Ad.enc t,[])] (by simp only[hk,↓DD,UU]) ?_
  simp only[hk,r1,r2,v_status,Ad.enc,↓DD,UU,↓reduceIte,xA,xC,xE,xF]
  refine callT_of (c_load _ _ q0 q1 hS.p2.p2) ?_
  rintro v H' ⟨rfl,hS⟩
  have hS:=hS.p2
  have hk:=hS.look
  have r1:=fun o=>rd_of hk o
  obtain⟨x,hx⟩:∃ x,x=w.get (status t.s.p t.s.c t.s.m t.by'):=⟨_,rfl⟩
  have hx2:w.get t.bat=x:=hx.symm
  rw[hx2]
  rw[← hx]at hu ⊢
  have hS1:=hS.set (.cells (Ad.enc { t with nx:=2 }) 222 (0,0))
  by_cases k1:stK x=1
  ·have g1:(stK x == 1)=true:=beq_iff_eq.2 k1
   have e:t.other x=({ t with nx:=2 }:Ad).fin 4:=by unfold Ad.other;rw[if_pos k1];rfl
   simp only[hk,v_readst hu,g1,Ad.enc,↓DD,UU,xA,xE,xG]
   refine callT_of (c_adend (t:={ t with nx:=2 }) 4 hS1) ?_
   rintro v H' ⟨rfl,hS⟩
   simp only[↓DD,UU]
   rw[e]
   exact hS
  ·have g1:(stK x == 1)=false:=beq_eq_false_iff_ne.2 k1
   have e:t.other x = { t with nx:=2 }:=by unfold Ad.other;rw[if_neg k1]
   simp only[hk,v_readst hu,g1,Ad.enc,↓DD,UU,xA,xE,xG]
   rw[e]
   exact hS1
 ·rw[Ad.s2 hd hn]
  have g0:(t.nx == 0)=false:=beq_eq_false_iff_ne.2 (by omega)
  have g1:(t.nx == 1)=false:=beq_eq_false_iff_ne.2 (by omega)
  obtain⟨q0,q1⟩:=status_in (i:=t.d) hw hm (by omega) (by omega)
  simp only[hk,r1,g0,g1,Ad.enc,↓DD,UU,xA,xE,xG]
  have hS:=hS.set (.cells (Ad.enc { t with nx:=3 }) 222 (0,0))
  have hk:=hS.look
  have r1:=fun o=>rd_of hk o
  have r2:=fun o n=>rdn_of hk o n
  refine draw_intro [(k,Ad.enc { t with nx:=3 },[])] (by simp only[Ad.enc,↓DD,UU]) ?_
  simp only[v_status,v_putst,Ad.enc,↓DD,UU,↓reduceIte,xA,xC,xE,xF]
  refine callT_of (c_swap _ _ _ _ q0 q1 hS.p2.p2) ?_
  rintro v H' ⟨rfl,hS⟩
  have hS:=hS.p2
  have hk:=hS.look
  have r1:=fun o=>rd_of hk o
  by_cases hx:w.get t.dat=t.was
  ·have gx:(w.get (status t.s.p t.s.c t.s.m t.d) == t.was)=true:=beq_iff_eq.2 hx
   have e:t.claim (w.get t.dat) = { t with nx:=3,di:=0 }:=by unfold Ad.claim;rw[if_pos hx]
   simp only[hk,gx,Ad.enc,↓DD,UU]
   rw[e]
   exact hS
  ·have gx:(w.get (status t.s.p t.s.c t.s.m t.d) == t.was)=false:=beq_eq_false_iff_ne.2 hx
   have e:t.claim (w.get t.dat)=({ t with nx:=3,di:=0 }:Ad).fin 4:=by unfold Ad.claim;rw[if_neg hx];rfl
   simp only[hk,gx,Ad.enc,↓DD,UU,xE]
   refine callT_of (c_adend (t:={ t with nx:=3,di:=0 }) 4 hS) ?_
   rintro v H' ⟨rfl,hS⟩
   simp only[↓DD,UU]
   rw[e]
   exact hS
theorem c_adheld (ht:t.wf) (hd:t.dn=false) (hn:3≤t.nx∧t.nx≤8) (hw:w.of t.s) (hS:Sep (adB k t :: wB b s w :: wR s w :: l) H) :
  CallP Tryz.prog W 240 #[.pointer (some ⟨k,0,none⟩),.pointer (some ⟨b,0,none⟩)] H fun v H'=>v=.tuple #[]∧Sep (adB k (t.step w).1 :: wB b s (t.step w).2 :: wR s (t.step w).2 :: l) H':=by
 refine CallP.of mixed Tryz.func240 tr240 (by show 2≤_;decide) fun W _=>?_
 have hk:=hS.look
 have r1:=fun o=>rd_of hk o
 have r2:=fun o n=>rdn_of hk o n
 obtain⟨hm,he,hcd,ar⟩:=ht.of hd
 unfold Ad.Ar at ar
 have hb:=(may_iff _ _ _).1 hm
 have sb:=slots_bd t.pA
 rcases (by omega:t.nx=3∨t.nx=4∨t.nx=5∨t.nx=6∨t.nx=7∨t.nx=8) with hn | hn | hn | hn | hn | hn
 ·rw[Ad.s3 hd hn]
  have g3:(t.nx == 3)=true:=beq_iff_eq.2 hn
  simp only[r1,g3,Ad.enc,↓DD,UU,xA,xE]
  refine callT_of (c_adread (q:=t.at') hm (by omega) (by omega) hw hS) ?_
  rintro v H' ⟨rfl,hS⟩
  simp only[↓DD,UU,xA,xE]
  refine newB_intro fun y hy f3 f4=>?_
  have hk0:=hS.look
  have r0:=fun o=>rd_of hk0 o
  have hS:=(hS.new f3 (.cells #[.int .i64 (pgK t.s t.at' (w.get t.pat)),.int .i64 (pgA t.s t.at' (w.get t.pat)),.int .i64 (pgB t.s t.at' (w.get t.pat))] 107 (0,0))).p1
  have hk:=hS.look
  have hy1:=hS.lk 1 rfl
  have r1:=fun o=>rd_of hk o
  have ry:=fun o=>rd_of hy1 o
  have ryn:=fun o n=>rdn_of hy1 o n
  have nky:=hS.neq 0 1 (by decide) rfl rfl
  have nyk:=hS.qen 0 1 (by decide) rfl rfl
  have hS1:=hS.set (.cells (Ad.enc (t.read (w.get t.pat))) 222 (0,0))
  cases ho:okPg t.s t.at' (w.get t.pat)
  ·have e:t.bodies (w.get t.pat)=(t.read (w.get t.pat)).turn 3 6:=by unfold Ad.bodies;rw[if_neg (by unfold Ad.isB;rw[ho];simp)]
   have ho':okPg t.s t.at' (w.get (page t.s.p t.s.c t.s.m t.at'))=false:=ho
   simp only[hk0,nky,ho',Ad.enc,Ev.upd_upd,↓DD,UU,↓reduceIte,xA,xC,xE,xF]
   refine callT_of (c_adturn (t:=t.read (w.get t.pat)) 3 6 (by decide) (by show 0≤t.at'∧t.at'≤1000;omega) hS1) ?_
   rintro v H' ⟨rfl,hS⟩
   simp only[↓DD,UU]
   rw[e]
   exact hS.p1.tail
  ·have ho':okPg t.s t.at' (w.get (page t.s.p t.s.c t.s.m t.at'))=true:=ho
   by_cases hK:pgK t.s t.at' (w.get t.pat)=4
   ·have gK:(pgK t.s t.at' (w.get (page t.s.p t.s.c t.s.m t.at')) == 4)=true:=beq_iff_eq.2 hK
    have e:t.bodies (w.get t.pat) = { t.readQ (w.get t.pat) with nx:=4 }:=by unfold Ad.bodies;rw[if_pos (by unfold Ad.isB;rw[ho,decide_eq_true hK];rfl)]
    simp only[hk0,nky,nyk,ho',gK,Ad.enc,Ev.upd_upd,↓DD,UU,↓reduceIte,xA,xC,xE,xF,xG]
    rw[e]
    exact(hS.set (.cells (Ad.enc { t.readQ (w.get t.pat) with nx:=4 }) 222 (0,0))).p1.tail
   ·have gK:(pgK t.s t.at' (w.get (page t.s.p t.s.c t.s.m t.at')) == 4)=false:=beq_eq_false_iff_ne.2 hK
    have e:t.bodies (w.get t.pat)=(t.read (w.get t.pat)).turn 3 6:=by unfold Ad.bodies;rw[if_neg (by unfold Ad.isB;rw[decide_eq_false hK];simp)]
    simp only[hk0,nky,nyk,ho',gK,Ad.enc,Ev.upd_upd,↓DD,UU,↓reduceIte,xA,xC,xE,xF]
    refine callT_of (c_adturn (t:=t.read (w.get t.pat)) 3 6 (by decide) (by show 0≤t.at'∧t.at'≤1000;omega) hS1) ?_
    rintro v H' ⟨rfl,hS⟩
    simp only[↓DD,UU]
    rw[e]
    exact hS.p1.tail
 ·rw[Ad.s4 hd hn]
  have g3:(t.nx == 3)=false:=beq_eq_false_iff_ne.2 (by omega)
  have g4:(t.nx == 4)=true:=beq_iff_eq.2 hn
  simp only[r1,g3,g4,Ad.enc,↓DD,UU,xA,xE]
  refine callT_of (c_adread (q:=t.pA) hm (by omega) (by omega) hw hS) ?_
  rintro v H' ⟨rfl,hS⟩
  simp only[↓DD,UU,xA,xE]
  refine callT_of (c_adown (q:=t.pA) (x:=w.get t.hat) hS) ?_
  rintro v H' ⟨rfl,hS⟩
  have hk:=hS.look
  have r1:=fun o=>rd_of hk o
  cases ho:t.own t.pA (w.get t.hat)
  ·have e:t.head (w.get t.hat)=t.turn 3 6:=by unfold Ad.head;rw[ho];rfl
   simp only[↓DD,UU,xA,xE]
   refine callT_of (c_adturn 3 6 (by decide) (by omega) hS) ?_
   rintro v H' ⟨rfl,hS⟩
   simp only[↓DD,UU]
   rw[e]
   exact hS
  ·have e:t.head (w.get t.hat) = { t with nx:=5 }:=by unfold Ad.head;rw[ho];rfl
   simp only[hk,Ad.enc,↓DD,UU,xA,xE,xG]
   rw[e]
   exact hS.set (.cells (Ad.enc { t with nx:=5 }) 222 (0,0))
 ·rw[Ad.s5 hd hn]
  have g3:(t.nx == 3)=false:=beq_eq_false_iff_ne.2 (by omega)
  have g4:(t.nx == 4)=false:=beq_eq_false_iff_ne.2 (by omega)
  have g5:(t.nx == 5)=true:=beq_iff_eq.2 hn
  obtain⟨q0,q1⟩:=page_in (i:=t.at') hw hm (by omega) (by omega)
  simp only[r1,g3,g4,g5,Ad.enc,↓DD,UU,xA,xE]
  refine draw_intro [(k,Ad.enc t,[])] (by simp only[hk,↓DD,UU]) ?_
  simp only[hk,r1,r2,v_page,Ad.enc,↓DD,UU,↓reduceIte,xA,xC,xE,xF]
  refine callT_of (c_store _ _ _ q0 q1 hS.p2.p2) ?_
  rintro v H' ⟨rfl,hS⟩
  have hS:=hS.p2
  have hk:=hS.look
  have r1:=fun o=>rd_of hk o
  simp only[↓DD,UU,xE]
  refine callT_of (c_adturn 3 6 (by decide) (by omega) hS) ?_
  rintro v H' ⟨rfl,hS⟩
  simp only[↓DD,UU]
  exact hS
 ·rw[Ad.s6 hd hn]
  have g3:(t.nx == 3)=false:=beq_eq_false_iff_ne.2 (by omega)
  have g4:(t.nx == 4)=false:=beq_eq_false_iff_ne.2 (by omega)
  have g5:(t.nx == 5)=false:=beq_eq_false_iff_ne.2 (by omega)
  have g6:(t.nx == 6)=true:=beq_iff_eq.2 hn
  simp only[r1,g3,g4,g5,g6,Ad.enc,↓DD,UU,xA,xE]
  refine callT_of (c_adread (q:=t.at') hm (by omega) (by omega) hw hS) ?_
  rintro v H' ⟨rfl,hS⟩
  simp only[↓DD,UU,xA,xE]
  refine callT_of (c_adown (q:=t.at') (x:=w.get t.pat) hS) ?_
  rintro v H' ⟨rfl,hS⟩
  have hk:=hS.look
  have r1:=fun o=>rd_of hk o
  cases ho:t.own t.at' (w.get t.pat)
  ·have e:t.pages (w.get t.pat)=t.turn 6 9:=by unfold Ad.pages;rw[ho];rfl
   simp only[↓DD,UU,xA,xE]
   refine callT_of (c_adturn 6 9 (by decide) (by omega) hS) ?_
   rintro v H' ⟨rfl,hS⟩
   simp only[↓DD,UU]
   rw[e]
   exact hS
  ·have e:t.pages (w.get t.pat) = { t with nx:=7,i:=0,di:=0 }:=by unfold Ad.pages;rw[ho];rfl
   simp only[hk,Ad.enc,Ev.upd_upd,↓DD,UU,xA,xE,xG]
   rw[e]
   exact hS.set (.cells (Ad.enc { t with nx:=7,i:=0,di:=0 }) 222 (0,0))
 ·rw[Ad.s7 hd hn]
  have g3:(t.nx == 3)=false:=beq_eq_false_iff_ne.2 (by omega)
  have g4:(t.nx == 4)=false:=beq_eq_false_iff_ne.2 (by omega)
  have g5:(t.nx == 5)=false:=beq_eq_false_iff_ne.2 (by omega)
  have g6:(t.nx == 6)=false:=beq_eq_false_iff_ne.2 (by omega)
  have g7:(t.nx == 7)=true:=beq_iff_eq.2 hn
  obtain⟨q0,q1⟩:=slot_in (i:=t.at') (j:=t.i) hw hm (by omega) (by omega) (by omega) (by omega)
  simp only[r1,g3,g4,g5,g6,g7,Ad.enc,↓DD,UU,xA,xE]
  refine draw_intro [(k,Ad.enc t,[])] (by simp only[hk,↓DD,UU]) ?_
  simp only[hk,r1,r2,v_slot,Ad.enc,↓DD,UU,↓reduceIte,xA,xC,xE,xF]
  refine callT_of (c_store _ _ _ q0 q1 hS.p2.p2) ?_
  rintro v H' ⟨rfl,hS⟩
  have hS:=hS.p2
  have hk:=hS.look
  have r1:=fun o=>rd_of hk o
  have w1:w64 (t.i+1)=t.i+1:=w64_eq (by omega) (by omega)
  by_cases h16:t.i+1=16
  ·have g16:(t.i+1 == 16)=true:=beq_iff_eq.2 h16
   have e:t.clear = { t with i:=t.i+1,di:=t.di+1,nx:=8 }:=by unfold Ad.clear;rw[if_pos h16]
   simp only[hk,r1,wrap_w64,w1,g16,Ad.enc,Ev.upd_upd,↓DD,UU,↓reduceIte,xA,xE,xG]
   rw[e]
   exact hS.set (.cells (Ad.enc { t with i:=t.i+1,di:=t.di+1,nx:=8 }) 222 (0,0))
  ·have g16:(t.i+1 == 16)=false:=beq_eq_false_iff_ne.2 h16
   have e:t.clear = { t with i:=t.i+1,di:=t.di+1 }:=by unfold Ad.clear;rw[if_neg h16,← hn]
   simp only[hk,r1,wrap_w64,w1,g16,Ad.enc,↓DD,UU,↓reduceIte,xA,xE,xG]
   rw[e]
   exact hS.set (.cells (Ad.enc { t with i:=t.i+1,di:=t.di+1 }) 222 (0,0))
 ·rw[Ad.s8 hd hn]
  have g3:(t.nx == 3)=false:=beq_eq_false_iff_ne.2 (by omega)
  have g4:(t.nx == 4)=false:=beq_eq_false_iff_ne.2 (by omega)
  have g5:(t.nx == 5)=false:=beq_eq_false_iff_ne.2 (by omega)
  have g6:(t.nx == 6)=false:=beq_eq_false_iff_ne.2 (by omega)
  have g7:(t.nx == 7)=false:=beq_eq_false_iff_ne.2 (by omega)
  obtain⟨q0,q1⟩:=page_in (i:=t.at') hw hm (by omega) (by omega)
  simp only[r1,g3,g4,g5,g6,g7,Ad.enc,↓DD,UU,xA,xE]
  refine draw_intro [(k,Ad.enc t,[])] (by simp only[hk,↓DD,UU]) ?_
  simp only[hk,r1,r2,v_page,Ad.enc,↓DD,UU,↓reduceIte,xA,xC,xE,xF]
  refine callT_of (c_store _ _ _ q0 q1 hS.p2.p2) ?_
  rintro v H' ⟨rfl,hS⟩
  have hS:=hS.p2
  have hk:=hS.look
  have r1:=fun o=>rd_of hk o
  simp only[↓DD,UU,xE]
  refine callT_of (c_adturn 6 9 (by decide) (by omega) hS) ?_
  rintro v H' ⟨rfl,hS⟩
  simp only[↓DD,UU]
  exact hS
theorem c_adways (ht:t.wf) (hd:t.dn=false) (hn:10≤t.nx) (hw:w.of t.s) (hS:Sep (adB k t :: wB b s w :: wR s w :: l) H) :
  CallP Tryz.prog W 241 #[.pointer (some ⟨k,0,none⟩),.pointer (some ⟨b,0,none⟩)] H fun v H'=>v=.tuple #[]∧Sep (adB k (t.step w).1 :: wB b s (t.step w).2 :: wR s (t.step w).2 :: l) H':=by
 refine CallP.of mixed Tryz.func241 tr241 (by show 2≤_;decide) fun W _=>?_
 have hk:=hS.look
 have r1:=fun o=>rd_of hk o
 have r2:=fun o n=>rdn_of hk o n
 obtain⟨hm,he,hcd,ar⟩:=ht.of hd
 unfold Ad.Ar at ar
 have hb:=(may_iff _ _ _).1 hm
 have sb:=slots_bd t.pA
 rcases (by omega:t.nx=10∨t.nx=11∨t.nx=12∨t.nx=13) with hn | hn | hn | hn
 ·rw[Ad.s10 hd hn]
  have g10:(t.nx == 10)=true:=beq_iff_eq.2 hn
  simp only[r1,g10,Ad.enc,↓DD,UU,xA,xE]
  refine callT_of (c_adread (q:=t.at') hm (by omega) (by omega) hw hS) ?_
  rintro v H' ⟨rfl,hS⟩
  simp only[↓DD,UU,xA,xE]
  refine newB_intro fun y hy f3 f4=>?_
  have hk0:=hS.look
  have r0:=fun o=>rd_of hk0 o
  have hS:=(hS.new f3 (.cells #[.int .i64 (pgK t.s t.at' (w.get t.pat)),.int .i64 (pgA t.s t.at' (w.get t.pat)),.int .i64 (pgB t.s t.at' (w.get t.pat))] 107 (0,0))).p1
  have hk:=hS.look
  have hy1:=hS.lk 1 rfl
  have r1:=fun o=>rd_of hk o
  have ry:=fun o=>rd_of hy1 o
  have ryn:=fun o n=>rdn_of hy1 o n
  have nky:=hS.neq 0 1 (by decide) rfl rfl
  have nyk:=hS.qen 0 1 (by decide) rfl rfl
  have hS1:=hS.set (.cells (Ad.enc (t.read (w.get t.pat))) 222 (0,0))
  cases ho:okPg t.s t.at' (w.get t.pat)
  ·have e:t.supers (w.get t.pat)=(t.read (w.get t.pat)).turn 10 13:=by unfold Ad.supers;rw[if_neg (by unfold Ad.isS;rw[ho];simp)]
   have ho':okPg t.s t.at' (w.get (page t.s.p t.s.c t.s.m t.at'))=false:=ho
   simp only[hk0,nky,ho',Ad.enc,Ev.upd_upd,↓DD,UU,↓reduceIte,xA,xC,xE,xF]
   refine callT_of (c_adturn (t:=t.read (w.get t.pat)) 10 13 (by decide) (by show 0≤t.at'∧t.at'≤1000;omega) hS1) ?_
   rintro v H' ⟨rfl,hS⟩
   simp only[↓DD,UU]
   rw[e]
   exact hS.p1.tail
  ·have ho':okPg t.s t.at' (w.get (page t.s.p t.s.c t.s.m t.at'))=true:=ho
   by_cases hK:pgK t.s t.at' (w.get t.pat)=2
   ·have gK:(pgK t.s t.at' (w.get (page t.s.p t.s.c t.s.m t.at')) == 2)=true:=beq_iff_eq.2 hK
    have e:t.supers (w.get t.pat) = { t.readQ (w.get t.pat) with nx:=11,i:=0,di:=0 }:=by unfold Ad.supers;rw[if_pos (by unfold Ad.isS;rw[ho,decide_eq_true hK];rfl)]
    simp only[hk0,nky,nyk,ho',gK,Ad.enc,Ev.upd_upd,↓DD,UU,↓reduceIte,xA,xC,xE,xF,xG]
    rw[e]
    exact(hS.set (.cells (Ad.enc { t.readQ (w.get t.pat) with nx:=11,i:=0,di:=0 }) 222 (0,0))).p1.tail
   ·have gK:(pgK t.s t.at' (w.get (page t.s.p t.s.c t.s.m t.at')) == 2)=false:=beq_eq_false_iff_ne.2 hK
    have e:t.supers (w.get t.pat)=(t.read (w.get t.pat)).turn 10 13:=by unfold Ad.supers;rw[if_neg (by unfold Ad.isS;rw[decide_eq_false hK];simp)]
    simp only[hk0,nky,nyk,ho',gK,Ad.enc,Ev.upd_upd,↓DD,UU,↓reduceIte,xA,xC,xE,xF]
    refine callT_of (c_adturn (t:=t.read (w.get t.pat)) 10 13 (by decide) (by show 0≤t.at'∧t.at'≤1000;omega) hS1) ?_
    rintro v H' ⟨rfl,hS⟩
    simp only[↓DD,UU]
    rw[e]
    exact hS.p1.tail
 ·rw[Ad.s11 hd hn]
  have g10:(t.nx == 10)=false:=beq_eq_false_iff_ne.2 (by omega)
  have g11:(t.nx == 11)=true:=beq_iff_eq.2 hn
  obtain⟨q0,q1⟩:=slot_in (i:=t.at') (j:=t.i) hw hm (by omega) (by omega) (by omega) (by omega)
  simp only[r1,g10,g11,Ad.enc,↓DD,UU,xA,xE]
  refine draw_intro [(k,Ad.enc t,[])] (by simp only[hk,↓DD,UU]) ?_
  simp only[hk,r1,r2,v_slot,Ad.enc,↓DD,UU,↓reduceIte,xA,xC,xE,xF]
  refine callT_of (c_load _ _ q0 q1 hS.p2.p2) ?_
  rintro v H' ⟨rfl,hS⟩
  have hS:=hS.p2
  have hk:=hS.look
  have r1:=fun o=>rd_of hk o
  by_cases hx:w.get t.sat=way t.d
  ·have gx:(w.get (slot t.s.p t.s.c t.s.m t.at' t.i) == putSl 2 t.d)=true:=beq_iff_eq.2 hx
   have e:t.slots' (w.get t.sat) = { t with nx:=12 }:=by unfold Ad.slots';rw[if_pos hx]
   simp only[hk,v_putsl,gx,Ad.enc,↓DD,UU,xA,xE,xG]
   rw[e]
   exact hS.set (.cells (Ad.enc { t with nx:=12 }) 222 (0,0))
  ·have gx:(w.get (slot t.s.p t.s.c t.s.m t.at' t.i) == putSl 2 t.d)=false:=beq_eq_false_iff_ne.2 hx
   have e:t.slots' (w.get t.sat)=t.slot:=by unfold Ad.slots';rw[if_neg hx]
   simp only[hk,v_putsl,gx,Ad.enc,↓DD,UU,xE]
   refine callT_of (c_adslot (by omega) (by omega) hS) ?_
   rintro v H' ⟨rfl,hS⟩
   simp only[↓DD,UU]
   rw[e]
   exact hS
 ·rw[Ad.s12 hd hn]
  have g10:(t.nx == 10)=false:=beq_eq_false_iff_ne.2 (by omega)
  have g11:(t.nx == 11)=false:=beq_eq_false_iff_ne.2 (by omega)
  have g12:(t.nx == 12)=true:=beq_iff_eq.2 hn
  obtain⟨q0,q1⟩:=slot_in (i:=t.at') (j:=t.i) hw hm (by omega) (by omega) (by omega) (by omega)
  simp only[r1,g10,g11,g12,Ad.enc,↓DD,UU,xA,xE]
  refine draw_intro [(k,Ad.enc t,[])] (by simp only[hk,↓DD,UU]) ?_
  simp only[hk,r1,r2,v_slot,v_putsl,Ad.enc,↓DD,UU,↓reduceIte,xA,xC,xE,xF]
  refine callT_of (c_store _ _ _ q0 q1 hS.p2.p2) ?_
  rintro v H' ⟨rfl,hS⟩
  have hS:=hS.p2
  have hk:=hS.look
  have r1:=fun o=>rd_of hk o
  simp only[↓DD,UU,xE]
  refine callT_of (c_adslot (by omega) (by omega) hS) ?_
  rintro v H' ⟨rfl,hS⟩
  simp only[↓DD,UU]
  exact hS
 ·rw[Ad.s13 hd hn]
  have g10:(t.nx == 10)=false:=beq_eq_false_iff_ne.2 (by omega)
  have g11:(t.nx == 11)=false:=beq_eq_false_iff_ne.2 (by omega)
  have g12:(t.nx == 12)=false:=beq_eq_false_iff_ne.2 (by omega)
  obtain⟨q0,q1⟩:=status_in (i:=t.d) hw hm (by omega) (by omega)
  simp only[r1,g10,g11,g12,Ad.enc,↓DD,UU,xA,xE]
  refine draw_intro [(k,Ad.enc t,[])] (by simp only[hk,↓DD,UU]) ?_
  simp only[hk,r1,r2,v_status,v_putst,Ad.enc,↓DD,UU,↓reduceIte,xA,xC,xE,xF]
  refine callT_of (c_store _ _ _ q0 q1 hS.p2.p2) ?_
  rintro v H' ⟨rfl,hS⟩
  have hS:=hS.p2
  have hk:=hS.look
  have r1:=fun o=>rd_of hk o
  simp only[↓DD,UU,xE]
  refine callT_of (c_adend 0 hS) ?_
  rintro v H' ⟨rfl,hS⟩
  simp only[↓DD,UU]
  exact hS
theorem c_adstep (ht:t.wf) (hw:t.dn=false→w.of t.s) (hS:Sep (adB k t :: wB b s w :: wR s w :: l) H) :
  CallP Tryz.prog W 237 #[.pointer (some ⟨k,0,none⟩),.pointer (some ⟨b,0,none⟩)] H fun v H'=>v=.tuple #[]∧Sep (adB k (t.step w).1 :: wB b s (t.step w).2 :: wR s (t.step w).2 :: l) H':=by
 refine CallP.of mixed Tryz.func237 tr237 (by show 2≤_;decide) fun W _=>?_
 have hk:=hS.look
 have r1:=fun o=>rd_of hk o
 have r2:=fun o n=>rdn_of hk o n
 cases hd:t.dn
 rotate_left
 ·rw[Ad.step_dn hd]
  simp only[r1,Ad.enc,hd,↓DD,UU,↓reduceIte,xA,xE]
  exact hS
 have hw:=hw hd
 obtain⟨hm,he,hcd,ar⟩:=ht.of hd
 unfold Ad.Ar at ar
 have hb:=(may_iff _ _ _).1 hm
 by_cases h2:t.nx≤2
 ·have g2:decide (t.nx≤2)=true:=decide_eq_true h2
  simp only[r1,Ad.enc,hd,g2,↓DD,UU,↓reduceIte,xA,xE]
  refine callT_of (c_adbegin ht hd h2 hw hS) ?_
  rintro v H' ⟨rfl,hS⟩
  simp only[↓DD,UU]
  exact hS
 have g2:decide (t.nx≤2)=false:=decide_eq_false h2
 by_cases h8:t.nx≤8
 ·have g8:decide (t.nx≤8)=true:=decide_eq_true h8
  simp only[r1,Ad.enc,hd,g2,g8,↓DD,UU,↓reduceIte,xA,xE]
  refine callT_of (c_adheld ht hd (by omega) hw hS) ?_
  rintro v H' ⟨rfl,hS⟩
  simp only[↓DD,UU]
  exact hS
 have g8:decide (t.nx≤8)=false:=decide_eq_false h8
 by_cases hn:t.nx=9
 ·have g9:(t.nx == 9)=true:=beq_iff_eq.2 hn
  rw[Ad.s9 hd hn]
  obtain⟨q0,q1⟩:=mag_in (i:=t.d) (j:=t.i) hw hm (by omega) (by omega) (by omega) (by omega)
  simp only[r1,hd,g2,g8,g9,Ad.enc,↓DD,UU,↓reduceIte,xA,xE]
  refine draw_intro [(k,Ad.enc t,[])] (by simp only[hk,↓DD,UU]) ?_
  simp only[hk,r1,r2,v_mag,Ad.enc,↓DD,UU,↓reduceIte,xA,xC,xE,xF]
  refine callT_of (c_store _ _ _ q0 q1 hS.p2.p2) ?_
  rintro v H' ⟨rfl,hS⟩
  have hS:=hS.p2
  have hk:=hS.look
  have r1:=fun o=>rd_of hk o
  have w1:w64 (t.i+1)=t.i+1:=w64_eq (by omega) (by omega)
  by_cases hi:t.i+1=t.s.m
  ·have gi:(t.i+1 == t.s.m)=true:=beq_iff_eq.2 hi
   have e:t.entry = { t with i:=0,di:=0,nx:=10 }:=by unfold Ad.entry;rw[if_pos hi]
   simp only[hk,r1,wrap_w64,w1,gi,Ad.enc,Ev.upd_upd,↓DD,UU,↓reduceIte,xA,xE,xG]
   rw[e]
   exact hS.set (.cells (Ad.enc { t with i:=0,di:=0,nx:=10 }) 222 (0,0))
  ·have gi:(t.i+1 == t.s.m)=false:=beq_eq_false_iff_ne.2 hi
   have e:t.entry = { t with i:=t.i+1,di:=t.di+1 }:=by unfold Ad.entry;rw[if_neg hi]
   simp only[hk,r1,wrap_w64,w1,gi,Ad.enc,↓DD,UU,↓reduceIte,xA,xE,xG]
   rw[e]
   exact hS.set (.cells (Ad.enc { t with i:=t.i+1,di:=t.di+1 }) 222 (0,0))
 ·have g9:(t.nx == 9)=false:=beq_eq_false_iff_ne.2 hn
  simp only[r1,Ad.enc,hd,g2,g8,g9,↓DD,UU,↓reduceIte,xA,xE]
  refine callT_of (c_adways ht hd (by omega) hw hS) ?_
  rintro v H' ⟨rfl,hS⟩
  simp only[↓DD,UU]
  exact hS
end
end Go.Proofs.YtkjpgikjcfhckaaGreat
