/-
 The slot claimer of the document: contracts. Conditions: none.
-/
import Derived.Test.YtbcdaglbdnkocaaGreatCodeY
import Derived.Test.YtbcdaglbdnkocaaGreatSlot
open Nat renaming reduceAdd→xA,reduceMul→xB,reduceSub→xC,reduceEqDiff→xD,reduceBEq→xE,reduceLeDiff→xF,reduceLT→xG
open Int renaming reduceAdd→xH,reduceMul→xI,reduceSub→xJ,reduceLT→xK,reduceLE→xL,reduceToNat→xM,reduceEq→xN,reduceNe→xO,reduceBEq→xP,reduceBNe→xQ
set_option linter.unusedVariables false
set_option linter.unusedSimpArgs false
set_option maxRecDepth 8000
namespace Go.Proofs.YtbcdaglbdnkocaaGreat
open Go Go.Ev Go.Pl Go.Ma

def Sc.ren (t:Sc) (q:Int):Array Value:=#[.int .i64 t.s.p,.int .i64 t.s.c,.int .i64 t.s.m,.int .i64 t.c,.int .i64 t.k,.int .i64 t.f,.int .i64 t.many,.int .i64 q,.int .i64 t.i,.bool t.fd,.bool t.dn,.bool (!(t.nx == 0)),.bool ((t.nx == 2) && !t.fd)]
def rcB (k:Nat) (t:Sc) (q:Int):Hp:=sg k (.cells (Sc.ren t q) 176 (0,0))
def Sc.at (t:Sc) (q:Int):Prop:=t.dn=false∨t.fd=true→q=t.pg

section
variable {W:World} {H:Hp} {k b s:Nat} {t:Sc} {w:Wd} {l:List Hp} {a:Option Addr} {cap:Nat} {g:Hp} {q:Int}

theorem m_scnew {sh:Sh} {c kk f:Int} (hS:Sep l H) :
  CallP Tryz.prog W 120 #[.agg #[.int .i64 sh.p,.int .i64 sh.c,.int .i64 sh.m],.int .i64 c,.int .i64 kk,.int .i64 f] H fun v H'=>∃ k,v=.pointer (some ⟨k,0,none⟩)∧Sep (rcB k (Sc.new sh c kk f) f :: l) H':=by
 refine CallP.of mixed Tryz.func120 tr120 (by show 4≤_;decide) fun W _=>?_
 simp only[↓DD,UU,↓reduceIte,xA,xB,xC,xD,xE,xF,xG,xH,xI,xJ,xK,xL,xM,xN,xO,xP,xQ,ne_eq,eq_self]
 refine newB_intro fun x hx f1 f2=>?_
 cases h1:decide (0≤status sh.p sh.c sh.m c)<;>cases h2:decide (0≤page sh.p sh.c sh.m f)<;>cases h3:decide (0<slots kk)
 all_goals
  simp only[u_good,u_page,u_slots,h1,h2,h3,↓DD,UU,↓reduceIte,xA,xB,xC,xD,xE,xF,xG,xH,xI,xJ,xK,xL,xM,xN,xO,xP,xQ,ne_eq,eq_self]
  refine newB_intro fun y hy f3 f4=>?_
  have nxy:(x=y)=False:=f3 x (by rw[upd_same];rfl)
  simp only[nxy,↓DD,UU,↓reduceIte,xA,xB,xC,xD,xE,xF,xG,xH,xI,xJ,xK,xL,xM,xN,xO,xP,xQ,ne_eq,eq_self]
  refine⟨y,rfl,?_⟩
  have:=((hS.new f1 _).new f3 (.cells (Sc.ren (Sc.new sh c kk f) f) 176 (0,0))).p1.tail
  unfold Sc.new good at this ⊢
  simp only[h1,h2,h3]at this ⊢
  exact this
theorem m_scnext {ins:Bool} {i:Int} (hm:may t.s.p t.s.c t.s.m=true) (f0:0≤t.f) (f1:t.f<t.s.p) (m0:0≤t.many) (m1:t.many<t.s.p) (hfd:t.fd=false) (hd:t.dn=false)
  (hS:Sep (sg k (.cells #[.int .i64 t.s.p,.int .i64 t.s.c,.int .i64 t.s.m,.int .i64 t.c,.int .i64 t.k,.int .i64 t.f,.int .i64 t.many,.int .i64 q,.int .i64 i,.bool false,.bool false,.bool ins,.bool false] 176 (0,0)) :: l) H) :
  CallP Tryz.prog W 145 #[.pointer (some ⟨k,0,none⟩)] H fun v H'=>v=.tuple #[]∧∃ q2,(t.turn.dn=false∨t.turn.fd=true→q2=t.turn.pg)∧Sep (rcB k t.turn q2 :: l) H':=by
 refine CallP.of mixed Tryz.func145 tr145 (by show 1≤_;decide) fun W _=>?_
 have ml:=(may_iff _ _ _).1 hm
 have hk:=hS.look
 have r1:=fun o=>rd_of hk o
 have w1:w64 (t.many+1)=t.many+1:=w64_eq (by omega) (by omega)
 by_cases hn:t.many+1=t.s.p
 ·have hn':(t.many+1 == t.s.p)=true:=beq_iff_eq.2 hn
  simp only[hk,r1,wrap_w64,w1,hn',↓DD,UU,↓reduceIte,xA,xB,xC,xD,xE,xF,xG,xH,xI,xJ,xK,xL,xM,xN,xO,xP,xQ,ne_eq,eq_self]
  refine⟨q,fun h=>?_,?_⟩
  ·rcases h with h | h
   ·simp [Sc.turn,hn]at h
   ·have h:t.fd=true:=h
    rw[hfd]at h;cases h
  ·have:=hS.set (.cells (Sc.ren t.turn q) 176 (0,0))
   unfold Sc.ren Sc.turn at this
   simp only[hn,hfd,↓DD,UU,↓reduceIte,xA,xB,xC,xD,xE,xF,xG,xH,xI,xJ,xK,xL,xM,xN,xO,xP,xQ,ne_eq,eq_self]at this
   unfold rcB Sc.ren Sc.turn
   simp only[hn,hfd,↓DD,UU,↓reduceIte,xA,xB,xC,xD,xE,xF,xG,xH,xI,xJ,xK,xL,xM,xN,xO,xP,xQ,ne_eq,eq_self]
   exact this
 ·have hn':(t.many+1 == t.s.p)=false:=beq_eq_false_iff_ne.2 hn
  have u1:=u_round t.s t.f (t.many+1) (by omega) (by omega) (by omega)
  simp only[hk,r1,wrap_w64,w1,hn',↓DD,UU,↓reduceIte,xA,xB,xC,xD,xE,xF,xG,xH,xI,xJ,xK,xL,xM,xN,xO,xP,xQ,ne_eq,eq_self]
  refine draw_intro [(k,#[.int .i64 t.s.p,.int .i64 t.s.c,.int .i64 t.s.m,.int .i64 t.c,.int .i64 t.k,.int .i64 t.f,.int .i64 (t.many+1),.int .i64 q,.int .i64 0,.bool false,.bool false,.bool false,.bool false],[])] (by simp only[↓DD,UU,↓reduceIte,xA,xB,xC,xD,xE,xF,xG,xH,xI,xJ,xK,xL,xM,xN,xO,xP,xQ,ne_eq,eq_self]) ?_
  simp only[u1,↓DD,UU,↓reduceIte,xA,xB,xC,xD,xE,xF,xG,xH,xI,xJ,xK,xL,xM,xN,xO,xP,xQ,ne_eq,eq_self]
  refine⟨t.turn.pg,fun _=>rfl,?_⟩
  have:=hS.set (.cells (Sc.ren t.turn t.turn.pg) 176 (0,0))
  unfold Sc.ren Sc.turn at this
  simp only[hn,hfd,↓DD,UU,↓reduceIte,xA,xB,xC,xD,xE,xF,xG,xH,xI,xJ,xK,xL,xM,xN,xO,xP,xQ,ne_eq,eq_self]at this
  unfold rcB Sc.ren Sc.turn
  simp only[hn,hfd,↓DD,UU,↓reduceIte,xA,xB,xC,xD,xE,xF,xG,xH,xI,xJ,xK,xL,xM,xN,xO,xP,xQ,ne_eq,eq_self]
  exact this
def rcC (k b s:Nat) (t:Sc) (w:Wd) (l:List Hp) (x:Int) (F':Fr) (H':Hp):Prop:=
 ∃ a2 cap2 g2,LogOk a2 cap2 w g2∧gt F' 0=.pointer (some ⟨k,0,none⟩)∧gt F' 6=.bool (okPg t.s t.pg x)∧∃ y,gt F' 5=.pointer (some ⟨y,0,none⟩) ∧
  Sep (rcB k t t.pg :: mB b s a2 cap2 w :: wR s w :: g2 :: sg y (.cells #[.int .i64 (pgK t.s t.pg x),.int .i64 (pgA t.s t.pg x),.int .i64 (pgB t.s t.pg x)] 66 (0,0)) :: l) H'
theorem m_scstep (ht:t.wf) (hw:t.dn=false→w.of t.s) (hfd:t.dn=false→t.fd=false) (hq:t.dn=false∨t.fd=true→q=t.pg) (hL:LogOk a cap w g) (hl:w.st+1≤1000000000) (hS:Sep (rcB k t q :: mB b s a cap w :: wR s w :: g :: l) H) :
  CallP Tryz.prog W 126 #[.pointer (some ⟨k,0,none⟩),.pointer (some ⟨b,0,none⟩)] H fun v H'=>v=.tuple #[]∧∃ q2,((t.step w).1.dn=false∨(t.step w).1.fd=true→q2=(t.step w).1.pg) ∧
   ∃ a2 cap2 g2,LogOk a2 cap2 (t.step w).2 g2∧Sep (rcB k (t.step w).1 q2 :: mB b s a2 cap2 (t.step w).2 :: wR s (t.step w).2 :: g2 :: l) H':=by
 refine CallP.of mixed Tryz.func126 tr126 (by show 2≤_;decide) fun W _=>?_
 have hk:=hS.look
 have r1:=fun o=>rd_of hk o
 have r2:=fun o n=>rdn_of hk o n
 rcases Sc.step_cases t w with⟨hd,e⟩|⟨hd,hc⟩
 ·rw[e]
  simp only[hk,r1,r2,u_slot,Sc.ren,hd,↓DD,UU,↓reduceIte,xA,xB,xC,xD,xE,xF,xG,xH,xI,xJ,xK,xL,xM,xN,xO,xP,xQ,ne_eq,eq_self]
  exact⟨q,fun h=>hq (h.imp (fun h=>by cases h) id),a,cap,g,hL,hS⟩
 obtain⟨hm,c0,c1,f0,f1,m0,m1,i0,i1,n0,n1⟩:=ht.of hd
 have hw:=hw hd
 have hfd:=hfd hd
 have hq:=hq (.inl hd)
 subst hq
 have ml:=(may_iff _ _ _).1 hm
 have sb:=slots_bd t.k
 have hpg:=mod_bd (a:=t.f+t.many) (p:=t.s.p) (by omega)
 obtain⟨q0,q1⟩:=page_in hw hm hpg.1 hpg.2
 obtain⟨s0,s1⟩:=slot_in hw hm hpg.1 hpg.2 i0 (j:=t.i) (by omega)
 have hu:U (w.get (page t.s.p t.s.c t.s.m t.pg)):=hw.u _
 rcases hc with⟨hn,hh,e⟩|⟨hn,hh,e⟩|⟨hn,hh,e⟩|⟨hn,hh,e⟩|⟨hn,hn',hh,e⟩|⟨hn,hn',hh,e⟩<;>rw[e]
 ·have g0:(t.nx == 0)=true:=beq_iff_eq.2 hn
  have g2:(t.nx == 2)=false:=beq_eq_false_iff_ne.2 (by omega)
  simp only[hk,r1,r2,u_slot,g0,Sc.ren,hd,hfd,↓DD,UU,↓reduceIte,xA,xB,xC,xD,xE,xF,xG,xH,xI,xJ,xK,xL,xM,xN,xO,xP,xQ,ne_eq,eq_self]
  refine draw_cut [(k,Sc.ren t t.pg,[])] (rcC k b s t (w.load t.c t.pat) l (w.get t.pat)) (by simp only[hk,↓DD,UU,↓reduceIte,xA,xB,xC,xD,xE,xF,xG,xH,xI,xJ,xK,xL,xM,xN,xO,xP,xQ,ne_eq,eq_self]) ?_ ?_
  ·simp only[hk,r1,r2,u_page,u_slot,Sc.ren,hd,g0,↓e_dalt2,↓DD,UU,↓reduceIte,xA,xB,xC,xD,xE,xF,xG,xH,xI,xJ,xK,xL,xM,xN,xO,xP,xQ,ne_eq,eq_self]
   refine⟨⟨?_,?_⟩,?_⟩
   ·refine callT_of (m_load _ _ q0 q1 hL hl hS.r3) ?_
    rintro v H' ⟨rfl,a2,cap2,g2,hL,hS⟩
    have hS:=hS.p3
    have hk:=hS.look
    have r1:=fun o=>rd_of hk o
    have r2:=fun o n=>rdn_of hk o n
    simp only[hk,r1,r2,u_page,u_slot,u_readpg t.s t.pg hu,Sc.ren,hd,↓e_dalt2,↓DD,UU,↓reduceIte,xA,xB,xC,xD,xE,xF,xG,xH,xI,xJ,xK,xL,xM,xN,xO,xP,xQ,ne_eq,eq_self]
    refine⟨?_,?_⟩
    ·refine newB_intro fun y hy f3 f4=>?_
     have nky:(k=y)=False:=f3 k (by rw[hk];rfl)
     have nyk:(y=k)=False:=f4 k (by rw[hk];rfl)
     have hS2:=hS.new f3 (.cells #[.int .i64 (pgK t.s t.pg (w.get t.pat)),.int .i64 (pgA t.s t.pg (w.get t.pat)),.int .i64 (pgB t.s t.pg (w.get t.pat))] 66 (0,0))
     simp only[hk,nky,nyk,r1,r2,u_page,u_slot,u_readpg t.s t.pg hu,Sc.ren,hd,↓DD,UU,↓reduceIte,xA,xB,xC,xD,xE,xF,xG,xH,xI,xJ,xK,xL,xM,xN,xO,xP,xQ,ne_eq,eq_self]
     exact⟨a2,cap2,g2,hL,rfl,rfl,y,rfl,hS2.r4⟩
    ·refine newB_intro fun y hy f3 f4=>?_
     have nky:(k=y)=False:=f3 k (by rw[hk];rfl)
     have nyk:(y=k)=False:=f4 k (by rw[hk];rfl)
     have hS2:=hS.new f3 (.cells #[.int .i64 (pgK t.s t.pg (w.get t.pat)),.int .i64 (pgA t.s t.pg (w.get t.pat)),.int .i64 (pgB t.s t.pg (w.get t.pat))] 66 (0,0))
     simp only[hk,nky,nyk,r1,r2,u_page,u_slot,u_readpg t.s t.pg hu,Sc.ren,hd,↓DD,UU,↓reduceIte,xA,xB,xC,xD,xE,xF,xG,xH,xI,xJ,xK,xL,xM,xN,xO,xP,xQ,ne_eq,eq_self]
     exact⟨a2,cap2,g2,hL,rfl,rfl,y,rfl,hS2.r4⟩
   ·refine newB_intro fun y hy f3 f4=>?_
    have nky:(k=y)=False:=f3 k (by rw[hk];rfl)
    have nyk:(y=k)=False:=f4 k (by rw[hk];rfl)
    have hS2:=hS.new f3 (.cells #[.int .i64 0,.int .i64 0,.int .i64 0] 66 (0,0))
    simp only[hk,nky,nyk,r1,r2,u_page,u_slot,u_readpg t.s t.pg hu,Sc.ren,hd,↓DD,UU,↓reduceIte,xA,xB,xC,xD,xE,xF,xG,xH,xI,xJ,xK,xL,xM,xN,xO,xP,xQ,ne_eq,eq_self]
    refine callT_of (m_load _ _ q0 q1 hL hl hS2.r4.r4) ?_
    rintro v H' ⟨rfl,a2,cap2,g2,hL,hS⟩
    have hS:=hS.p4
    have hk:=hS.look
    have r1:=fun o=>rd_of hk o
    have r2:=fun o n=>rdn_of hk o n
    have hy1:=hS.lk 4 rfl
    simp only[hk,hy1,nky,nyk,r1,r2,u_page,u_slot,u_readpg t.s t.pg hu,Sc.ren,hd,↓DD,UU,↓reduceIte,xA,xB,xC,xD,xE,xF,xG,xH,xI,xJ,xK,xL,xM,xN,xO,xP,xQ,ne_eq,eq_self]
    exact⟨a2,cap2,g2,hL,rfl,rfl,y,rfl,(hS.p4.set _).r4⟩
   ·refine newB_intro fun y hy f3 f4=>?_
    have nky:(k=y)=False:=f3 k (by rw[hk];rfl)
    have nyk:(y=k)=False:=f4 k (by rw[hk];rfl)
    have hS2:=hS.new f3 (.cells #[.int .i64 0,.int .i64 0,.int .i64 0] 66 (0,0))
    simp only[hk,nky,nyk,r1,r2,u_page,u_slot,u_readpg t.s t.pg hu,Sc.ren,hd,↓DD,UU,↓reduceIte,xA,xB,xC,xD,xE,xF,xG,xH,xI,xJ,xK,xL,xM,xN,xO,xP,xQ,ne_eq,eq_self]
    refine callT_of (m_load _ _ q0 q1 hL hl hS2.r4.r4) ?_
    rintro v H' ⟨rfl,a2,cap2,g2,hL,hS⟩
    have hS:=hS.p4
    have hk:=hS.look
    have r1:=fun o=>rd_of hk o
    have r2:=fun o n=>rdn_of hk o n
    have hy1:=hS.lk 4 rfl
    simp only[hk,hy1,nky,nyk,r1,r2,u_page,u_slot,u_readpg t.s t.pg hu,Sc.ren,hd,↓DD,UU,↓reduceIte,xA,xB,xC,xD,xE,xF,xG,xH,xI,xJ,xK,xL,xM,xN,xO,xP,xQ,ne_eq,eq_self]
    exact⟨a2,cap2,g2,hL,rfl,rfl,y,rfl,(hS.p4.set _).r4⟩
  ·rintro F' H' ⟨a2,cap2,g2',hL,e0,e6,y,e5,hS⟩
   have hk:=hS.look
   have hy1:=hS.lk 4 rfl
   have r1:=fun o=>rd_of hk o
   have r3:=fun o=>rd_of hy1 o
   simp only[Sc.mine,Bool.and_eq_true,decide_eq_true_eq]at hh
   have h1:okPg t.s t.pg (w.get t.pat)=true:=hh.1.1
   have h2:(pgK t.s t.pg (w.get t.pat) == 2)=true:=beq_iff_eq.2 hh.1.2
   have h3:(pgA t.s t.pg (w.get t.pat) == t.k)=true:=beq_iff_eq.2 hh.2
   simp only[e0,e6,e5,hk,hy1,r1,r3,h1,h2,h3,g0,g2,Sc.ren,hd,hfd,↓DD,UU,↓reduceIte,xA,xB,xC,xD,xE,xF,xG,xH,xI,xJ,xK,xL,xM,xN,xO,xP,xQ,ne_eq,eq_self]
   refine⟨t.pg,fun _=>rfl,a2,cap2,g2',hL,?_⟩
   have:=hS.set (.cells (Sc.ren { t with nx:=1 } t.pg) 176 (0,0))
   unfold Sc.ren at this
   simp only[hd,hfd,↓DD,UU,↓reduceIte,xA,xB,xC,xD,xE,xF,xG,xH,xI,xJ,xK,xL,xM,xN,xO,xP,xQ,ne_eq,eq_self]at this
   unfold rcB Sc.ren
   simp only[hd,hfd,↓DD,UU,↓reduceIte,xA,xB,xC,xD,xE,xF,xG,xH,xI,xJ,xK,xL,xM,xN,xO,xP,xQ,ne_eq,eq_self]
   exact this.p4.tail
 ·have g0:(t.nx == 0)=true:=beq_iff_eq.2 hn
  have g2:(t.nx == 2)=false:=beq_eq_false_iff_ne.2 (by omega)
  simp only[hk,r1,r2,u_slot,g0,Sc.ren,hd,hfd,↓DD,UU,↓reduceIte,xA,xB,xC,xD,xE,xF,xG,xH,xI,xJ,xK,xL,xM,xN,xO,xP,xQ,ne_eq,eq_self]
  refine draw_cut [(k,Sc.ren t t.pg,[])] (rcC k b s t (w.load t.c t.pat) l (w.get t.pat)) (by simp only[hk,↓DD,UU,↓reduceIte,xA,xB,xC,xD,xE,xF,xG,xH,xI,xJ,xK,xL,xM,xN,xO,xP,xQ,ne_eq,eq_self]) ?_ ?_
  ·simp only[hk,r1,r2,u_page,u_slot,Sc.ren,hd,g0,↓e_dalt2,↓DD,UU,↓reduceIte,xA,xB,xC,xD,xE,xF,xG,xH,xI,xJ,xK,xL,xM,xN,xO,xP,xQ,ne_eq,eq_self]
   refine⟨⟨?_,?_⟩,?_⟩
   ·refine callT_of (m_load _ _ q0 q1 hL hl hS.r3) ?_
    rintro v H' ⟨rfl,a2,cap2,g2,hL,hS⟩
    have hS:=hS.p3
    have hk:=hS.look
    have r1:=fun o=>rd_of hk o
    have r2:=fun o n=>rdn_of hk o n
    simp only[hk,r1,r2,u_page,u_slot,u_readpg t.s t.pg hu,Sc.ren,hd,↓e_dalt2,↓DD,UU,↓reduceIte,xA,xB,xC,xD,xE,xF,xG,xH,xI,xJ,xK,xL,xM,xN,xO,xP,xQ,ne_eq,eq_self]
    refine⟨?_,?_⟩
    ·refine newB_intro fun y hy f3 f4=>?_
     have nky:(k=y)=False:=f3 k (by rw[hk];rfl)
     have nyk:(y=k)=False:=f4 k (by rw[hk];rfl)
     have hS2:=hS.new f3 (.cells #[.int .i64 (pgK t.s t.pg (w.get t.pat)),.int .i64 (pgA t.s t.pg (w.get t.pat)),.int .i64 (pgB t.s t.pg (w.get t.pat))] 66 (0,0))
     simp only[hk,nky,nyk,r1,r2,u_page,u_slot,u_readpg t.s t.pg hu,Sc.ren,hd,↓DD,UU,↓reduceIte,xA,xB,xC,xD,xE,xF,xG,xH,xI,xJ,xK,xL,xM,xN,xO,xP,xQ,ne_eq,eq_self]
     exact⟨a2,cap2,g2,hL,rfl,rfl,y,rfl,hS2.r4⟩
    ·refine newB_intro fun y hy f3 f4=>?_
     have nky:(k=y)=False:=f3 k (by rw[hk];rfl)
     have nyk:(y=k)=False:=f4 k (by rw[hk];rfl)
     have hS2:=hS.new f3 (.cells #[.int .i64 (pgK t.s t.pg (w.get t.pat)),.int .i64 (pgA t.s t.pg (w.get t.pat)),.int .i64 (pgB t.s t.pg (w.get t.pat))] 66 (0,0))
     simp only[hk,nky,nyk,r1,r2,u_page,u_slot,u_readpg t.s t.pg hu,Sc.ren,hd,↓DD,UU,↓reduceIte,xA,xB,xC,xD,xE,xF,xG,xH,xI,xJ,xK,xL,xM,xN,xO,xP,xQ,ne_eq,eq_self]
     exact⟨a2,cap2,g2,hL,rfl,rfl,y,rfl,hS2.r4⟩
   ·refine newB_intro fun y hy f3 f4=>?_
    have nky:(k=y)=False:=f3 k (by rw[hk];rfl)
    have nyk:(y=k)=False:=f4 k (by rw[hk];rfl)
    have hS2:=hS.new f3 (.cells #[.int .i64 0,.int .i64 0,.int .i64 0] 66 (0,0))
    simp only[hk,nky,nyk,r1,r2,u_page,u_slot,u_readpg t.s t.pg hu,Sc.ren,hd,↓DD,UU,↓reduceIte,xA,xB,xC,xD,xE,xF,xG,xH,xI,xJ,xK,xL,xM,xN,xO,xP,xQ,ne_eq,eq_self]
    refine callT_of (m_load _ _ q0 q1 hL hl hS2.r4.r4) ?_
    rintro v H' ⟨rfl,a2,cap2,g2,hL,hS⟩
    have hS:=hS.p4
    have hk:=hS.look
    have r1:=fun o=>rd_of hk o
    have r2:=fun o n=>rdn_of hk o n
    have hy1:=hS.lk 4 rfl
    simp only[hk,hy1,nky,nyk,r1,r2,u_page,u_slot,u_readpg t.s t.pg hu,Sc.ren,hd,↓DD,UU,↓reduceIte,xA,xB,xC,xD,xE,xF,xG,xH,xI,xJ,xK,xL,xM,xN,xO,xP,xQ,ne_eq,eq_self]
    exact⟨a2,cap2,g2,hL,rfl,rfl,y,rfl,(hS.p4.set _).r4⟩
   ·refine newB_intro fun y hy f3 f4=>?_
    have nky:(k=y)=False:=f3 k (by rw[hk];rfl)
    have nyk:(y=k)=False:=f4 k (by rw[hk];rfl)
    have hS2:=hS.new f3 (.cells #[.int .i64 0,.int .i64 0,.int .i64 0] 66 (0,0))
    simp only[hk,nky,nyk,r1,r2,u_page,u_slot,u_readpg t.s t.pg hu,Sc.ren,hd,↓DD,UU,↓reduceIte,xA,xB,xC,xD,xE,xF,xG,xH,xI,xJ,xK,xL,xM,xN,xO,xP,xQ,ne_eq,eq_self]
    refine callT_of (m_load _ _ q0 q1 hL hl hS2.r4.r4) ?_
    rintro v H' ⟨rfl,a2,cap2,g2,hL,hS⟩
    have hS:=hS.p4
    have hk:=hS.look
    have r1:=fun o=>rd_of hk o
    have r2:=fun o n=>rdn_of hk o n
    have hy1:=hS.lk 4 rfl
    simp only[hk,hy1,nky,nyk,r1,r2,u_page,u_slot,u_readpg t.s t.pg hu,Sc.ren,hd,↓DD,UU,↓reduceIte,xA,xB,xC,xD,xE,xF,xG,xH,xI,xJ,xK,xL,xM,xN,xO,xP,xQ,ne_eq,eq_self]
    exact⟨a2,cap2,g2,hL,rfl,rfl,y,rfl,(hS.p4.set _).r4⟩
  ·rintro F' H' ⟨a2,cap2,g2',hL,e0,e6,y,e5,hS⟩
   have hk:=hS.look
   have hy1:=hS.lk 4 rfl
   have r1:=fun o=>rd_of hk o
   have r3:=fun o=>rd_of hy1 o
   simp only[Sc.mine,Bool.and_eq_false_iff,decide_eq_false_iff_not]at hh
   have er:Sc.ren t t.pg=#[.int .i64 t.s.p,.int .i64 t.s.c,.int .i64 t.s.m,.int .i64 t.c,.int .i64 t.k,.int .i64 t.f,.int .i64 t.many,.int .i64 t.pg,.int .i64 t.i,.bool false,.bool false,.bool false,.bool false]:=by
    unfold Sc.ren;rw[hd,hfd,g0,g2];rfl
   unfold rcB at hS
   rw[er]at hS
   cases h1:okPg t.s t.pg (w.get t.pat)
   ·simp only[e0,e6,e5,hk,hy1,r1,r3,h1,er,↓DD,UU,↓reduceIte,xA,xB,xC,xD,xE,xF,xG,xH,xI,xJ,xK,xL,xM,xN,xO,xP,xQ,ne_eq,eq_self]
    refine callT_of (m_scnext (t:=t) hm f0 f1 m0 m1 hfd hd hS) ?_
    rintro v H' ⟨rfl,q2,hq2,hS⟩
    simp only[↓DD,UU,↓reduceIte,xA,xB,xC,xD,xE,xF,xG,xH,xI,xJ,xK,xL,xM,xN,xO,xP,xQ,ne_eq,eq_self]
    exact⟨q2,hq2,a2,cap2,g2',hL,hS.p4.tail⟩
   ·cases h2:(pgK t.s t.pg (w.get t.pat) == 2)
    ·simp only[e0,e6,e5,hk,hy1,r1,r3,h1,h2,er,↓DD,UU,↓reduceIte,xA,xB,xC,xD,xE,xF,xG,xH,xI,xJ,xK,xL,xM,xN,xO,xP,xQ,ne_eq,eq_self]
     refine callT_of (m_scnext (t:=t) hm f0 f1 m0 m1 hfd hd hS) ?_
     rintro v H' ⟨rfl,q2,hq2,hS⟩
     simp only[↓DD,UU,↓reduceIte,xA,xB,xC,xD,xE,xF,xG,xH,xI,xJ,xK,xL,xM,xN,xO,xP,xQ,ne_eq,eq_self]
     exact⟨q2,hq2,a2,cap2,g2',hL,hS.p4.tail⟩
    ·have h3:(pgA t.s t.pg (w.get t.pat) == t.k)=false:=by
      refine beq_eq_false_iff_ne.2 ?_
      rcases hh with(h | h) | h
      ·rw[h1]at h;cases h
      ·exact absurd (beq_iff_eq.1 h2) h
      ·exact h
     simp only[e0,e6,e5,hk,hy1,r1,r3,h1,h2,h3,er,↓DD,UU,↓reduceIte,xA,xB,xC,xD,xE,xF,xG,xH,xI,xJ,xK,xL,xM,xN,xO,xP,xQ,ne_eq,eq_self]
     refine callT_of (m_scnext (t:=t) hm f0 f1 m0 m1 hfd hd hS) ?_
     rintro v H' ⟨rfl,q2,hq2,hS⟩
     simp only[↓DD,UU,↓reduceIte,xA,xB,xC,xD,xE,xF,xG,xH,xI,xJ,xK,xL,xM,xN,xO,xP,xQ,ne_eq,eq_self]
     exact⟨q2,hq2,a2,cap2,g2',hL,hS.p4.tail⟩
 ·have g0:(t.nx == 0)=false:=beq_eq_false_iff_ne.2 (by omega)
  have g2:(t.nx == 2)=false:=beq_eq_false_iff_ne.2 (by omega)
  have gz:(w.get (slot t.s.p t.s.c t.s.m t.pg t.i) == opn t.k)=true:=beq_iff_eq.2 hh
  have er:Sc.ren t t.pg=#[.int .i64 t.s.p,.int .i64 t.s.c,.int .i64 t.s.m,.int .i64 t.c,.int .i64 t.k,.int .i64 t.f,.int .i64 t.many,.int .i64 t.pg,.int .i64 t.i,.bool false,.bool false,.bool true,.bool false]:=by
   unfold Sc.ren;rw[hd,hfd,g0,g2];rfl
  have wi:w64 (t.i+1)=t.i+1:=w64_eq (by omega) (by omega)
  simp only[hk,r1,r2,u_slot,er,↓DD,UU,↓reduceIte,xA,xB,xC,xD,xE,xF,xG,xH,xI,xJ,xK,xL,xM,xN,xO,xP,xQ,ne_eq,eq_self]
  refine draw_intro [(k,Sc.ren t t.pg,[])] (by simp only[hk,↓DD,UU,↓reduceIte,xA,xB,xC,xD,xE,xF,xG,xH,xI,xJ,xK,xL,xM,xN,xO,xP,xQ,ne_eq,eq_self]) ?_
  simp only[hk,r1,r2,u_slot,u_opn,u_way,er,↓DD,UU,↓reduceIte,xA,xB,xC,xD,xE,xF,xG,xH,xI,xJ,xK,xL,xM,xN,xO,xP,xQ,ne_eq,eq_self]
  refine callT_of (m_load _ _ s0 s1 hL hl hS.r3) ?_
  rintro v H' ⟨rfl,a2,cap2,g2',hL,hS⟩
  have hS:=hS.p3
  have hk:=hS.look
  have r1:=fun o=>rd_of hk o
  simp only[hk,r1,u_opn,u_way,gz,er,↓DD,UU,↓reduceIte,xA,xB,xC,xD,xE,xF,xG,xH,xI,xJ,xK,xL,xM,xN,xO,xP,xQ,ne_eq,eq_self]
  refine⟨t.pg,fun _=>rfl,a2,cap2,g2',hL,?_⟩
  have:=hS.set (.cells (Sc.ren { t with nx:=2 } t.pg) 176 (0,0))
  unfold Sc.ren at this
  simp only[hd,hfd,↓DD,UU,↓reduceIte,xA,xB,xC,xD,xE,xF,xG,xH,xI,xJ,xK,xL,xM,xN,xO,xP,xQ,ne_eq,eq_self]at this
  unfold rcB Sc.ren
  simp only[hd,hfd,↓DD,UU,↓reduceIte,xA,xB,xC,xD,xE,xF,xG,xH,xI,xJ,xK,xL,xM,xN,xO,xP,xQ,ne_eq,eq_self]
  exact this
 ·have g0:(t.nx == 0)=false:=beq_eq_false_iff_ne.2 (by omega)
  have g2:(t.nx == 2)=false:=beq_eq_false_iff_ne.2 (by omega)
  have gz:(w.get (slot t.s.p t.s.c t.s.m t.pg t.i) == opn t.k)=false:=beq_eq_false_iff_ne.2 hh
  have er:Sc.ren t t.pg=#[.int .i64 t.s.p,.int .i64 t.s.c,.int .i64 t.s.m,.int .i64 t.c,.int .i64 t.k,.int .i64 t.f,.int .i64 t.many,.int .i64 t.pg,.int .i64 t.i,.bool false,.bool false,.bool true,.bool false]:=by
   unfold Sc.ren;rw[hd,hfd,g0,g2];rfl
  have wi:w64 (t.i+1)=t.i+1:=w64_eq (by omega) (by omega)
  simp only[hk,r1,r2,u_slot,er,↓DD,UU,↓reduceIte,xA,xB,xC,xD,xE,xF,xG,xH,xI,xJ,xK,xL,xM,xN,xO,xP,xQ,ne_eq,eq_self]
  refine draw_intro [(k,Sc.ren t t.pg,[])] (by simp only[hk,↓DD,UU,↓reduceIte,xA,xB,xC,xD,xE,xF,xG,xH,xI,xJ,xK,xL,xM,xN,xO,xP,xQ,ne_eq,eq_self]) ?_
  simp only[hk,r1,r2,u_slot,u_opn,u_way,er,↓DD,UU,↓reduceIte,xA,xB,xC,xD,xE,xF,xG,xH,xI,xJ,xK,xL,xM,xN,xO,xP,xQ,ne_eq,eq_self]
  refine callT_of (m_load _ _ s0 s1 hL hl hS.r3) ?_
  rintro v H' ⟨rfl,a2,cap2,g2',hL,hS⟩
  have hS:=hS.p3
  have hk:=hS.look
  have r1:=fun o=>rd_of hk o
  by_cases hi:t.i+1=slots t.k
  ·have hi':(t.i+1 == slots t.k)=true:=beq_iff_eq.2 hi
   have em:t.miss=({ t with i:=t.i+1,nx:=1 }:Sc).turn:=by unfold Sc.miss;rw[if_pos hi]
   rw[em]
   simp only[hk,r1,u_opn,u_way,gz,hi',er,wrap_w64,wi,u_slots,↓DD,UU,↓reduceIte,xA,xB,xC,xD,xE,xF,xG,xH,xI,xJ,xK,xL,xM,xN,xO,xP,xQ,ne_eq,eq_self]
   refine callT_of (m_scnext (t:={ t with i:=t.i+1,nx:=1 }) (q:=t.pg) (ins:=true) (i:=t.i+1) hm f0 f1 m0 m1 hfd hd (hS.set _)) ?_
   rintro v H' ⟨rfl,q2,hq2,hS⟩
   simp only[↓DD,UU,↓reduceIte,xA,xB,xC,xD,xE,xF,xG,xH,xI,xJ,xK,xL,xM,xN,xO,xP,xQ,ne_eq,eq_self]
   exact⟨q2,hq2,a2,cap2,g2',hL,hS⟩
  ·have hi':(t.i+1 == slots t.k)=false:=beq_eq_false_iff_ne.2 hi
   have em:t.miss = { t with i:=t.i+1,nx:=1 }:=by unfold Sc.miss;rw[if_neg hi]
   rw[em]
   simp only[hk,r1,u_opn,u_way,gz,hi',er,wrap_w64,wi,u_slots,↓DD,UU,↓reduceIte,xA,xB,xC,xD,xE,xF,xG,xH,xI,xJ,xK,xL,xM,xN,xO,xP,xQ,ne_eq,eq_self]
   refine⟨t.pg,fun _=>rfl,a2,cap2,g2',hL,?_⟩
   have:=hS.set (.cells (Sc.ren { t with i:=t.i+1,nx:=1 } t.pg) 176 (0,0))
   unfold Sc.ren at this
   simp only[hd,hfd,↓DD,UU,↓reduceIte,xA,xB,xC,xD,xE,xF,xG,xH,xI,xJ,xK,xL,xM,xN,xO,xP,xQ,ne_eq,eq_self]at this
   unfold rcB Sc.ren
   simp only[hd,hfd,↓DD,UU,↓reduceIte,xA,xB,xC,xD,xE,xF,xG,xH,xI,xJ,xK,xL,xM,xN,xO,xP,xQ,ne_eq,eq_self]
   exact this
 ·have g0:(t.nx == 0)=false:=beq_eq_false_iff_ne.2 (by omega)
  have g2:(t.nx == 2)=true:=beq_iff_eq.2 (by omega)
  have gz:(w.get (slot t.s.p t.s.c t.s.m t.pg t.i) == opn t.k)=true:=beq_iff_eq.2 hh
  have er:Sc.ren t t.pg=#[.int .i64 t.s.p,.int .i64 t.s.c,.int .i64 t.s.m,.int .i64 t.c,.int .i64 t.k,.int .i64 t.f,.int .i64 t.many,.int .i64 t.pg,.int .i64 t.i,.bool false,.bool false,.bool true,.bool true]:=by
   unfold Sc.ren;rw[hd,hfd,g0,g2];rfl
  have wi:w64 (t.i+1)=t.i+1:=w64_eq (by omega) (by omega)
  simp only[hk,r1,r2,u_slot,er,↓DD,UU,↓reduceIte,xA,xB,xC,xD,xE,xF,xG,xH,xI,xJ,xK,xL,xM,xN,xO,xP,xQ,ne_eq,eq_self]
  refine draw_intro [(k,#[.int .i64 t.s.p,.int .i64 t.s.c,.int .i64 t.s.m,.int .i64 t.c,.int .i64 t.k,.int .i64 t.f,.int .i64 t.many,.int .i64 t.pg,.int .i64 t.i,.bool false,.bool false,.bool true,.bool false],[])] (by simp only[hk,↓DD,UU,↓reduceIte,xA,xB,xC,xD,xE,xF,xG,xH,xI,xJ,xK,xL,xM,xN,xO,xP,xQ,ne_eq,eq_self]) ?_
  simp only[u_opn,u_way,↓DD,UU,↓reduceIte,xA,xB,xC,xD,xE,xF,xG,xH,xI,xJ,xK,xL,xM,xN,xO,xP,xQ,ne_eq,eq_self]
  refine callT_of (m_swap _ _ _ _ s0 s1 hL hl (hS.set _).r3) ?_
  rintro v H' ⟨rfl,a2,cap2,g2',hL,hS⟩
  have hS:=hS.p3
  have hk:=hS.look
  have r1:=fun o=>rd_of hk o
  simp only[hk,r1,u_opn,u_way,gz,↓DD,UU,↓reduceIte,xA,xB,xC,xD,xE,xF,xG,xH,xI,xJ,xK,xL,xM,xN,xO,xP,xQ,ne_eq,eq_self]
  refine⟨t.pg,fun _=>rfl,a2,cap2,g2',hL,?_⟩
  have:=hS.set (.cells (Sc.ren { t with fd:=true,dn:=true } t.pg) 176 (0,0))
  unfold Sc.ren at this
  simp only[g0,g2,↓DD,UU,↓reduceIte,xA,xB,xC,xD,xE,xF,xG,xH,xI,xJ,xK,xL,xM,xN,xO,xP,xQ,ne_eq,eq_self]at this
  unfold rcB Sc.ren
  simp only[g0,g2,↓DD,UU,↓reduceIte,xA,xB,xC,xD,xE,xF,xG,xH,xI,xJ,xK,xL,xM,xN,xO,xP,xQ,ne_eq,eq_self]
  exact this
 ·have g0:(t.nx == 0)=false:=beq_eq_false_iff_ne.2 (by omega)
  have g2:(t.nx == 2)=true:=beq_iff_eq.2 (by omega)
  have gz:(w.get (slot t.s.p t.s.c t.s.m t.pg t.i) == opn t.k)=false:=beq_eq_false_iff_ne.2 hh
  have er:Sc.ren t t.pg=#[.int .i64 t.s.p,.int .i64 t.s.c,.int .i64 t.s.m,.int .i64 t.c,.int .i64 t.k,.int .i64 t.f,.int .i64 t.many,.int .i64 t.pg,.int .i64 t.i,.bool false,.bool false,.bool true,.bool true]:=by
   unfold Sc.ren;rw[hd,hfd,g0,g2];rfl
  have wi:w64 (t.i+1)=t.i+1:=w64_eq (by omega) (by omega)
  simp only[hk,r1,r2,u_slot,er,↓DD,UU,↓reduceIte,xA,xB,xC,xD,xE,xF,xG,xH,xI,xJ,xK,xL,xM,xN,xO,xP,xQ,ne_eq,eq_self]
  refine draw_intro [(k,#[.int .i64 t.s.p,.int .i64 t.s.c,.int .i64 t.s.m,.int .i64 t.c,.int .i64 t.k,.int .i64 t.f,.int .i64 t.many,.int .i64 t.pg,.int .i64 t.i,.bool false,.bool false,.bool true,.bool false],[])] (by simp only[hk,↓DD,UU,↓reduceIte,xA,xB,xC,xD,xE,xF,xG,xH,xI,xJ,xK,xL,xM,xN,xO,xP,xQ,ne_eq,eq_self]) ?_
  simp only[u_opn,u_way,↓DD,UU,↓reduceIte,xA,xB,xC,xD,xE,xF,xG,xH,xI,xJ,xK,xL,xM,xN,xO,xP,xQ,ne_eq,eq_self]
  refine callT_of (m_swap _ _ _ _ s0 s1 hL hl (hS.set _).r3) ?_
  rintro v H' ⟨rfl,a2,cap2,g2',hL,hS⟩
  have hS:=hS.p3
  have hk:=hS.look
  have r1:=fun o=>rd_of hk o
  by_cases hi:t.i+1=slots t.k
  ·have hi':(t.i+1 == slots t.k)=true:=beq_iff_eq.2 hi
   have em:t.miss=({ t with i:=t.i+1,nx:=1 }:Sc).turn:=by unfold Sc.miss;rw[if_pos hi]
   rw[em]
   simp only[hk,r1,u_opn,u_way,gz,hi',er,wrap_w64,wi,u_slots,↓DD,UU,↓reduceIte,xA,xB,xC,xD,xE,xF,xG,xH,xI,xJ,xK,xL,xM,xN,xO,xP,xQ,ne_eq,eq_self]
   refine callT_of (m_scnext (t:={ t with i:=t.i+1,nx:=1 }) (q:=t.pg) (ins:=true) (i:=t.i+1) hm f0 f1 m0 m1 hfd hd (hS.set _)) ?_
   rintro v H' ⟨rfl,q2,hq2,hS⟩
   simp only[↓DD,UU,↓reduceIte,xA,xB,xC,xD,xE,xF,xG,xH,xI,xJ,xK,xL,xM,xN,xO,xP,xQ,ne_eq,eq_self]
   exact⟨q2,hq2,a2,cap2,g2',hL,hS⟩
  ·have hi':(t.i+1 == slots t.k)=false:=beq_eq_false_iff_ne.2 hi
   have em:t.miss = { t with i:=t.i+1,nx:=1 }:=by unfold Sc.miss;rw[if_neg hi]
   rw[em]
   simp only[hk,r1,u_opn,u_way,gz,hi',er,wrap_w64,wi,u_slots,↓DD,UU,↓reduceIte,xA,xB,xC,xD,xE,xF,xG,xH,xI,xJ,xK,xL,xM,xN,xO,xP,xQ,ne_eq,eq_self]
   refine⟨t.pg,fun _=>rfl,a2,cap2,g2',hL,?_⟩
   have:=hS.set (.cells (Sc.ren { t with i:=t.i+1,nx:=1 } t.pg) 176 (0,0))
   unfold Sc.ren at this
   simp only[hd,hfd,↓DD,UU,↓reduceIte,xA,xB,xC,xD,xE,xF,xG,xH,xI,xJ,xK,xL,xM,xN,xO,xP,xQ,ne_eq,eq_self]at this
   unfold rcB Sc.ren
   simp only[hd,hfd,↓DD,UU,↓reduceIte,xA,xB,xC,xD,xE,xF,xG,xH,xI,xJ,xK,xL,xM,xN,xO,xP,xQ,ne_eq,eq_self]
   exact this
end

end Go.Proofs.YtbcdaglbdnkocaaGreat
