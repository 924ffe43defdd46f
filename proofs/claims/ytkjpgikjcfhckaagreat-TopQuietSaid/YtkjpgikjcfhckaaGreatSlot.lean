/-
 The slot claimer: contracts of package slot, and of the document's. Conditions: none.
-/
import Derived.Test.YtkjpgikjcfhckaaGreatCodeY
import Derived.Test.YtkjpgikjcfhckaaGreatModel
import Derived.Test.YtkjpgikjcfhckaaGreatMaA
import Derived.Test.YtkjpgikjcfhckaaGreatAlt
open Nat renaming reduceAdd→xA,reduceMul→xB,reduceSub→xC,reduceEqDiff→xD,reduceBEq→xE,reduceLeDiff→xF,reduceLT→xG
open Int renaming reduceAdd→xH,reduceMul→xI,reduceSub→xJ,reduceLT→xK,reduceLE→xL,reduceToNat→xM,reduceEq→xN,reduceNe→xO,reduceBEq→xP,reduceBNe→xQ
set_option linter.unusedVariables false
set_option linter.unusedSimpArgs false
set_option maxRecDepth 8000
namespace Go.Proofs.YtkjpgikjcfhckaaGreat
open Go Go.Ev Go.Pl Go.Ma

def Sc.enc (t:Sc):Array Value:=#[.int .i64 t.s.p,.int .i64 t.s.c,.int .i64 t.s.m,.int .i64 t.c,.int .i64 t.k,.int .i64 t.f,.int .i64 t.many,.int .i64 t.i,.int .i64 t.nx,.bool t.fd,.bool t.dn]
def scB (k:Nat) (t:Sc):Hp:=sg k (.cells (Sc.enc t) 257 (0,0))

section
variable {W:World} {H:Hp} {k b s:Nat} {t:Sc} {w:Wd} {l:List Hp}

theorem c_scdone (hS:Sep (scB k t :: l) H) :
  CallP Tryz.prog W 253 #[.pointer (some ⟨k,0,none⟩)] H fun v H'=>v=.bool t.dn∧Sep (scB k t :: l) H':=by
 refine CallP.of mixed Tryz.func253 tr253 (by show 1≤_;decide) fun W _=>?_
 have hk:=hS.look
 have r1:=fun o=>rd_of hk o
 simp only[r1,Sc.enc,↓DD,UU,↓reduceIte,xE]
 exact hS
theorem c_scpage (hp:0<t.s.p) (h0:0≤t.f+t.many) (h1:t.f+t.many≤9223372036854775807) (hS:Sep (scB k t :: l) H) :
  CallP Tryz.prog W 166 #[.pointer (some ⟨k,0,none⟩)] H fun v H'=>v=.int .i64 t.pg∧Sep (scB k t :: l) H':=by
 refine CallP.of mixed Tryz.func166 tr166 (by show 1≤_;decide) fun W _=>?_
 have hk:=hS.look
 have r1:=fun o=>rd_of hk o
 have w1:w64 (t.f+t.many)=t.f+t.many:=w64_eq (by omega) h1
 have e:(t.f+t.many).tmod t.s.p=(t.f+t.many) % t.s.p:=Int.tmod_eq_emod_of_nonneg h0
 have hne:(t.s.p=0)=False:=eq_false (by omega)
 simp only[r1,Sc.enc,wrap_w64,w1,e,hne,↓DD,UU,xE,ne_eq]
 exact⟨rfl,hS⟩
theorem c_scfound (hp:t.fd=true→0<t.s.p∧0≤t.f+t.many∧t.f+t.many≤9223372036854775807) (hS:Sep (scB k t :: l) H) :
  CallP Tryz.prog W 159 #[.pointer (some ⟨k,0,none⟩)] H fun v H'=>v=.tuple #[.int .i64 (if t.fd then t.pg else 0),.int .i64 (if t.fd then t.i else 0),.bool t.fd]∧Sep (scB k t :: l) H':=by
 refine CallP.of mixed Tryz.func159 tr159 (by show 1≤_;decide) fun W _=>?_
 have hk:=hS.look
 have r1:=fun o=>rd_of hk o
 cases hf:t.fd
 ·simp only[r1,Sc.enc,hf,↓DD,UU,↓reduceIte,xE]
  exact hS
 ·obtain⟨h1,h2,h3⟩:=hp hf
  simp only[r1,Sc.enc,hf,↓DD,UU,↓reduceIte,xE]
  refine draw_intro [(k,Sc.enc t,[])] (by simp only[hk,↓DD,UU]) ?_
  simp only[r1,Sc.enc,hf,↓DD,UU,↓reduceIte,xE]
  refine callT_of (c_scpage h1 h2 h3 hS) ?_
  rintro v H' ⟨rfl,hS⟩
  have hk:=hS.look
  have r1:=fun o=>rd_of hk o
  simp only[hk,Sc.enc,hf,↓DD,UU,xE]
  exact hS
theorem c_scnew {sh:Sh} {c kk f:Int} (hS:Sep l H) :
  CallP Tryz.prog W 158 #[.agg #[.int .i64 sh.p,.int .i64 sh.c,.int .i64 sh.m],.int .i64 c,.int .i64 kk,.int .i64 f] H fun v H'=>∃ k,v=.pointer (some ⟨k,0,none⟩)∧Sep (scB k (Sc.new sh c kk f) :: l) H':=by
 refine CallP.of mixed Tryz.func158 tr158 (by show 4≤_;decide) fun W _=>?_
 simp only[↓DD,UU,xA]
 refine newB_intro fun x hx f1 f2=>?_
 cases h1:decide (0≤status sh.p sh.c sh.m c)<;>cases h2:decide (0≤page sh.p sh.c sh.m f)<;>cases h3:decide (0<slots kk)
 all_goals
  simp only[v_status,v_page,v_slots,h1,h2,h3,↓DD,UU,↓reduceIte,xA,xC,xE,xF]
  refine newB_intro fun y hy f3 f4=>?_
  simp only[↓DD,UU,xA]
  refine⟨y,rfl,?_⟩
  have:=((hS.new f1 _).new f3 (.cells (Sc.enc (Sc.new sh c kk f)) 257 (0,0))).p1.tail
  unfold Sc.new good at this ⊢
  simp only[h1,h2,h3]at this ⊢
  exact this
theorem c_scturn (hp:t.many+1≤9223372036854775807) (h0:0≤t.many) (hd:t.dn=false) (hS:Sep (scB k t :: l) H) :
  CallP Tryz.prog W 256 #[.pointer (some ⟨k,0,none⟩)] H fun v H'=>v=.tuple #[]∧Sep (scB k t.turn :: l) H':=by
 refine CallP.of mixed Tryz.func256 tr256 (by show 1≤_;decide) fun W _=>?_
 have hk:=hS.look
 have r1:=fun o=>rd_of hk o
 have w1:w64 (t.many+1)=t.many+1:=w64_eq (by omega) hp
 simp only[hk,r1,Sc.enc,wrap_w64,w1,↓DD,UU,xA,xE,xG]
 refine draw_intro [(k,#[.int .i64 t.s.p,.int .i64 t.s.c,.int .i64 t.s.m,.int .i64 t.c,.int .i64 t.k,.int .i64 t.f,.int .i64 (t.many+1),.int .i64 0,.int .i64 0,.bool t.fd,.bool t.dn],[])] (by simp only[↓DD,UU]) ?_
 simp only[↓DD,UU,↓reduceIte,xA,xE,xG]
 exact hS.set (.cells (Sc.enc t.turn) 257 (0,0))
theorem c_scmiss (ht:t.wf) (hd:t.dn=false) (hS:Sep (scB k t :: l) H) :
  CallP Tryz.prog W 255 #[.pointer (some ⟨k,0,none⟩)] H fun v H'=>v=.tuple #[]∧Sep (scB k t.miss :: l) H':=by
 refine CallP.of mixed Tryz.func255 tr255 (by show 1≤_;decide) fun W _=>?_
 obtain⟨hm,c0,c1,f0,f1,m0,m1,i0,i1,n0,n1⟩:=ht.of hd
 have sb:=slots_bd t.k
 have ml:=(may_iff _ _ _).1 hm
 have hk:=hS.look
 have r1:=fun o=>rd_of hk o
 have w1:w64 (t.i+1)=t.i+1:=w64_eq (by omega) (by omega)
 have hS2:=hS.set (.cells (Sc.enc { t with i:=t.i+1,nx:=1 }) 257 (0,0))
 by_cases hi:t.i+1=slots t.k
 ·have e:t.miss=({ t with i:=t.i+1,nx:=1 }:Sc).turn:=by unfold Sc.miss;rw[if_pos hi]
  have hi':(t.i+1 == slots t.k)=true:=beq_iff_eq.2 hi
  rw[e]
  simp only[hk,r1,v_slots,hi',Sc.enc,wrap_w64,w1,↓DD,UU,↓reduceIte,xA,xE,xG]
  refine callT_of (c_scturn (t:={ t with i:=t.i+1,nx:=1 }) (by show t.many+1≤_;omega) m0 hd hS2) ?_
  rintro v H' ⟨rfl,hS⟩
  simp only[↓DD,UU]
  exact hS
 ·have e:t.miss = { t with i:=t.i+1,nx:=1 }:=by unfold Sc.miss;rw[if_neg hi]
  have hi':(t.i+1 == slots t.k)=false:=beq_eq_false_iff_ne.2 hi
  rw[e]
  simp only[hk,r1,v_slots,hi',Sc.enc,wrap_w64,w1,↓DD,UU,↓reduceIte,xA,xE,xG]
  exact hS2
def scC (k b s:Nat) (t:Sc) (w:Wd) (l:List Hp) (x:Int) (F':Fr) (H':Hp):Prop:=
 gt F' 0=.pointer (some ⟨k,0,none⟩)∧gt F' 7=.bool (okPg t.s t.pg x)∧∃ y,gt F' 6=.pointer (some ⟨y,0,none⟩) ∧
  Sep (scB k t :: wB b s w :: wR s w :: sg y (.cells #[.int .i64 (pgK t.s t.pg x),.int .i64 (pgA t.s t.pg x),.int .i64 (pgB t.s t.pg x)] 107 (0,0)) :: l) H'
theorem c_scstep (ht:t.wf) (hw:t.dn=false→w.of t.s) (hS:Sep (scB k t :: wB b s w :: wR s w :: l) H) :
  CallP Tryz.prog W 254 #[.pointer (some ⟨k,0,none⟩),.pointer (some ⟨b,0,none⟩)] H fun v H'=>v=.tuple #[]∧Sep (scB k (t.step w).1 :: wB b s (t.step w).2 :: wR s (t.step w).2 :: l) H':=by
 refine CallP.of mixed Tryz.func254 tr254 (by show 2≤_;decide) fun W _=>?_
 have hk:=hS.look
 have r1:=fun o=>rd_of hk o
 have r2:=fun o n=>rdn_of hk o n
 rcases Sc.step_cases t w with⟨hd,e⟩|⟨hd,hc⟩
 ·rw[e]
  simp only[r1,Sc.enc,hd,↓DD,UU,↓reduceIte,xA,xE]
  exact hS
 obtain⟨hm,c0,c1,f0,f1,m0,m1,i0,i1,n0,n1⟩:=ht.of hd
 have hw:=hw hd
 have ml:=(may_iff _ _ _).1 hm
 have sb:=slots_bd t.k
 have hpg:=mod_bd (a:=t.f+t.many) (p:=t.s.p) (by omega)
 obtain⟨q0,q1⟩:=page_in hw hm hpg.1 hpg.2
 obtain⟨s0,s1⟩:=slot_in hw hm hpg.1 hpg.2 i0 (j:=t.i) (by omega)
 simp only[r1,Sc.enc,hd,↓DD,UU,↓reduceIte,xA,xE]
 refine draw_intro [(k,Sc.enc t,[])] (by simp only[hk,↓DD,UU]) ?_
 simp only[r1,r2,Sc.enc,hd,↓DD,UU,↓reduceIte,xA,xC,xE,xF]
 refine callT_of (c_scpage (by omega) (by omega) (by omega) hS) ?_
 rintro v H' ⟨rfl,hS⟩
 have hk:=hS.look
 have r1:=fun o=>rd_of hk o
 have r2:=fun o n=>rdn_of hk o n
 have hu:U (w.get (page t.s.p t.s.c t.s.m t.pg)):=hw.u _
 simp only[hk,r1,v_slot,v_putsl,Sc.enc,hd,↓DD,UU,xA,xE]
 rcases hc with⟨hn,hh,e⟩|⟨hn,hh,e⟩|⟨hn,hh,e⟩|⟨hn,hh,e⟩|⟨hn,hn',hh,e⟩|⟨hn,hn',hh,e⟩<;>rw[e]
 ·have g0:(t.nx == 0)=true:=beq_iff_eq.2 hn
  simp only[g0,↓DD,UU]
  refine draw_cut [(k,Sc.enc t,[])] (scC k b s t (w.load t.c t.pat) l (w.get t.pat)) (by simp only[hk,↓DD,UU]) ?_ ?_
  ·simp only[r1,r2,Sc.enc,hd,↓e_dalt2,↓DD,UU,↓reduceIte,xA,xC,xE,xF]
   refine⟨?_,?_⟩
   ·refine callT_of (c_scpage (by omega) (by omega) (by omega) hS) ?_
    rintro v H' ⟨rfl,hS⟩
    have hk:=hS.look
    have r1:=fun o=>rd_of hk o
    have r2:=fun o n=>rdn_of hk o n
    simp only[hk,Sc.enc,hd,↓e_dalt2,↓DD,UU,xE]
    refine⟨?_,?_⟩
    ·refine callT_of (c_scpage (by omega) (by omega) (by omega) hS) ?_
     rintro v H' ⟨rfl,hS⟩
     have hk:=hS.look
     have r1:=fun o=>rd_of hk o
     have r2:=fun o n=>rdn_of hk o n
     simp only[hk,v_page,Sc.enc,hd,↓e_dalt2,↓DD,UU,xE]
     refine⟨⟨?_,?_⟩,?_⟩
     ·refine callT_of (c_load _ _ q0 q1 hS.p2.p2) ?_
      rintro v H' ⟨rfl,hS⟩
      have hS:=hS.p2
      have hk:=hS.look
      have r1:=fun o=>rd_of hk o
      have r2:=fun o n=>rdn_of hk o n
      simp only[hk,v_readpg t.s _ hu,Sc.enc,hd,↓e_dalt2,↓DD,UU,xE]
      refine⟨?_,?_⟩
      ·refine newB_intro fun y hy f3 f4=>?_
       have nky:(k=y)=False:=f3 k (by rw[hk];rfl)
       have nyk:(y=k)=False:=f4 k (by rw[hk];rfl)
       have hS:=(hS.new f3 (.cells #[.int .i64 (pgK t.s t.pg (w.get t.pat)),.int .i64 (pgA t.s t.pg (w.get t.pat)),.int .i64 (pgB t.s t.pg (w.get t.pat))] 107 (0,0))).r3
       simp only[hk,nky,Sc.enc,hd,↓DD,UU,↓reduceIte,xA,xE,xF]
       exact⟨rfl,rfl,y,rfl,hS⟩
      ·refine newB_intro fun y hy f3 f4=>?_
       have nky:(k=y)=False:=f3 k (by rw[hk];rfl)
       have nyk:(y=k)=False:=f4 k (by rw[hk];rfl)
       have hS:=(hS.new f3 (.cells #[.int .i64 (pgK t.s t.pg (w.get t.pat)),.int .i64 (pgA t.s t.pg (w.get t.pat)),.int .i64 (pgB t.s t.pg (w.get t.pat))] 107 (0,0))).r3
       simp only[hk,nky,v_readpg t.s _ hu,Sc.enc,hd,↓DD,UU,↓reduceIte,xA,xE,xF]
       exact⟨rfl,rfl,y,rfl,hS⟩
     ·refine newB_intro fun y hy f3 f4=>?_
      have nky:(k=y)=False:=f3 k (by rw[hk];rfl)
      have nyk:(y=k)=False:=f4 k (by rw[hk];rfl)
      have hS:=(hS.new f3 (.cells #[.int .i64 0,.int .i64 0,.int .i64 0] 107 (0,0))).r3
      have hk:=hS.look
      have r1:=fun o=>rd_of hk o
      have r2:=fun o n=>rdn_of hk o n
      have hy1:=hS.lk 3 rfl
      simp only[hk,Sc.enc,hd,↓DD,UU,xE]
      refine callT_of (c_load _ _ q0 q1 hS.p2.p2) ?_
      rintro v H' ⟨rfl,hS⟩
      have hS:=hS.p2
      have hk:=hS.look
      have r1:=fun o=>rd_of hk o
      have r2:=fun o n=>rdn_of hk o n
      have hy1:=hS.lk 3 rfl
      simp only[hk,hy1,nky,v_readpg t.s _ hu,Sc.enc,hd,↓DD,UU,↓reduceIte,xA,xE,xF]
      exact⟨rfl,rfl,y,rfl,(hS.p3.set _).r3⟩
     ·refine newB_intro fun y hy f3 f4=>?_
      have nky:(k=y)=False:=f3 k (by rw[hk];rfl)
      have nyk:(y=k)=False:=f4 k (by rw[hk];rfl)
      have hS:=(hS.new f3 (.cells #[.int .i64 0,.int .i64 0,.int .i64 0] 107 (0,0))).r3
      have hk:=hS.look
      have r1:=fun o=>rd_of hk o
      have r2:=fun o n=>rdn_of hk o n
      have hy1:=hS.lk 3 rfl
      simp only[hk,v_page,Sc.enc,hd,↓DD,UU,xE]
      refine callT_of (c_load _ _ q0 q1 hS.p2.p2) ?_
      rintro v H' ⟨rfl,hS⟩
      have hS:=hS.p2
      have hk:=hS.look
      have r1:=fun o=>rd_of hk o
      have r2:=fun o n=>rdn_of hk o n
      have hy1:=hS.lk 3 rfl
      simp only[hk,hy1,nky,v_readpg t.s _ hu,Sc.enc,hd,↓DD,UU,↓reduceIte,xA,xE,xF]
      exact⟨rfl,rfl,y,rfl,(hS.p3.set _).r3⟩
    ·refine newB_intro fun y hy f3 f4=>?_
     have nky:(k=y)=False:=f3 k (by rw[hk];rfl)
     have nyk:(y=k)=False:=f4 k (by rw[hk];rfl)
     have hS:=(hS.new f3 (.cells #[.int .i64 0,.int .i64 0,.int .i64 0] 107 (0,0))).r3
     have hk:=hS.look
     have r1:=fun o=>rd_of hk o
     have r2:=fun o n=>rdn_of hk o n
     have hy1:=hS.lk 3 rfl
     simp only[hk,Sc.enc,hd,↓DD,UU,xE]
     refine callT_of (c_scpage (by omega) (by omega) (by omega) hS) ?_
     rintro v H' ⟨rfl,hS⟩
     have hk:=hS.look
     have r1:=fun o=>rd_of hk o
     have r2:=fun o n=>rdn_of hk o n
     have hy1:=hS.lk 3 rfl
     simp only[hk,v_page,Sc.enc,hd,↓DD,UU,xE]
     refine callT_of (c_load _ _ q0 q1 hS.p2.p2) ?_
     rintro v H' ⟨rfl,hS⟩
     have hS:=hS.p2
     have hk:=hS.look
     have r1:=fun o=>rd_of hk o
     have r2:=fun o n=>rdn_of hk o n
     have hy1:=hS.lk 3 rfl
     simp only[hk,hy1,nky,v_readpg t.s _ hu,Sc.enc,hd,↓DD,UU,↓reduceIte,xA,xE,xF]
     exact⟨rfl,rfl,y,rfl,(hS.p3.set _).r3⟩
   ·refine newB_intro fun y hy f3 f4=>?_
    have nky:(k=y)=False:=f3 k (by rw[hk];rfl)
    have nyk:(y=k)=False:=f4 k (by rw[hk];rfl)
    have hS:=(hS.new f3 (.cells #[.int .i64 0,.int .i64 0,.int .i64 0] 107 (0,0))).r3
    have hk:=hS.look
    have r1:=fun o=>rd_of hk o
    have r2:=fun o n=>rdn_of hk o n
    have hy1:=hS.lk 3 rfl
    simp only[hk,Sc.enc,hd,↓DD,UU,xE]
    refine callT_of (c_scpage (by omega) (by omega) (by omega) hS) ?_
    rintro v H' ⟨rfl,hS⟩
    have hk:=hS.look
    have r1:=fun o=>rd_of hk o
    have r2:=fun o n=>rdn_of hk o n
    have hy1:=hS.lk 3 rfl
    simp only[hk,Sc.enc,hd,↓DD,UU,xE]
    refine callT_of (c_scpage (by omega) (by omega) (by omega) hS) ?_
    rintro v H' ⟨rfl,hS⟩
    have hk:=hS.look
    have r1:=fun o=>rd_of hk o
    have r2:=fun o n=>rdn_of hk o n
    have hy1:=hS.lk 3 rfl
    simp only[hk,v_page,Sc.enc,hd,↓DD,UU,xE]
    refine callT_of (c_load _ _ q0 q1 hS.p2.p2) ?_
    rintro v H' ⟨rfl,hS⟩
    have hS:=hS.p2
    have hk:=hS.look
    have r1:=fun o=>rd_of hk o
    have r2:=fun o n=>rdn_of hk o n
    have hy1:=hS.lk 3 rfl
    simp only[hk,hy1,nky,v_readpg t.s _ hu,Sc.enc,hd,↓DD,UU,↓reduceIte,xA,xE,xF]
    exact⟨rfl,rfl,y,rfl,(hS.p3.set _).r3⟩
  ·rintro F' H' ⟨e0,e7,y,e6,hS⟩
   simp only[Sc.mine,Bool.and_eq_true,decide_eq_true_eq]at hh
   have h1:okPg t.s t.pg (w.get t.pat)=true:=hh.1.1
   have h2:(pgK t.s t.pg (w.get t.pat) == 2)=true:=beq_iff_eq.2 hh.1.2
   have h3:(pgA t.s t.pg (w.get t.pat) == t.k)=true:=beq_iff_eq.2 hh.2
   have hk:=hS.look
   have hy1:=hS.lk 3 rfl
   have r1:=fun o=>rd_of hk o
   have r3:=fun o=>rd_of hy1 o
   simp only[e0,e7,e6,hk,r1,r3,h1,h2,h3,Sc.enc,hd,↓DD,UU,xA,xE,xG]
   have:=hS.set (.cells (Sc.enc { t with nx:=1 }) 257 (0,0))
   unfold Sc.enc at this
   simp only[hd]at this
   exact this.p3.tail
 ·have g0:(t.nx == 0)=true:=beq_iff_eq.2 hn
  simp only[g0,↓DD,UU]
  refine draw_cut [(k,Sc.enc t,[])] (scC k b s t (w.load t.c t.pat) l (w.get t.pat)) (by simp only[hk,↓DD,UU]) ?_ ?_
  ·simp only[r1,r2,Sc.enc,hd,↓e_dalt2,↓DD,UU,↓reduceIte,xA,xC,xE,xF]
   refine⟨?_,?_⟩
   ·refine callT_of (c_scpage (by omega) (by omega) (by omega) hS) ?_
    rintro v H' ⟨rfl,hS⟩
    have hk:=hS.look
    have r1:=fun o=>rd_of hk o
    have r2:=fun o n=>rdn_of hk o n
    simp only[hk,Sc.enc,hd,↓e_dalt2,↓DD,UU,xE]
    refine⟨?_,?_⟩
    ·refine callT_of (c_scpage (by omega) (by omega) (by omega) hS) ?_
     rintro v H' ⟨rfl,hS⟩
     have hk:=hS.look
     have r1:=fun o=>rd_of hk o
     have r2:=fun o n=>rdn_of hk o n
     simp only[hk,v_page,Sc.enc,hd,↓e_dalt2,↓DD,UU,xE]
     refine⟨⟨?_,?_⟩,?_⟩
     ·refine callT_of (c_load _ _ q0 q1 hS.p2.p2) ?_
      rintro v H' ⟨rfl,hS⟩
      have hS:=hS.p2
      have hk:=hS.look
      have r1:=fun o=>rd_of hk o
      have r2:=fun o n=>rdn_of hk o n
      simp only[hk,v_readpg t.s _ hu,Sc.enc,hd,↓e_dalt2,↓DD,UU,xE]
      refine⟨?_,?_⟩
      ·refine newB_intro fun y hy f3 f4=>?_
       have nky:(k=y)=False:=f3 k (by rw[hk];rfl)
       have nyk:(y=k)=False:=f4 k (by rw[hk];rfl)
       have hS:=(hS.new f3 (.cells #[.int .i64 (pgK t.s t.pg (w.get t.pat)),.int .i64 (pgA t.s t.pg (w.get t.pat)),.int .i64 (pgB t.s t.pg (w.get t.pat))] 107 (0,0))).r3
       simp only[hk,nky,Sc.enc,hd,↓DD,UU,↓reduceIte,xA,xE,xF]
       exact⟨rfl,rfl,y,rfl,hS⟩
      ·refine newB_intro fun y hy f3 f4=>?_
       have nky:(k=y)=False:=f3 k (by rw[hk];rfl)
       have nyk:(y=k)=False:=f4 k (by rw[hk];rfl)
       have hS:=(hS.new f3 (.cells #[.int .i64 (pgK t.s t.pg (w.get t.pat)),.int .i64 (pgA t.s t.pg (w.get t.pat)),.int .i64 (pgB t.s t.pg (w.get t.pat))] 107 (0,0))).r3
       simp only[hk,nky,v_readpg t.s _ hu,Sc.enc,hd,↓DD,UU,↓reduceIte,xA,xE,xF]
       exact⟨rfl,rfl,y,rfl,hS⟩
     ·refine newB_intro fun y hy f3 f4=>?_
      have nky:(k=y)=False:=f3 k (by rw[hk];rfl)
      have nyk:(y=k)=False:=f4 k (by rw[hk];rfl)
      have hS:=(hS.new f3 (.cells #[.int .i64 0,.int .i64 0,.int .i64 0] 107 (0,0))).r3
      have hk:=hS.look
      have r1:=fun o=>rd_of hk o
      have r2:=fun o n=>rdn_of hk o n
      have hy1:=hS.lk 3 rfl
      simp only[hk,Sc.enc,hd,↓DD,UU,xE]
      refine callT_of (c_load _ _ q0 q1 hS.p2.p2) ?_
      rintro v H' ⟨rfl,hS⟩
      have hS:=hS.p2
      have hk:=hS.look
      have r1:=fun o=>rd_of hk o
      have r2:=fun o n=>rdn_of hk o n
      have hy1:=hS.lk 3 rfl
      simp only[hk,hy1,nky,v_readpg t.s _ hu,Sc.enc,hd,↓DD,UU,↓reduceIte,xA,xE,xF]
      exact⟨rfl,rfl,y,rfl,(hS.p3.set _).r3⟩
     ·refine newB_intro fun y hy f3 f4=>?_
      have nky:(k=y)=False:=f3 k (by rw[hk];rfl)
      have nyk:(y=k)=False:=f4 k (by rw[hk];rfl)
      have hS:=(hS.new f3 (.cells #[.int .i64 0,.int .i64 0,.int .i64 0] 107 (0,0))).r3
      have hk:=hS.look
      have r1:=fun o=>rd_of hk o
      have r2:=fun o n=>rdn_of hk o n
      have hy1:=hS.lk 3 rfl
      simp only[hk,v_page,Sc.enc,hd,↓DD,UU,xE]
      refine callT_of (c_load _ _ q0 q1 hS.p2.p2) ?_
      rintro v H' ⟨rfl,hS⟩
      have hS:=hS.p2
      have hk:=hS.look
      have r1:=fun o=>rd_of hk o
      have r2:=fun o n=>rdn_of hk o n
      have hy1:=hS.lk 3 rfl
      simp only[hk,hy1,nky,v_readpg t.s _ hu,Sc.enc,hd,↓DD,UU,↓reduceIte,xA,xE,xF]
      exact⟨rfl,rfl,y,rfl,(hS.p3.set _).r3⟩
    ·refine newB_intro fun y hy f3 f4=>?_
     have nky:(k=y)=False:=f3 k (by rw[hk];rfl)
     have nyk:(y=k)=False:=f4 k (by rw[hk];rfl)
     have hS:=(hS.new f3 (.cells #[.int .i64 0,.int .i64 0,.int .i64 0] 107 (0,0))).r3
     have hk:=hS.look
     have r1:=fun o=>rd_of hk o
     have r2:=fun o n=>rdn_of hk o n
     have hy1:=hS.lk 3 rfl
     simp only[hk,Sc.enc,hd,↓DD,UU,xE]
     refine callT_of (c_scpage (by omega) (by omega) (by omega) hS) ?_
     rintro v H' ⟨rfl,hS⟩
     have hk:=hS.look
     have r1:=fun o=>rd_of hk o
     have r2:=fun o n=>rdn_of hk o n
     have hy1:=hS.lk 3 rfl
     simp only[hk,v_page,Sc.enc,hd,↓DD,UU,xE]
     refine callT_of (c_load _ _ q0 q1 hS.p2.p2) ?_
     rintro v H' ⟨rfl,hS⟩
     have hS:=hS.p2
     have hk:=hS.look
     have r1:=fun o=>rd_of hk o
     have r2:=fun o n=>rdn_of hk o n
     have hy1:=hS.lk 3 rfl
     simp only[hk,hy1,nky,v_readpg t.s _ hu,Sc.enc,hd,↓DD,UU,↓reduceIte,xA,xE,xF]
     exact⟨rfl,rfl,y,rfl,(hS.p3.set _).r3⟩
   ·refine newB_intro fun y hy f3 f4=>?_
    have nky:(k=y)=False:=f3 k (by rw[hk];rfl)
    have nyk:(y=k)=False:=f4 k (by rw[hk];rfl)
    have hS:=(hS.new f3 (.cells #[.int .i64 0,.int .i64 0,.int .i64 0] 107 (0,0))).r3
    have hk:=hS.look
    have r1:=fun o=>rd_of hk o
    have r2:=fun o n=>rdn_of hk o n
    have hy1:=hS.lk 3 rfl
    simp only[hk,Sc.enc,hd,↓DD,UU,xE]
    refine callT_of (c_scpage (by omega) (by omega) (by omega) hS) ?_
    rintro v H' ⟨rfl,hS⟩
    have hk:=hS.look
    have r1:=fun o=>rd_of hk o
    have r2:=fun o n=>rdn_of hk o n
    have hy1:=hS.lk 3 rfl
    simp only[hk,Sc.enc,hd,↓DD,UU,xE]
    refine callT_of (c_scpage (by omega) (by omega) (by omega) hS) ?_
    rintro v H' ⟨rfl,hS⟩
    have hk:=hS.look
    have r1:=fun o=>rd_of hk o
    have r2:=fun o n=>rdn_of hk o n
    have hy1:=hS.lk 3 rfl
    simp only[hk,v_page,Sc.enc,hd,↓DD,UU,xE]
    refine callT_of (c_load _ _ q0 q1 hS.p2.p2) ?_
    rintro v H' ⟨rfl,hS⟩
    have hS:=hS.p2
    have hk:=hS.look
    have r1:=fun o=>rd_of hk o
    have r2:=fun o n=>rdn_of hk o n
    have hy1:=hS.lk 3 rfl
    simp only[hk,hy1,nky,v_readpg t.s _ hu,Sc.enc,hd,↓DD,UU,↓reduceIte,xA,xE,xF]
    exact⟨rfl,rfl,y,rfl,(hS.p3.set _).r3⟩
  ·rintro F' H' ⟨e0,e7,y,e6,hS⟩
   simp only[Sc.mine,Bool.and_eq_false_iff,decide_eq_false_iff_not]at hh
   have hk:=hS.look
   have hy1:=hS.lk 3 rfl
   have r1:=fun o=>rd_of hk o
   have r3:=fun o=>rd_of hy1 o
   cases h1:okPg t.s t.pg (w.get t.pat)
   ·simp only[e0,e7,h1,↓DD,UU,xE]
    refine callT_of (c_scturn (by omega) m0 hd hS) ?_
    rintro v H' ⟨rfl,hS⟩
    simp only[↓DD,UU]
    exact hS.p3.tail
   ·cases h2:(pgK t.s t.pg (w.get t.pat) == 2)
    ·simp only[e0,e7,e6,r3,h1,h2,↓DD,UU,xE]
     refine callT_of (c_scturn (by omega) m0 hd hS) ?_
     rintro v H' ⟨rfl,hS⟩
     simp only[↓DD,UU]
     exact hS.p3.tail
    ·have h3:(pgA t.s t.pg (w.get t.pat) == t.k)=false:=by
      refine beq_eq_false_iff_ne.2 ?_
      rcases hh with(h | h) | h
      ·rw[h1]at h;cases h
      ·exact absurd (beq_iff_eq.1 h2) h
      ·exact h
     simp only[e0,e7,e6,r1,r3,h1,h2,h3,Sc.enc,hd,↓DD,UU,xE]
     refine callT_of (c_scturn (by omega) m0 hd hS) ?_
     rintro v H' ⟨rfl,hS⟩
     simp only[↓DD,UU]
     exact hS.p3.tail
 ·have g0:(t.nx == 0)=false:=beq_eq_false_iff_ne.2 (by omega)
  have g1:(t.nx == 1)=true:=beq_iff_eq.2 hn
  have g2:(w.get (slot t.s.p t.s.c t.s.m t.pg t.i) == putSl 1 t.k)=true:=beq_iff_eq.2 hh
  simp only[r1,g0,g1,Sc.enc,hd,↓DD,UU,xE]
  refine callT_of (c_load _ _ s0 s1 hS.p2.p2) ?_
  rintro v H' ⟨rfl,hS⟩
  have hS:=hS.p2
  have hk:=hS.look
  have r1:=fun o=>rd_of hk o
  simp only[hk,g2,Sc.enc,hd,↓DD,UU,xA,xE,xG]
  have:=hS.set (.cells (Sc.enc { t with nx:=2 }) 257 (0,0))
  unfold Sc.enc at this
  simp only[hd]at this
  unfold scB Sc.enc
  exact this
 ·have g0:(t.nx == 0)=false:=beq_eq_false_iff_ne.2 (by omega)
  have g1:(t.nx == 1)=true:=beq_iff_eq.2 hn
  have g2:(w.get (slot t.s.p t.s.c t.s.m t.pg t.i) == putSl 1 t.k)=false:=beq_eq_false_iff_ne.2 hh
  simp only[r1,g0,g1,Sc.enc,hd,↓DD,UU,xE]
  refine callT_of (c_load _ _ s0 s1 hS.p2.p2) ?_
  rintro v H' ⟨rfl,hS⟩
  have hS:=hS.p2
  simp only[g2,↓DD,UU,xE]
  refine callT_of (c_scmiss ht hd hS) ?_
  rintro v H' ⟨rfl,hS⟩
  simp only[↓DD,UU]
  exact hS
 ·have g0:(t.nx == 0)=false:=beq_eq_false_iff_ne.2 hn
  have g1:(t.nx == 1)=false:=beq_eq_false_iff_ne.2 hn'
  have g3:(t.nx == 2)=true:=beq_iff_eq.2 (by omega)
  have g2:(w.get (slot t.s.p t.s.c t.s.m t.pg t.i) == putSl 1 t.k)=true:=beq_iff_eq.2 hh
  simp only[g0,g1,g3,↓DD,UU,xE]
  refine draw_intro [(k,Sc.enc t,[])] (by simp only[hk,↓DD,UU]) ?_
  simp only[hk,r1,v_putsl,Sc.enc,hd,↓DD,UU,↓reduceIte,xA,xE]
  refine callT_of (c_swap _ _ _ _ s0 s1 hS.p2.p2) ?_
  rintro v H' ⟨rfl,hS⟩
  have hS:=hS.p2
  have hk:=hS.look
  have r1:=fun o=>rd_of hk o
  simp only[hk,g2,Sc.enc,hd,↓DD,UU,xA,xE,xG]
  exact hS.set (.cells (Sc.enc { t with fd:=true,dn:=true }) 257 (0,0))
 ·have g0:(t.nx == 0)=false:=beq_eq_false_iff_ne.2 hn
  have g1:(t.nx == 1)=false:=beq_eq_false_iff_ne.2 hn'
  have g3:(t.nx == 2)=true:=beq_iff_eq.2 (by omega)
  have g2:(w.get (slot t.s.p t.s.c t.s.m t.pg t.i) == putSl 1 t.k)=false:=beq_eq_false_iff_ne.2 hh
  simp only[g0,g1,g3,↓DD,UU,xE]
  refine draw_intro [(k,Sc.enc t,[])] (by simp only[hk,↓DD,UU]) ?_
  simp only[hk,r1,v_putsl,Sc.enc,hd,↓DD,UU,↓reduceIte,xA,xE]
  refine callT_of (c_swap _ _ _ _ s0 s1 hS.p2.p2) ?_
  rintro v H' ⟨rfl,hS⟩
  have hS:=hS.p2
  have hk:=hS.look
  have r1:=fun o=>rd_of hk o
  simp only[g2,↓DD,UU,xE]
  refine callT_of (c_scmiss ht hd hS) ?_
  rintro v H' ⟨rfl,hS⟩
  simp only[↓DD,UU]
  exact hS
end

end Go.Proofs.YtkjpgikjcfhckaaGreat
