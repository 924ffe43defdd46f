/-
 Who gives a block back: the program's machine. Conditions: none.
-/
import Derived.Test.YtkjpgikjcfhckaaGreatCodeY
import Derived.Test.YtkjpgikjcfhckaaGreatMag
import Derived.Test.YtkjpgikjcfhckaaGreatMaB
open Nat renaming reduceAdd→xA,reduceMul→xB,reduceSub→xC,reduceEqDiff→xD,reduceBEq→xE,reduceLeDiff→xF,reduceLT→xG
open Int renaming reduceAdd→xH,reduceMul→xI,reduceSub→xJ,reduceLT→xK,reduceLE→xL,reduceToNat→xM,reduceEq→xN,reduceNe→xO,reduceBEq→xP,reduceBNe→xQ
set_option linter.unusedVariables false
set_option linter.unusedSimpArgs false
set_option maxRecDepth 8000
namespace Go.Proofs.YtkjpgikjcfhckaaGreat
open Go Go.Ev Go.Pl Go.Ma

def ptO (k:Nat):Option Pu→Value
 | none=>.pointer none
 | some _=>.pointer (some ⟨k,0,none⟩)
def puO (k:Nat):Option Pu→Hp
 | none=>fun _=>none
 | some p=>puB k p
def Gv.enc (kp:Nat) (t:Gv):Array Value:=#[.int .i64 t.s.p,.int .i64 t.s.c,.int .i64 t.s.m,.int .i64 t.c,.int .i64 t.a,.int .i64 t.pg,.int .i64 t.sl,.int .u64 t.wd,.int .i64 t.pK,.int .i64 t.pA,.int .i64 t.pB,.int .i64 t.nx,.int .i64 t.i,ptO kp t.put,.bool t.gv,.bool t.dn]
def gvB (k kp:Nat) (t:Gv):Hp:=sg k (.cells (Gv.enc kp t) 216 (0,0))

section
variable {W:World} {H:Hp} {k kp b s:Nat} {t:Gv} {w:Wd} {l:List Hp}

theorem c_gvdone (hS:Sep (gvB k kp t :: l) H) :
  CallP Tryz.prog W 142 #[.pointer (some ⟨k,0,none⟩)] H fun v H'=>v=.bool t.dn∧Sep (gvB k kp t :: l) H':=by
 refine CallP.of mixed Tryz.func142 tr142 (by show 1≤_;decide) fun W _=>?_
 have hk:=hS.look
 have r1:=fun o=>rd_of hk o
 simp only[r1,Gv.enc,↓DD,UU,↓reduceIte,xE]
 exact hS
theorem c_gvgave (hS:Sep (gvB k kp t :: l) H) :
  CallP Tryz.prog W 143 #[.pointer (some ⟨k,0,none⟩)] H fun v H'=>v=.bool t.gv∧Sep (gvB k kp t :: l) H':=by
 refine CallP.of mixed Tryz.func143 tr143 (by show 1≤_;decide) fun W _=>?_
 have hk:=hS.look
 have r1:=fun o=>rd_of hk o
 simp only[r1,Gv.enc,↓DD,UU,↓reduceIte,xE]
 exact hS
theorem c_gvnew {sh:Sh} {c a:Int} (hS:Sep l H) :
  CallP Tryz.prog W 116 #[.agg #[.int .i64 sh.p,.int .i64 sh.c,.int .i64 sh.m],.int .i64 c,.int .i64 a] H fun v H'=>∃ k,v=.pointer (some ⟨k,0,none⟩)∧Sep (gvB k 0 (Gv.new sh c a) :: l) H':=by
 refine CallP.of mixed Tryz.func116 tr116 (by show 3≤_;decide) fun W _=>?_
 simp only[↓DD,UU,xA]
 refine newB_intro fun x hx f1 f2=>?_
 have hS:=hS.new f1 (.cells #[.int .i64 sh.p,.int .i64 sh.c,.int .i64 sh.m] 23 (0,0))
 have hx1:=hS.look
 have r1:=fun o=>rd_of hx1 o
 have r2:=fun o n=>rdn_of hx1 o n
 cases h1:there sh.p sh.c sh.m a<;>cases h2:decide (status sh.p sh.c sh.m c<0)
 all_goals
  simp only[r2,v_split,h1,↓DD,UU,↓reduceIte,xA,xC,xE,xF]
  refine draw_intro [(x,#[.int .i64 sh.p,.int .i64 sh.c,.int .i64 sh.m],[])] (by simp only[hx1,↓DD,UU]) ?_
  simp only[hx1,r2,v_status,h2,↓DD,UU,↓reduceIte,xA,xC,xE,xF]
  refine newB_intro fun y hy f3 f4=>?_
  have nxy:(x=y)=False:=f3 x (by rw[hx1];rfl)
  have nyx:(y=x)=False:=f4 x (by rw[hx1];rfl)
  simp only[hx1,nxy,↓DD,UU,↓reduceIte]
  refine⟨y,rfl,?_⟩
  have:=(hS.new f3 (.cells (Gv.enc 0 (Gv.new sh c a)) 216 (0,0))).p1.tail
  unfold Gv.new at this ⊢
  unfold Gv.enc ptO at this
  unfold gvB Gv.enc ptO
  simp only[h1,h2]at this ⊢
  exact this
def gvC (k kp b s:Nat) (t:Gv) (w:Wd) (l:List Hp) (F':Fr) (H':Hp):Prop:=
 gt F' 0=.pointer (some ⟨k,0,none⟩)∧gt F' 5=.int .i64 t.off∧gt F' 8=.bool (okPg t.s t.pg (w.get t.pat))∧∃ y,gt F' 7=.pointer (some ⟨y,0,none⟩) ∧
  Sep (gvB k kp { t with wd:=w.get t.pat } :: wB b s (w.load t.c t.pat) :: wR s (w.load t.c t.pat) :: sg y (.cells #[.int .i64 (pgK t.s t.pg (w.get t.pat)),.int .i64 (pgA t.s t.pg (w.get t.pat)),.int .i64 (pgB t.s t.pg (w.get t.pat))] 107 (0,0)) :: l) H'
theorem c_gvlook (hm:may t.s.p t.s.c t.s.m=true) (hth:there t.s.p t.s.c t.s.m t.a=true) (hp0:0≤t.pg) (hp1:t.pg<t.s.p) (hw:w.of t.s) (hS:Sep (gvB k kp t :: wB b s w :: wR s w :: l) H) :
  CallP Tryz.prog W 215 #[.pointer (some ⟨k,0,none⟩),.pointer (some ⟨b,0,none⟩)] H fun v H'=>v=.tuple #[]∧Sep (gvB k kp (t.look w) :: wB b s (w.load t.c t.pat) :: wR s (w.load t.c t.pat) :: l) H':=by
 refine CallP.of mixed Tryz.func215 tr215 (by show 2≤_;decide) fun W _=>?_
 have hk:=hS.look
 have r1:=fun o=>rd_of hk o
 have r2:=fun o n=>rdn_of hk o n
 obtain⟨q0,q1⟩:=page_in hw hm hp0 hp1
 have hu:U (w.get (page t.s.p t.s.c t.s.m t.pg)):=hw.u _
 simp only[r1,r2,v_split,Gv.enc,↓DD,UU,↓reduceIte,xA,xC,xE,xF]
 refine draw_intro [(k,Gv.enc kp t,[])] (by simp only[hk,↓DD,UU]) ?_
 simp only[hk,r1,r2,v_page,Gv.enc,↓DD,UU,↓reduceIte,xA,xC,xE,xF]
 refine callT_of (c_load _ _ q0 q1 hS.p2.p2) ?_
 rintro v H' ⟨rfl,hS⟩
 have hS:=hS.p2
 have hk:=hS.look
 have r1:=fun o=>rd_of hk o
 have r2:=fun o n=>rdn_of hk o n
 simp only[hk,Gv.enc,↓DD,UU,xA,xE,xG]
 have hS:=hS.set (.cells (Gv.enc kp { t with wd:=(w.get (page t.s.p t.s.c t.s.m t.pg)) }) 216 (0,0))
 have hk:=hS.look
 have r1:=fun o=>rd_of hk o
 have r2:=fun o n=>rdn_of hk o n
 refine draw_cut [(k,Gv.enc kp { t with wd:=(w.get (page t.s.p t.s.c t.s.m t.pg)) },[])] (gvC k kp b s t w l) (by simp only[Gv.enc,↓DD,UU]) ?_ ?_
 ·simp only[v_readpg t.s _ hu,Gv.enc,↓e_dalt2,↓DD,UU,↓reduceIte,xA,xC,xE,xF]
  refine⟨?_,?_⟩
  ·refine newB_intro fun y hy f3 f4=>?_
   have nky:(k=y)=False:=f3 k (by simp [upd])
   have nyk:(y=k)=False:=f4 k (by simp [upd])
   have hS:=(hS.new f3 (.cells #[.int .i64 (pgK t.s t.pg (w.get (page t.s.p t.s.c t.s.m t.pg))),.int .i64 (pgA t.s t.pg (w.get (page t.s.p t.s.c t.s.m t.pg))),.int .i64 (pgB t.s t.pg (w.get (page t.s.p t.s.c t.s.m t.pg)))] 107 (0,0))).r3
   simp only[nky,Ev.upd_upd,↓DD,UU,↓reduceIte,xA,xE,xF]
   exact⟨rfl,rfl,rfl,y,rfl,hS⟩
  ·refine newB_intro fun y hy f3 f4=>?_
   have nky:(k=y)=False:=f3 k (by simp [upd])
   have nyk:(y=k)=False:=f4 k (by simp [upd])
   have hS:=(hS.new f3 (.cells #[.int .i64 (pgK t.s t.pg (w.get (page t.s.p t.s.c t.s.m t.pg))),.int .i64 (pgA t.s t.pg (w.get (page t.s.p t.s.c t.s.m t.pg))),.int .i64 (pgB t.s t.pg (w.get (page t.s.p t.s.c t.s.m t.pg)))] 107 (0,0))).r3
   simp only[nky,v_readpg t.s _ hu,Ev.upd_upd,↓DD,UU,↓reduceIte,xA,xE,xF]
   exact⟨rfl,rfl,rfl,y,rfl,hS⟩
 ·rintro F' H' ⟨e0,e5,e8,y,e7,hS⟩
  have hk:=hS.look
  have r1:=fun o=>rd_of hk o
  have r2:=fun o n=>rdn_of hk o n
  have hy1:=hS.lk 3 rfl
  have ry:=fun o=>rd_of hy1 o
  have ryn:=fun o n=>rdn_of hy1 o n
  have nky:=hS.neq 0 3 (by decide) rfl rfl
  have nyk:=hS.qen 0 3 (by decide) rfl rfl
  have hob:=Gv.off_bd hth
  cases ho:okPg t.s t.pg (w.get t.pat)
  ·have e:t.look w = { t.read w with dn:=true }:=by unfold Gv.look Gv.isL Gv.isS;rw[ho];rfl
   rw[ho]at e8
   simp only[hk,ryn,e0,e7,e8,Ev.upd_upd,Gv.enc,↓DD,UU,↓reduceIte,xA,xC,xE,xF,xG]
   rw[e]
   exact(hS.set (.cells (Gv.enc kp { t.read w with dn:=true }) 216 (0,0))).p3.tail
  rw[ho]at e8
  by_cases k3:pgK t.s t.pg (w.get t.pat)=3
  ·have g3:(pgK t.s t.pg (w.get t.pat) == 3)=true:=beq_iff_eq.2 k3
   have g2:(pgK t.s t.pg (w.get t.pat) == 2)=false:=beq_eq_false_iff_ne.2 (by omega)
   by_cases o0:t.off=0
   ·have e:t.look w = { t.read w with ms:=true }:=by unfold Gv.look;rw[if_pos (by unfold Gv.isL;rw[ho,decide_eq_true k3,decide_eq_true o0];rfl)]
    have g0:(t.off == 0)=true:=beq_iff_eq.2 o0
    simp only[hk,ry,ryn,e0,e5,e7,e8,nyk,Ev.upd_upd,Gv.enc,g3,g0,↓DD,UU,↓reduceIte,xA,xC,xE,xF,xG]
    rw[e]
    exact(hS.set (.cells (Gv.enc kp { t.read w with ms:=true }) 216 (0,0))).p3.tail
   ·have e:t.look w = { t.read w with dn:=true }:=by
     unfold Gv.look
     rw[if_neg (by unfold Gv.isL;rw[decide_eq_false o0];simp),if_neg (by unfold Gv.isS;rw[decide_eq_false (by omega:¬ pgK t.s t.pg (w.get t.pat)=2)];simp)]
    have g0:(t.off == 0)=false:=beq_eq_false_iff_ne.2 o0
    simp only[hk,ry,ryn,e0,e5,e7,e8,nyk,Ev.upd_upd,Gv.enc,g3,g2,g0,↓DD,UU,↓reduceIte,xA,xC,xE,xF,xG]
    rw[e]
    exact(hS.set (.cells (Gv.enc kp { t.read w with dn:=true }) 216 (0,0))).p3.tail
  have g3:(pgK t.s t.pg (w.get t.pat) == 3)=false:=beq_eq_false_iff_ne.2 k3
  have nL:t.isL w=false:=by unfold Gv.isL;rw[decide_eq_false k3];simp
  by_cases k2:pgK t.s t.pg (w.get t.pat)=2
  ·have g2:(pgK t.s t.pg (w.get t.pat) == 2)=true:=beq_iff_eq.2 k2
   have hA:=Gv.ok_super ho k2
   have hz:4≤size (pgA t.s t.pg (w.get t.pat))∧size (pgA t.s t.pg (w.get t.pat))≤32:=by
    rcases (by omega:pgA t.s t.pg (w.get t.pat)=0∨pgA t.s t.pg (w.get t.pat)=1∨pgA t.s t.pg (w.get t.pat)=2∨pgA t.s t.pg (w.get t.pat)=3) with h | h | h | h<;>rw[h]<;>decide
   have z0:(size (pgA t.s t.pg (w.get t.pat))=0)=False:=eq_false (by omega)
   have tm:t.off.tmod (size (pgA t.s t.pg (w.get t.pat)))=t.off % size (pgA t.s t.pg (w.get t.pat)):=Int.tmod_eq_emod_of_nonneg hob.1
   have td:t.off.tdiv (size (pgA t.s t.pg (w.get t.pat)))=t.off / size (pgA t.s t.pg (w.get t.pat)):=Int.tdiv_eq_ediv_of_nonneg hob.1
   have b1:=Int.emod_nonneg t.off (by omega:size (pgA t.s t.pg (w.get t.pat))≠0)
   have b2:=Int.emod_lt_of_pos t.off (by omega:0<size (pgA t.s t.pg (w.get t.pat)))
   have b3:0≤t.off / size (pgA t.s t.pg (w.get t.pat)):=Int.ediv_nonneg hob.1 (by omega)
   have b4:t.off / size (pgA t.s t.pg (w.get t.pat))≤t.off:=Int.ediv_le_self _ hob.1
   have wm:w64 (t.off % size (pgA t.s t.pg (w.get t.pat)))=t.off % size (pgA t.s t.pg (w.get t.pat)):=w64_eq (by omega) (by omega)
   have wd:w64 (t.off / size (pgA t.s t.pg (w.get t.pat)))=t.off / size (pgA t.s t.pg (w.get t.pat)):=w64_eq (by omega) (by omega)
   by_cases o0:t.off % size (pgA t.s t.pg (w.get t.pat))=0
   ·have e:t.look w = { t.read w with sl:=t.off / size (pgA t.s t.pg (w.get t.pat)),ms:=true }:=by
     unfold Gv.look
     rw[nL,if_neg (by decide),if_pos (by unfold Gv.isS;rw[ho,decide_eq_true k2,decide_eq_true o0];rfl)]
    have g0:(t.off % size (pgA t.s t.pg (w.get t.pat)) == 0)=true:=beq_iff_eq.2 o0
    simp only[hk,ry,ryn,e0,e5,e7,e8,nyk,Ev.upd_upd,Gv.enc,g3,g2,v_size,z0,wrap_w64,tm,td,wd,g0,↓DD,UU,↓reduceIte,xA,xC,xE,xF,xG,ne_eq]
    rw[e]
    exact(hS.set (.cells (Gv.enc kp { t.read w with sl:=t.off / size (pgA t.s t.pg (w.get t.pat)),ms:=true }) 216 (0,0))).p3.tail
   ·have e:t.look w = { t.read w with dn:=true }:=by
     unfold Gv.look
     rw[nL,if_neg (by decide),if_neg (by unfold Gv.isS;rw[decide_eq_false o0];simp)]
    have g0:(t.off % size (pgA t.s t.pg (w.get t.pat)) == 0)=false:=beq_eq_false_iff_ne.2 o0
    simp only[hk,ry,ryn,e0,e5,e7,e8,nyk,Ev.upd_upd,Gv.enc,g3,g2,v_size,z0,tm,g0,↓DD,UU,↓reduceIte,xA,xC,xE,xF,xG,ne_eq]
    rw[e]
    exact(hS.set (.cells (Gv.enc kp { t.read w with dn:=true }) 216 (0,0))).p3.tail
  ·have g2:(pgK t.s t.pg (w.get t.pat) == 2)=false:=beq_eq_false_iff_ne.2 k2
   have e:t.look w = { t.read w with dn:=true }:=by
    unfold Gv.look
    rw[nL,if_neg (by decide),if_neg (by unfold Gv.isS;rw[decide_eq_false k2];simp)]
   simp only[hk,ry,ryn,e0,e7,e8,nyk,Ev.upd_upd,Gv.enc,g3,g2,↓DD,UU,↓reduceIte,xA,xC,xE,xF,xG]
   rw[e]
   exact(hS.set (.cells (Gv.enc kp { t.read w with dn:=true }) 216 (0,0))).p3.tail
theorem c_gvclaimL (hm:may t.s.p t.s.c t.s.m=true) (hp0:0≤t.pg) (hp1:t.pg<t.s.p) (hk3:t.pK=3) (hw:w.of t.s) (hS:Sep (gvB k kp t :: wB b s w :: wR s w :: l) H) :
  CallP Tryz.prog W 216 #[.pointer (some ⟨k,0,none⟩),.pointer (some ⟨b,0,none⟩)] H fun v H'=>v=.tuple #[]∧Sep (gvB k kp (t.claimL w) :: wB b s (w.swap t.c t.pat t.wd (held t.c)) :: wR s (w.swap t.c t.pat t.wd (held t.c)) :: l) H':=by
 refine CallP.of mixed Tryz.func216 tr216 (by show 2≤_;decide) fun W _=>?_
 have hk:=hS.look
 have r1:=fun o=>rd_of hk o
 have r2:=fun o n=>rdn_of hk o n
 obtain⟨q0,q1⟩:=page_in hw hm hp0 hp1
 have g3:(t.pK == 3)=true:=beq_iff_eq.2 hk3
 simp only[r1,g3,Gv.enc,↓DD,UU,xA]
 refine draw_intro [(k,Gv.enc kp t,[])] (by simp only[hk,↓DD,UU]) ?_
 simp only[hk,r1,r2,v_page,v_putpg,Gv.enc,↓DD,UU,↓reduceIte,xA,xC,xE,xF]
 refine callT_of (c_swap _ _ _ _ q0 q1 hS.p2.p2) ?_
 rintro v H' ⟨rfl,hS⟩
 have hS:=hS.p2
 have hk:=hS.look
 have r1:=fun o=>rd_of hk o
 have r2:=fun o n=>rdn_of hk o n
 simp only[hk,Gv.enc,Ev.upd_upd,↓DD,UU,↓reduceIte,xA,xE,xG]
 have he:(w.get (page t.s.p t.s.c t.s.m t.pg) == t.wd)=decide (w.get t.pat=t.wd):=by
  show(w.get t.pat == t.wd)=_
  by_cases h:w.get t.pat=t.wd<;>simp [h]
 rw[he]
 exact hS.set (.cells (Gv.enc kp (t.claimL w)) 216 (0,0))
theorem c_gvkept {p:Pu} (hp:t.put=some p) (hS:Sep (gvB k kp t :: puB kp p :: l) H) :
  CallP Tryz.prog W 214 #[.pointer (some ⟨k,0,none⟩)] H fun v H'=>v=.tuple #[]∧Sep (gvB k kp (t.kept p) :: puB kp p :: l) H':=by
 refine CallP.of mixed Tryz.func214 tr214 (by show 1≤_;decide) fun W _=>?_
 have hk:=hS.look
 have r1:=fun o=>rd_of hk o
 simp only[r1,hp,Gv.enc,ptO,↓DD,UU]
 refine callT_of (c_puput hS.p1) ?_
 rintro v H' ⟨rfl,hS⟩
 have hS:=hS.p1
 have hk:=hS.look
 have r1:=fun o=>rd_of hk o
 cases h1:p.put
 ·simp only[r1,hp,Gv.enc,ptO,↓DD,UU,xE]
  refine callT_of (c_pudone hS.p1) ?_
  rintro v H' ⟨rfl,hS⟩
  have hS:=hS.p1
  have hk:=hS.look
  have r1:=fun o=>rd_of hk o
  cases h2:p.dn
  ·have e:t.kept p = { t with put:=some p }:=by unfold Gv.kept;rw[h1,h2];rfl
   simp only[↓DD,UU]
   rw[e,← hp]
   exact hS
  ·have e:t.kept p = { t with put:=some p,nx:=3 }:=by unfold Gv.kept;rw[h1,h2];rfl
   simp only[hk,hp,Gv.enc,ptO,↓DD,UU,xA,xE,xG]
   rw[e]
   exact hS.set (.cells (Gv.enc kp { t with put:=some p,nx:=3 }) 216 (0,0))
 ·have e:t.kept p = { t with put:=some p,dn:=true }:=by unfold Gv.kept;rw[h1];rfl
  simp only[hk,hp,Gv.enc,ptO,↓DD,UU,xA,xE,xG]
  rw[e]
  exact hS.set (.cells (Gv.enc kp { t with put:=some p,dn:=true }) 216 (0,0))
theorem c_gvemptyL (hm:may t.s.p t.s.c t.s.m=true) (hp0:0≤t.pg) (hp1:t.pg<t.s.p) (hA:1≤t.pA∧t.pA≤8) (hi:t.i=t.pA - 1) (hw:w.of t.s) (hS:Sep (gvB k kp t :: wB b s w :: wR s w :: l) H) :
  CallP Tryz.prog W 218 #[.pointer (some ⟨k,0,none⟩),.pointer (some ⟨b,0,none⟩)] H fun v H'=>v=.tuple #[]∧Sep (gvB k kp { t with dn:=true } :: wB b s (w.store t.c t.pat 0) :: wR s (w.store t.c t.pat 0) :: l) H':=by
 refine CallP.of mixed Tryz.func218 tr218 (by show 2≤_;decide) fun W _=>?_
 have hk:=hS.look
 have r1:=fun o=>rd_of hk o
 have r2:=fun o n=>rdn_of hk o n
 obtain⟨q0,q1⟩:=page_in hw hm hp0 hp1
 have wA:w64 (t.pA - 1)=t.pA - 1:=w64_eq (by omega) (by omega)
 have gi:(t.i == t.pA - 1)=true:=beq_iff_eq.2 hi
 simp only[r1,wrap_w64,wA,gi,Gv.enc,↓DD,UU,xA,xE]
 refine draw_intro [(k,Gv.enc kp t,[])] (by simp only[hk,↓DD,UU]) ?_
 simp only[hk,r1,r2,v_page,Gv.enc,↓DD,UU,↓reduceIte,xA,xC,xE,xF]
 refine callT_of (c_store _ _ _ q0 q1 hS.p2.p2) ?_
 rintro v H' ⟨rfl,hS⟩
 have hS:=hS.p2
 have hk:=hS.look
 simp only[hk,Gv.enc,↓DD,UU,xA,xE,xG]
 exact hS.set (.cells (Gv.enc kp { t with dn:=true }) 216 (0,0))
theorem c_gvemptyM (hm:may t.s.p t.s.c t.s.m=true) (hp0:0≤t.pg) (hA:1≤t.pA∧t.pA≤8) (hpA:t.pg+t.pA≤t.s.p) (hi0:0≤t.i) (hi1:t.i<t.pA) (hi:t.i≠t.pA - 1) (hw:w.of t.s) (hS:Sep (gvB k kp t :: wB b s w :: wR s w :: l) H) :
  CallP Tryz.prog W 218 #[.pointer (some ⟨k,0,none⟩),.pointer (some ⟨b,0,none⟩)] H fun v H'=>v=.tuple #[]∧Sep (gvB k kp { t with i:=t.i+1 } :: wB b s (w.store t.c (page t.s.p t.s.c t.s.m (t.pg+t.i+1)) 0) :: wR s (w.store t.c (page t.s.p t.s.c t.s.m (t.pg+t.i+1)) 0) :: l) H':=by
 refine CallP.of mixed Tryz.func218 tr218 (by show 2≤_;decide) fun W _=>?_
 have hk:=hS.look
 have r1:=fun o=>rd_of hk o
 have r2:=fun o n=>rdn_of hk o n
 have ml:=(may_iff _ _ _).1 hm
 obtain⟨q0,q1⟩:=page_in hw hm (i:=t.pg+t.i+1) (by omega) (by omega)
 have wA:w64 (t.pA - 1)=t.pA - 1:=w64_eq (by omega) (by omega)
 have gi:(t.i == t.pA - 1)=false:=beq_eq_false_iff_ne.2 hi
 have w1:w64 (t.pg+t.i)=t.pg+t.i:=w64_eq (by omega) (by omega)
 have w2:w64 (t.pg+t.i+1)=t.pg+t.i+1:=w64_eq (by omega) (by omega)
 have w3:w64 (t.i+1)=t.i+1:=w64_eq (by omega) (by omega)
 simp only[r1,wrap_w64,wA,gi,Gv.enc,↓DD,UU,xA,xE]
 refine draw_intro [(k,Gv.enc kp t,[])] (by simp only[hk,↓DD,UU]) ?_
 simp only[hk,r1,r2,v_page,wrap_w64,w1,w2,Gv.enc,↓DD,UU,↓reduceIte,xA,xC,xE,xF]
 refine callT_of (c_store _ _ _ q0 q1 hS.p2.p2) ?_
 rintro v H' ⟨rfl,hS⟩
 have hS:=hS.p2
 have hk:=hS.look
 have r1:=fun o=>rd_of hk o
 simp only[hk,r1,wrap_w64,w3,Gv.enc,↓DD,UU,xA,xE,xG]
 exact hS.set (.cells (Gv.enc kp { t with i:=t.i+1 }) 216 (0,0))
theorem c_gvclaimS (hm:may t.s.p t.s.c t.s.m=true) (hp0:0≤t.pg) (hp1:t.pg<t.s.p) (hk2:t.pK=2) (hs0:0≤t.sl) (hs1:t.sl<16) (hput:t.put=none) (hw:w.of t.s) (hS:Sep (gvB k kp t :: wB b s w :: wR s w :: l) H) :
  CallP Tryz.prog W 216 #[.pointer (some ⟨k,0,none⟩),.pointer (some ⟨b,0,none⟩)] H fun v H'=>v=.tuple #[]∧∃ kp',Sep (gvB k kp' (t.claimS w) :: puO kp' (t.claimS w).put :: wB b s (w.swap t.c t.sat (taken t.pA) (way t.c)) :: wR s (w.swap t.c t.sat (taken t.pA) (way t.c)) :: l) H':=by
 refine CallP.of mixed Tryz.func216 tr216 (by show 2≤_;decide) fun W _=>?_
 have hk:=hS.look
 have r1:=fun o=>rd_of hk o
 have r2:=fun o n=>rdn_of hk o n
 obtain⟨q0,q1⟩:=slot_in hw hm hp0 hp1 hs0 hs1
 have g3:(t.pK == 3)=false:=beq_eq_false_iff_ne.2 (by omega)
 simp only[r1,g3,v_putsl,Gv.enc,↓DD,UU,xA,xE]
 refine draw_intro [(k,Gv.enc kp t,[])] (by simp only[hk,↓DD,UU]) ?_
 simp only[hk,r1,r2,v_slot,v_putsl,Gv.enc,↓DD,UU,↓reduceIte,xA,xC,xE,xF]
 refine callT_of (c_swap _ _ _ _ q0 q1 hS.p2.p2) ?_
 rintro v H' ⟨rfl,hS⟩
 have hS:=hS.p2
 have hk:=hS.look
 have r1:=fun o=>rd_of hk o
 have r2:=fun o n=>rdn_of hk o n
 have he:(w.get (slot t.s.p t.s.c t.s.m t.pg t.sl) == putSl 3 t.pA)=decide (w.get t.sat=taken t.pA):=by
  show(w.get t.sat == taken t.pA)=_
  by_cases h:w.get t.sat=taken t.pA<;>simp [h]
 by_cases hown:t.pB=t.c
 ·have gb:(t.pB == t.c)=true:=beq_iff_eq.2 hown
  simp only[hk,he,gb,Gv.enc,Ev.upd_upd,↓DD,UU,↓reduceIte,xA,xE,xG]
  have hS:=hS.set (.cells (Gv.enc kp { t with gv:=decide (w.get t.sat=taken t.pA),nx:=3 }) 216 (0,0))
  have hk:=hS.look
  have r1:=fun o=>rd_of hk o
  have r2:=fun o n=>rdn_of hk o n
  refine draw_intro [(k,Gv.enc kp { t with gv:=decide (w.get t.sat=taken t.pA),nx:=3 },[])] (by simp only[Gv.enc,↓DD,UU]) ?_
  simp only[Gv.enc,↓DD,UU,↓reduceIte,xA,xC,xE,xF]
  refine callT_of (c_punew (sh:=t.s) hS) ?_
  rintro v H' ⟨kp',rfl,hS⟩
  have hS:=hS.p1
  have hk:=hS.look
  have r1:=fun o=>rd_of hk o
  have r2:=fun o n=>rdn_of hk o n
  simp only[hk,Gv.enc,Ev.upd_upd,↓DD,UU,xA,xE,xG]
  have hS:=hS.set (.cells (Gv.enc kp' { t with gv:=decide (w.get t.sat=taken t.pA),put:=some t.pnew,nx:=2 }) 216 (0,0))
  refine callT_of (c_gvkept (t:={ t with gv:=decide (w.get t.sat=taken t.pA),put:=some t.pnew,nx:=2 }) (p:=t.pnew) rfl hS) ?_
  rintro v H' ⟨rfl,hS⟩
  have hk:=hS.look
  have r1:=fun o=>rd_of hk o
  have hpp:t.pnew.put=false:=rfl
  have e:t.claimS w = { t with gv:=decide (w.get t.sat=taken t.pA),put:=some t.pnew,nx:=if t.pnew.dn then 3 else 2,dn:=!decide (w.get t.sat=taken t.pA) }:=if_pos hown
  have e2:({ t with gv:=decide (w.get t.sat=taken t.pA),put:=some t.pnew,nx:=2 }:Gv).kept t.pnew = { t with gv:=decide (w.get t.sat=taken t.pA),put:=some t.pnew,nx:=if t.pnew.dn then 3 else 2 }:=by
   unfold Gv.kept
   rw[hpp]
   cases t.pnew.dn<;>rfl
  rw[e2]at hS
  have hk:=hS.look
  have r1:=fun o=>rd_of hk o
  simp only[hk,r1,Gv.enc,↓DD,UU,xA,xE,xG]
  rw[e]
  exact⟨kp',hS.set (.cells (Gv.enc kp' { t with gv:=decide (w.get t.sat=taken t.pA),put:=some t.pnew,nx:=if t.pnew.dn then 3 else 2,dn:=!decide (w.get t.sat=taken t.pA) }) 216 (0,0))⟩
 ·have gb:(t.pB == t.c)=false:=beq_eq_false_iff_ne.2 hown
  simp only[hk,he,gb,Gv.enc,Ev.upd_upd,↓DD,UU,↓reduceIte,xA,xE,xG]
  have e:t.claimS w = { t with gv:=decide (w.get t.sat=taken t.pA),nx:=3,dn:=!decide (w.get t.sat=taken t.pA) }:=if_neg hown
  rw[e]
  refine⟨kp,?_⟩
  show Sep (gvB k kp _ :: puO kp t.put :: _) _
  have hn:puO kp t.put=fun _=>none:=by rw[hput];rfl
  rw[hn]
  exact(hS.set (.cells (Gv.enc kp { t with gv:=decide (w.get t.sat=taken t.pA),nx:=3,dn:=!decide (w.get t.sat=taken t.pA) }) 216 (0,0))).nothing.p1
theorem c_gvstep (ht:t.wf) (hw:t.dn=false→w.of t.s) (hS:Sep (gvB k kp t :: puO kp t.put :: wB b s w :: wR s w :: l) H) :
  CallP Tryz.prog W 213 #[.pointer (some ⟨k,0,none⟩),.pointer (some ⟨b,0,none⟩)] H fun v H'=>v=.tuple #[]∧∃ kp',Sep (gvB k kp' (t.step w).1 :: puO kp' (t.step w).1.put :: wB b s (t.step w).2 :: wR s (t.step w).2 :: l) H':=by
 refine CallP.of mixed Tryz.func213 tr213 (by show 2≤_;decide) fun W _=>?_
 have hk:=hS.look
 have r1:=fun o=>rd_of hk o
 have r2:=fun o n=>rdn_of hk o n
 rcases Gv.step_cases ht w with⟨hd,e⟩|⟨hd,hc⟩
 ·rw[e]
  simp only[r1,Gv.enc,hd,↓DD,UU,↓reduceIte,xA,xE]
  exact⟨kp,hS⟩
 obtain⟨a1,a2,a3,a4,a5,a6,a7,-,-⟩:=ht.of hd
 have hw:=hw hd
 rcases hc with⟨hn,e⟩|⟨hn,hk3,e⟩|⟨hn,hk2,e⟩|⟨hn,p,hp,hpw,hpd,hpp,hps,hpc,e⟩|⟨hn,e⟩|⟨hn,hi,e⟩|⟨hn,hi,e⟩<;>rw[e]
 ·have g0:(t.nx == 0)=true:=beq_iff_eq.2 hn
  simp only[r1,Gv.enc,hd,g0,↓DD,UU,↓reduceIte,xA,xE]
  have hlp:(t.look w).put=t.put:=by
   unfold Gv.look;split
   ·rfl
   ·split<;>rfl
  refine callT_of (c_gvlook a1 a6 a4 a5 hw hS.p3.p3.p2) ?_
  rintro v H' ⟨rfl,hS⟩
  simp only[↓DD,UU]
  rw[hlp]
  exact⟨kp,hS.p3.p1⟩
 ·have g0:(t.nx == 0)=false:=beq_eq_false_iff_ne.2 (by omega)
  have g1:(t.nx == 1)=true:=beq_iff_eq.2 hn
  simp only[r1,Gv.enc,hd,g0,g1,↓DD,UU,↓reduceIte,xA,xE]
  refine callT_of (c_gvclaimL a1 a4 a5 hk3 hw hS.p3.p3.p2) ?_
  rintro v H' ⟨rfl,hS⟩
  simp only[↓DD,UU]
  exact⟨kp,hS.p3.p1⟩
 ·have g0:(t.nx == 0)=false:=beq_eq_false_iff_ne.2 (by omega)
  have g1:(t.nx == 1)=true:=beq_iff_eq.2 hn
  have hbl:=(ht.bl hd (by omega)).2.1
  have hsl:0≤t.sl∧t.sl<16:=by
   have:=slots_bd t.pA
   rcases hbl with h | h
   ·omega
   ·exact⟨h.2.1,by omega⟩
  simp only[r1,Gv.enc,hd,g0,g1,↓DD,UU,↓reduceIte,xA,xE]
  refine callT_of (c_gvclaimS a1 a4 a5 hk2 hsl.1 hsl.2 (ht.n01 (.inr hn)).1 hw hS.p1.tail) ?_
  rintro v H' ⟨rfl,kp',hS⟩
  simp only[↓DD,UU]
  exact⟨kp',hS⟩
 ·have g0:(t.nx == 0)=false:=beq_eq_false_iff_ne.2 (by omega)
  have g1:(t.nx == 1)=false:=beq_eq_false_iff_ne.2 (by omega)
  have g2:(t.nx == 2)=true:=beq_iff_eq.2 hn
  have hpo:puO kp t.put=puB kp p:=by rw[hp];rfl
  have hpt:ptO kp t.put=.pointer (some ⟨kp,0,none⟩):=by rw[hp];rfl
  rw[hpo]at hS
  simp only[r1,Gv.enc,hd,g0,g1,g2,hpt,↓DD,UU,↓reduceIte,xA,xE]
  refine callT_of (c_pustep hpw (fun _=>by rw[hps];exact hw) hS.p3.p3.p3) ?_
  rintro v H' ⟨rfl,hS⟩
  simp only[↓DD,UU,xA,xE]
  have hS:=hS.p3
  have hgv:gvB k kp t=gvB k kp { t with put:=some (p.step w).1 }:=by unfold gvB Gv.enc;rw[hp];rfl
  rw[hgv]at hS
  refine callT_of (c_gvkept (t:={ t with put:=some (p.step w).1 }) (p:=(p.step w).1) rfl hS) ?_
  rintro v H' ⟨rfl,hS⟩
  simp only[↓DD,UU]
  have e2:({ t with put:=some (p.step w).1 }:Gv).kept (p.step w).1=t.kept (p.step w).1:=by unfold Gv.kept;split<;>(try split)<;>rfl
  have e3:(t.kept (p.step w).1).put=some (p.step w).1:=by unfold Gv.kept;split<;>(try split)<;>rfl
  rw[e2]at hS
  rw[e3]
  exact⟨kp,hS⟩
 ·have g0:(t.nx == 0)=false:=beq_eq_false_iff_ne.2 (by omega)
  have g1:(t.nx == 1)=false:=beq_eq_false_iff_ne.2 (by omega)
  have g2:(t.nx == 2)=false:=beq_eq_false_iff_ne.2 (by omega)
  have g3:(t.nx == 3)=true:=beq_iff_eq.2 hn
  have hbl:=(ht.bl hd (by omega)).2.1
  have hk2:=ht.n3 hd hn
  have hsl:0≤t.sl∧t.sl<16:=by
   have:=slots_bd t.pA
   rcases hbl with h | h
   ·omega
   ·exact⟨h.2.1,by omega⟩
  obtain⟨q0,q1⟩:=slot_in hw a1 a4 a5 hsl.1 hsl.2
  simp only[r1,Gv.enc,hd,g0,g1,g2,g3,↓DD,UU,↓reduceIte,xA,xE]
  refine draw_intro [(k,Gv.enc kp t,[])] (by simp only[hk,↓DD,UU]) ?_
  simp only[hk,r1,r2,v_slot,v_putsl,Gv.enc,hd,↓DD,UU,↓reduceIte,xA,xC,xE,xF]
  refine callT_of (c_store _ _ _ q0 q1 hS.p3.p3) ?_
  rintro v H' ⟨rfl,hS⟩
  have hS:=hS.p2
  have hk:=hS.look
  simp only[hk,Gv.enc,↓DD,UU,xA,xE,xG]
  exact⟨kp,(hS.set (.cells (Gv.enc kp { t with dn:=true }) 216 (0,0))).p3.p1⟩
 ·have g0:(t.nx == 0)=false:=beq_eq_false_iff_ne.2 (by omega)
  have g1:(t.nx == 1)=false:=beq_eq_false_iff_ne.2 (by omega)
  have g2:(t.nx == 2)=false:=beq_eq_false_iff_ne.2 (by omega)
  have g3:(t.nx == 3)=false:=beq_eq_false_iff_ne.2 (by omega)
  have g4:(t.nx == 4)=true:=beq_iff_eq.2 hn
  have hbl:=(ht.bl hd (by omega)).2.1
  have h4:=ht.n4 hd hn
  have hA:1≤t.pA∧t.pA≤8:=by rcases hbl with h | h<;>omega
  simp only[r1,Gv.enc,hd,g0,g1,g2,g3,g4,↓DD,UU,↓reduceIte,xA,xE]
  refine callT_of (c_gvemptyL a1 a4 a5 hA hi hw hS.p3.p3.p2) ?_
  rintro v H' ⟨rfl,hS⟩
  simp only[↓DD,UU]
  exact⟨kp,hS.p3.p1⟩
 ·have g0:(t.nx == 0)=false:=beq_eq_false_iff_ne.2 (by omega)
  have g1:(t.nx == 1)=false:=beq_eq_false_iff_ne.2 (by omega)
  have g2:(t.nx == 2)=false:=beq_eq_false_iff_ne.2 (by omega)
  have g3:(t.nx == 3)=false:=beq_eq_false_iff_ne.2 (by omega)
  have g4:(t.nx == 4)=true:=beq_iff_eq.2 hn
  have hbl:=(ht.bl hd (by omega)).2.1
  have h4:=ht.n4 hd hn
  have hA:1≤t.pA∧t.pA≤8∧t.pg+t.pA≤t.s.p:=by rcases hbl with h | h<;>omega
  simp only[r1,Gv.enc,hd,g0,g1,g2,g3,g4,↓DD,UU,↓reduceIte,xA,xE]
  refine callT_of (c_gvemptyM a1 a4 ⟨hA.1,hA.2.1⟩ hA.2.2 h4.2.1 h4.2.2 hi hw hS.p3.p3.p2) ?_
  rintro v H' ⟨rfl,hS⟩
  simp only[↓DD,UU]
  exact⟨kp,hS.p3.p1⟩
end
end Go.Proofs.YtkjpgikjcfhckaaGreat
