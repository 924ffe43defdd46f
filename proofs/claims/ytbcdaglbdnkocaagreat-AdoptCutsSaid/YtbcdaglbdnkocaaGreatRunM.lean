/-
 Who claims a row of pages: the document's machine goes as the program's plain one. Conditions: none.
-/
import Derived.Test.YtbcdaglbdnkocaaGreatCodeY
import Derived.Test.YtbcdaglbdnkocaaGreatRun
import Derived.Test.YtbcdaglbdnkocaaGreatModel
import Derived.Test.YtbcdaglbdnkocaaGreatAlt
open Nat renaming reduceAdd→xA,reduceMul→xB,reduceSub→xC,reduceEqDiff→xD,reduceBEq→xE,reduceLeDiff→xF,reduceLT→xG
open Int renaming reduceAdd→xH,reduceMul→xI,reduceSub→xJ,reduceLT→xK,reduceLE→xL,reduceToNat→xM,reduceEq→xN,reduceNe→xO,reduceBEq→xP,reduceBNe→xQ
set_option linter.unusedVariables false
set_option linter.unusedSimpArgs false
set_option maxRecDepth 8000
namespace Go.Proofs.YtbcdaglbdnkocaaGreat
open Go Go.Ev Go.Pl Go.Ma

def rsO (k:Nat):Option St→Hp
 | none=>fun _=>none
 | some p=>rsB k p
def Rn.ren (ks:Nat) (t:Rn):Array Value:=#[.int .i64 t.s.p,.int .i64 t.s.c,.int .i64 t.s.m,.int .i64 t.c,.int .i64 t.n,.int .i64 t.hd,.int .i64 t.at',.bool t.fd,.bool t.dn,.int .i64 t.nx,.int .i64 t.gx,.int .i64 t.i,ptS ks t.st]
def rrB (k ks:Nat) (t:Rn):Hp:=sg k (.cells (Rn.ren ks t) 148 (0,0))

section
variable {W:World} {H:Hp} {k ks b s:Nat} {t:Rn} {w:Wd} {l:List Hp} {a:Option Addr} {cap:Nat} {g:Hp}

theorem m_rnnew {sh:Sh} {c n:Int} (hS:Sep l H) :
  CallP Tryz.prog W 76 #[.agg #[.int .i64 sh.p,.int .i64 sh.c,.int .i64 sh.m],.int .i64 c,.int .i64 n] H fun v H'=>∃ k,v=.pointer (some ⟨k,0,none⟩)∧Sep (rrB k 0 (Rn.new sh c n) :: l) H':=by
 refine CallP.of mixed Tryz.func76 tr76 (by show 3≤_;decide) fun W _=>?_
 simp only[↓DD,UU,↓reduceIte,xA,xB,xC,xD,xE,xF,xG,xH,xI,xJ,xK,xL,xM,xN,xO,xP,xQ,ne_eq,eq_self]
 refine newB_intro fun x hx f1 f2=>?_
 have hS:=hS.new f1 (.cells #[.int .i64 sh.p,.int .i64 sh.c,.int .i64 sh.m] 23 (0,0))
 have hx1:=hS.look
 have r1:=fun o=>rd_of hx1 o
 have r2:=fun o n=>rdn_of hx1 o n
 simp only[↓DD,UU,↓reduceIte,xA,xB,xC,xD,xE,xF,xG,xH,xI,xJ,xK,xL,xM,xN,xO,xP,xQ,ne_eq,eq_self]
 refine draw_intro [(x,#[.int .i64 sh.p,.int .i64 sh.c,.int .i64 sh.m],[])] (by simp only[hx1,↓DD,UU,↓reduceIte,xA,xB,xC,xD,xE,xF,xG,xH,xI,xJ,xK,xL,xM,xN,xO,xP,xQ,ne_eq,eq_self]) ?_
 have n2:decide (n<1) = !decide (1≤n):=by rw[← decide_not];exact decide_eq_decide.2 (by omega)
 have n3:decide (8<n) = !decide (n≤8):=by rw[← decide_not];exact decide_eq_decide.2 (by omega)
 have n4:decide (sh.p<n) = !decide (n≤sh.p):=by rw[← decide_not];exact decide_eq_decide.2 (by omega)
 cases h1:decide (0≤status sh.p sh.c sh.m c)<;>cases h2:decide (1≤n)<;>cases h3:decide (n≤8)<;>cases h4:decide (n≤sh.p)
 all_goals
  rw[h2]at n2
  rw[h3]at n3
  rw[h4]at n4
  simp only[hx1,r1,r2,u_good,h1,n2,n3,n4,↓DD,UU,↓reduceIte,xA,xB,xC,xD,xE,xF,xG,xH,xI,xJ,xK,xL,xM,xN,xO,xP,xQ,ne_eq,eq_self]
  refine newB_intro fun y hy f3 f4=>?_
  have nxy:(x=y)=False:=f3 x (by rw[hx1];rfl)
  have nyx:(y=x)=False:=f4 x (by rw[hx1];rfl)
  simp only[hx1,r1,r2,nxy,nyx,↓DD,UU,↓reduceIte,xA,xB,xC,xD,xE,xF,xG,xH,xI,xJ,xK,xL,xM,xN,xO,xP,xQ,ne_eq,eq_self]
  refine⟨y,rfl,?_⟩
  have:=(hS.new f3 (.cells (Rn.ren 0 (Rn.new sh c n)) 148 (0,0))).p1.tail
  unfold Rn.new Rn.ok at this ⊢
  unfold Rn.ren ptS at this
  unfold rrB Rn.ren ptS
  simp only[h1,h2,h3,h4]at this ⊢
  exact this
theorem m_rnwritten (hh:0≤t.hd∧t.hd≤1000) (hn:0≤t.n∧t.n≤1000) (hS:Sep (rrB k ks { t with i:=t.i+1 } :: l) H) :
  CallP Tryz.prog W 137 #[.pointer (some ⟨k,0,none⟩)] H fun v H'=>v=.tuple #[]∧Sep (rrB k ks t.written :: l) H':=by
 refine CallP.of mixed Tryz.func137 tr137 (by show 1≤_;decide) fun W _=>?_
 have hk:=hS.look
 have r1:=fun o=>rd_of hk o
 have w2:w64 (t.hd+t.n)=t.hd+t.n:=w64_eq (by omega) (by omega)
 by_cases he:t.i+1=t.hd+t.n
 ·have g1:(t.i+1 == t.hd+t.n)=true:=beq_iff_eq.2 he
  have e:t.written = { t with i:=t.i+1,fd:=true,dn:=true }:=by unfold Rn.written;rw[if_pos he]
  simp only[hk,r1,wrap_w64,w2,g1,Rn.ren,Ev.upd_upd,↓DD,UU,↓reduceIte,xA,xB,xC,xD,xE,xF,xG,xH,xI,xJ,xK,xL,xM,xN,xO,xP,xQ,ne_eq,eq_self]
  rw[e]
  exact hS.set (.cells (Rn.ren ks { t with i:=t.i+1,fd:=true,dn:=true }) 148 (0,0))
 ·have g1:(t.i+1 == t.hd+t.n)=false:=beq_eq_false_iff_ne.2 he
  have e:t.written = { t with i:=t.i+1 }:=by unfold Rn.written;rw[if_neg he]
  simp only[hk,r1,wrap_w64,w2,g1,Rn.ren,Ev.upd_upd,↓DD,UU,↓reduceIte,xA,xB,xC,xD,xE,xF,xG,xH,xI,xJ,xK,xL,xM,xN,xO,xP,xQ,ne_eq,eq_self]
  rw[e]
  exact hS
theorem m_rnown (ha:0≤t.at'∧t.at'≤1000) (hh:0≤t.hd∧t.hd≤1000) (hn:0≤t.n∧t.n≤1000) (hS:Sep (rrB k ks t :: l) H) :
  CallP Tryz.prog W 135 #[.pointer (some ⟨k,0,none⟩)] H fun v H'=>v=.tuple #[]∧Sep (rrB k ks t.own :: l) H':=by
 refine CallP.of mixed Tryz.func135 tr135 (by show 1≤_;decide) fun W _=>?_
 have hk:=hS.look
 have r1:=fun o=>rd_of hk o
 have w1:w64 (t.at'+1)=t.at'+1:=w64_eq (by omega) (by omega)
 have w2:w64 (t.hd+t.n)=t.hd+t.n:=w64_eq (by omega) (by omega)
 have w3:w64 (t.hd+1)=t.hd+1:=w64_eq (by omega) (by omega)
 by_cases he:t.at'+1=t.hd+t.n
 ·have g1:(t.at'+1 == t.hd+t.n)=true:=beq_iff_eq.2 he
  have e:t.own=({ t with at':=t.at'+1,nx:=5,i:=t.hd }:Rn).written:=by unfold Rn.own;rw[if_pos he]
  simp only[hk,r1,wrap_w64,w1,w2,w3,g1,Rn.ren,Ev.upd_upd,↓DD,UU,↓reduceIte,xA,xB,xC,xD,xE,xF,xG,xH,xI,xJ,xK,xL,xM,xN,xO,xP,xQ,ne_eq,eq_self]
  refine callT_of (m_rnwritten (t:={ t with at':=t.at'+1,nx:=5,i:=t.hd }) hh hn (hS.set (.cells (Rn.ren ks { t with at':=t.at'+1,nx:=5,i:=t.hd+1 }) 148 (0,0)))) ?_
  rintro v H' ⟨rfl,hS⟩
  simp only[↓DD,UU,↓reduceIte,xA,xB,xC,xD,xE,xF,xG,xH,xI,xJ,xK,xL,xM,xN,xO,xP,xQ,ne_eq,eq_self]
  rw[e]
  exact hS
 ·have g1:(t.at'+1 == t.hd+t.n)=false:=beq_eq_false_iff_ne.2 he
  have e:t.own = { t with at':=t.at'+1,nx:=0 }:=by unfold Rn.own;rw[if_neg he]
  simp only[hk,r1,wrap_w64,w1,w2,g1,Rn.ren,Ev.upd_upd,↓DD,UU,↓reduceIte,xA,xB,xC,xD,xE,xF,xG,xH,xI,xJ,xK,xL,xM,xN,xO,xP,xQ,ne_eq,eq_self]
  rw[e]
  exact hS.set (.cells (Rn.ren ks { t with at':=t.at'+1,nx:=0 }) 148 (0,0))
theorem m_rngone (ha:0≤t.at'∧t.at'≤1000) (hg:t.gx=t.at'+1) (hn:0≤t.n∧t.n≤1000) (hp:0≤t.s.p∧t.s.p≤1000) (hdn:t.dn=false) (hS:Sep (rrB k ks t :: l) H) :
  CallP Tryz.prog W 136 #[.pointer (some ⟨k,0,none⟩)] H fun v H'=>v=.tuple #[]∧Sep (rrB k ks t.gone :: l) H':=by
 refine CallP.of mixed Tryz.func136 tr136 (by show 1≤_;decide) fun W _=>?_
 have hk:=hS.look
 have r1:=fun o=>rd_of hk o
 have w2:w64 (t.s.p - t.n)=t.s.p - t.n:=w64_eq (by omega) (by omega)
 by_cases he:t.hd<t.i
 ·have g1:decide (t.hd<t.i)=true:=decide_eq_true he
  have e:t.gone=t:=by unfold Rn.gone;rw[if_pos he]
  simp only[hk,r1,g1,Rn.ren,↓DD,UU,↓reduceIte,xA,xB,xC,xD,xE,xF,xG,xH,xI,xJ,xK,xL,xM,xN,xO,xP,xQ,ne_eq,eq_self]
  rw[e]
  exact hS
 ·have g1:decide (t.hd<t.i)=false:=decide_eq_false he
  have e:t.gone = { t with at':=t.at'+1,hd:=t.at'+1,nx:=0,dn:=decide (t.s.p - t.n<t.at'+1) }:=by unfold Rn.gone;rw[if_neg he]
  simp only[hk,r1,g1,Rn.ren,Ev.upd_upd,↓DD,UU,↓reduceIte,xA,xB,xC,xD,xE,xF,xG,xH,xI,xJ,xK,xL,xM,xN,xO,xP,xQ,ne_eq,eq_self]
  refine draw_intro [(k,Rn.ren ks t,[5,6,9])] (by simp only[hk,Rn.ren,↓DD,UU,↓reduceIte,xA,xB,xC,xD,xE,xF,xG,xH,xI,xJ,xK,xL,xM,xN,xO,xP,xQ,ne_eq,eq_self]) ?_
  simp only[hk,r1,hg,Rn.ren,Ev.upd_upd,↓DD,UU,↓reduceIte,xA,xB,xC,xD,xE,xF,xG,xH,xI,xJ,xK,xL,xM,xN,xO,xP,xQ,ne_eq,eq_self]
  have hS1:=hS.set (.cells (Rn.ren ks { t with at':=t.at'+1,hd:=t.at'+1,nx:=0 }) 148 (0,0))
  have hk1:=hS1.look
  have r2:=fun o=>rd_of hk1 o
  refine draw_intro [(k,Rn.ren ks { t with at':=t.at'+1,hd:=t.at'+1,nx:=0 },[])] (by simp only[hk1,hg,Rn.ren,↓DD,UU,↓reduceIte,xA,xB,xC,xD,xE,xF,xG,xH,xI,xJ,xK,xL,xM,xN,xO,xP,xQ,ne_eq,eq_self]) ?_
  simp only[hk1,r2,wrap_w64,w2,hg,Rn.ren,Ev.upd_upd,↓DD,UU,↓reduceIte,xA,xB,xC,xD,xE,xF,xG,xH,xI,xJ,xK,xL,xM,xN,xO,xP,xQ,ne_eq,eq_self]
  rw[e]
  have:=hS.set (.cells (Rn.ren ks { t with at':=t.at'+1,hd:=t.at'+1,nx:=0,dn:=decide (t.s.p - t.n<t.at'+1) }) 148 (0,0))
  unfold Rn.ren at this
  simp only[hg]at this
  unfold rrB Rn.ren
  simp only[hg]
  exact this
theorem m_rnmiss (ha:0≤t.at'∧t.at'≤1000) (hn:0≤t.n∧t.n≤1000) (hp:0≤t.s.p∧t.s.p≤1000) (hdn:t.dn=false) (hS:Sep (rrB k ks t :: l) H) :
  CallP Tryz.prog W 133 #[.pointer (some ⟨k,0,none⟩)] H fun v H'=>v=.tuple #[]∧Sep (rrB k ks t.miss :: l) H':=by
 refine CallP.of mixed Tryz.func133 tr133 (by show 1≤_;decide) fun W _=>?_
 have hk:=hS.look
 have r1:=fun o=>rd_of hk o
 have w1:w64 (t.at'+1)=t.at'+1:=w64_eq (by omega) (by omega)
 simp only[hk,r1,wrap_w64,w1,Rn.ren,Ev.upd_upd,↓DD,UU,↓reduceIte,xA,xB,xC,xD,xE,xF,xG,xH,xI,xJ,xK,xL,xM,xN,xO,xP,xQ,ne_eq,eq_self]
 refine callT_of (m_rngone (t:={ t with nx:=4,i:=t.at',gx:=t.at'+1 }) ha rfl hn hp hdn (hS.set (.cells (Rn.ren ks { t with nx:=4,i:=t.at',gx:=t.at'+1 }) 148 (0,0)))) ?_
 rintro v H' ⟨rfl,hS⟩
 simp only[↓DD,UU,↓reduceIte,xA,xB,xC,xD,xE,xF,xG,xH,xI,xJ,xK,xL,xM,xN,xO,xP,xQ,ne_eq,eq_self]
 exact hS
def rnD (k ks b s:Nat) (t:Rn) (w:Wd) (M:Hp) (l:List Hp) (F':Fr) (H':Hp):Prop:=
 gt F' 0=.pointer (some ⟨k,0,none⟩)∧gt F' 7=.bool (okPg t.s t.at' (w.get t.pat))∧∃ y,gt F' 6=.pointer (some ⟨y,0,none⟩) ∧
  Sep (rrB k ks t :: sg y (.cells #[.int .i64 (pgK t.s t.at' (w.get t.pat)),.int .i64 (pgA t.s t.at' (w.get t.pat)),.int .i64 (pgB t.s t.at' (w.get t.pat))] 66 (0,0)) :: M :: wR s (w.load t.c t.pat) :: l) H'
theorem m_rnstep (ht:t.wf) (hw:t.dn=false→w.of t.s) (hL:LogOk a cap w g) (hl:w.st+1≤1000000000) (hS:Sep (rrB k ks t :: rsO ks t.st :: mB b s a cap w :: wR s w :: g :: l) H) :
  CallP Tryz.prog W 86 #[.pointer (some ⟨k,0,none⟩),.pointer (some ⟨b,0,none⟩)] H fun v H'=>v=.tuple #[] ∧
   ∃ ks' a2 cap2 g2,LogOk a2 cap2 (t.step w).2 g2∧Sep (rrB k ks' (t.step w).1 :: rsO ks' (t.step w).1.st :: mB b s a2 cap2 (t.step w).2 :: wR s (t.step w).2 :: g2 :: l) H':=by
 refine CallP.of mixed Tryz.func86 tr86 (by show 2≤_;decide) fun W _=>?_
 have hk:=hS.look
 have r1:=fun o=>rd_of hk o
 have r2:=fun o n=>rdn_of hk o n
 rcases Rn.step_cases ht w with⟨hd,e⟩|⟨hd,hc⟩
 ·rw[e]
  simp only[hk,r1,Rn.ren,hd,↓DD,UU,↓reduceIte,xA,xB,xC,xD,xE,xF,xG,xH,xI,xJ,xK,xL,xM,xN,xO,xP,xQ,ne_eq,eq_self]
  exact⟨ks,a,cap,g,hL,hS⟩
 obtain⟨hm,hf,ar⟩:=ht.of hd
 unfold Rn.Ar at ar
 have hw:=hw hd
 have hb:=(may_iff _ _ _).1 hm
 have OST:t.own.st=t.st:=by unfold Rn.own;split;(unfold Rn.written;split<;>rfl);rfl
 have MST:t.miss.st=t.st:=by unfold Rn.miss Rn.gone;split<;>rfl
 rcases hc with⟨hn,e⟩|⟨hn,e⟩|⟨hn,q,hq,hqw,hqd,hqs,hqc,hqp,e⟩|⟨hn,e⟩|⟨hn,e⟩|⟨hn,e⟩<;>rw[e]
 ·have g0:(t.nx == 0)=true:=beq_iff_eq.2 hn
  obtain⟨p0,p1⟩:=page_in (i:=t.at') hw hm (by omega) (by omega)
  have hu:U (w.get (page t.s.p t.s.c t.s.m t.at')):=hw.u _
  simp only[hk,r1,r2,u_page,Rn.ren,hd,g0,↓DD,UU,↓reduceIte,xA,xB,xC,xD,xE,xF,xG,xH,xI,xJ,xK,xL,xM,xN,xO,xP,xQ,ne_eq,eq_self]
  refine callT_of (m_load _ _ p0 p1 hL hl hS.p4.p4.p4) ?_
  rintro v H' ⟨rfl,a2,cap2,g2,hL,hS⟩
  have hS:=hS.p3
  have hk:=hS.look
  have r1:=fun o=>rd_of hk o
  have r2:=fun o n=>rdn_of hk o n
  simp only[↓DD,UU,↓reduceIte,xA,xB,xC,xD,xE,xF,xG,xH,xI,xJ,xK,xL,xM,xN,xO,xP,xQ,ne_eq,eq_self]
  refine draw_cut [(k,Rn.ren ks t,[])] (rnD k ks b s t w (mB b s a2 cap2 (w.load t.c t.pat)) (g2 :: rsO ks t.st :: l)) (by simp only[hk,Rn.ren,↓DD,UU,↓reduceIte,xA,xB,xC,xD,xE,xF,xG,xH,xI,xJ,xK,xL,xM,xN,xO,xP,xQ,ne_eq,eq_self]) ?_ ?_
  ·simp only[hk,r1,r2,u_readpg t.s _ hu,Rn.ren,↓e_dalt2,↓DD,UU,↓reduceIte,xA,xB,xC,xD,xE,xF,xG,xH,xI,xJ,xK,xL,xM,xN,xO,xP,xQ,ne_eq,eq_self]
   refine⟨?_,?_⟩
   all_goals
    refine newB_intro fun y hy f3 f4=>?_
    have nky:(k=y)=False:=f3 k (by rw[hk];rfl)
    have nyk:(y=k)=False:=f4 k (by rw[hk];rfl)
    have hS:=(hS.new f3 (.cells #[.int .i64 (pgK t.s t.at' (w.get t.pat)),.int .i64 (pgA t.s t.at' (w.get t.pat)),.int .i64 (pgB t.s t.at' (w.get t.pat))] 66 (0,0))).p1
    simp only[hk,r1,r2,nky,nyk,u_readpg t.s _ hu,Ev.upd_upd,Rn.ren,↓DD,UU,↓reduceIte,xA,xB,xC,xD,xE,xF,xG,xH,xI,xJ,xK,xL,xM,xN,xO,xP,xQ,ne_eq,eq_self]
    exact⟨rfl,rfl,y,rfl,hS⟩
  ·rintro F' H' ⟨e0,e5,y,e4,hS⟩
   have hk:=hS.look
   have r1:=fun o=>rd_of hk o
   have r2:=fun o n=>rdn_of hk o n
   have hy1:=hS.lk 1 rfl
   have ry:=fun o=>rd_of hy1 o
   have nky:=hS.neq 0 1 (by decide) rfl rfl
   have nyk:=hS.qen 0 1 (by decide) rfl rfl
   cases ho:okPg t.s t.at' (w.get t.pat)
   ·have e:t.look (w.get t.pat)=t.miss:=by unfold Rn.look;rw[if_neg (by unfold Rn.isE;rw[ho];simp),if_neg (by unfold Rn.isS;rw[ho];simp)]
    rw[ho]at e5
    simp only[hk,r1,hy1,ry,e0,e4,e5,nky,nyk,Rn.ren,Ev.upd_upd,↓DD,UU,↓reduceIte,xA,xB,xC,xD,xE,xF,xG,xH,xI,xJ,xK,xL,xM,xN,xO,xP,xQ,ne_eq,eq_self]
    refine callT_of (m_rnmiss (by omega) (by omega) (by omega) hd hS) ?_
    rintro v H' ⟨rfl,hS⟩
    simp only[↓DD,UU,↓reduceIte,xA,xB,xC,xD,xE,xF,xG,xH,xI,xJ,xK,xL,xM,xN,xO,xP,xQ,ne_eq,eq_self]
    rw[e,MST]
    exact⟨ks,a2,cap2,g2,hL,hS.p1.tail.p4.p1⟩
   ·rw[ho]at e5
    by_cases hE:pgK t.s t.at' (w.get t.pat)=0
    ·have gE:(pgK t.s t.at' (w.get t.pat) == 0)=true:=beq_iff_eq.2 hE
     have e:t.look (w.get t.pat) = { t with nx:=1 }:=by unfold Rn.look;rw[if_pos (by unfold Rn.isE;rw[ho,decide_eq_true hE];rfl)]
     simp only[hk,r1,hy1,ry,e0,e4,e5,nky,nyk,gE,Rn.ren,Ev.upd_upd,↓DD,UU,↓reduceIte,xA,xB,xC,xD,xE,xF,xG,xH,xI,xJ,xK,xL,xM,xN,xO,xP,xQ,ne_eq,eq_self]
     rw[e]
     exact⟨ks,a2,cap2,g2,hL,(hS.set (.cells (Rn.ren ks { t with nx:=1 }) 148 (0,0))).p1.tail.p4.p1⟩
    ·have gE:(pgK t.s t.at' (w.get t.pat) == 0)=false:=beq_eq_false_iff_ne.2 hE
     have nE:¬ t.isE (w.get t.pat)=true:=by unfold Rn.isE;rw[decide_eq_false hE];simp
     by_cases hK:pgK t.s t.at' (w.get t.pat)=2
     ·have gK:(pgK t.s t.at' (w.get t.pat) == 2)=true:=beq_iff_eq.2 hK
      have e:t.look (w.get t.pat) = { t with nx:=2,st:=some (t.snew (w.get t.pat)) }:=by unfold Rn.look;rw[if_neg nE,if_pos (by unfold Rn.isS;rw[ho,decide_eq_true hK];rfl)]
      simp only[hk,r1,r2,hy1,ry,e0,e4,e5,nky,nyk,gE,gK,Rn.ren,Ev.upd_upd,↓DD,UU,↓reduceIte,xA,xB,xC,xD,xE,xF,xG,xH,xI,xJ,xK,xL,xM,xN,xO,xP,xQ,ne_eq,eq_self]
      refine draw_intro [(k,Rn.ren ks t,[9]),(y,#[.int .i64 (pgK t.s t.at' (w.get t.pat)),.int .i64 (pgA t.s t.at' (w.get t.pat)),.int .i64 (pgB t.s t.at' (w.get t.pat))],[])] (by simp only[hk,hy1,nky,nyk,Rn.ren,↓DD,UU,↓reduceIte,xA,xB,xC,xD,xE,xF,xG,xH,xI,xJ,xK,xL,xM,xN,xO,xP,xQ,ne_eq,eq_self]) ?_
      simp only[hk,r1,r2,hy1,ry,e0,e4,e5,nky,nyk,Rn.ren,Ev.upd_upd,↓DD,UU,↓reduceIte,xA,xB,xC,xD,xE,xF,xG,xH,xI,xJ,xK,xL,xM,xN,xO,xP,xQ,ne_eq,eq_self]
      refine callT_of (m_stnew (sh:=t.s) hS) ?_
      rintro v H' ⟨ks',rfl,hS⟩
      have hS:=hS.p1
      have hk:=hS.look
      have r1:=fun o=>rd_of hk o
      have hy1:=hS.lk 2 rfl
      have ry:=fun o=>rd_of hy1 o
      simp only[hk,r1,hy1,ry,nky,nyk,Rn.ren,Ev.upd_upd,↓DD,UU,↓reduceIte,xA,xB,xC,xD,xE,xF,xG,xH,xI,xJ,xK,xL,xM,xN,xO,xP,xQ,ne_eq,eq_self]
      rw[e]
      have hS:=hS.set (.cells (Rn.ren ks' { t with nx:=2,st:=some (t.snew (w.get t.pat)) }) 148 (0,0))
      exact⟨ks',a2,cap2,g2,hL,hS.p6.tail.p2.tail⟩
     ·have gK:(pgK t.s t.at' (w.get t.pat) == 2)=false:=beq_eq_false_iff_ne.2 hK
      have e:t.look (w.get t.pat)=t.miss:=by unfold Rn.look;rw[if_neg nE,if_neg (by unfold Rn.isS;rw[decide_eq_false hK];simp)]
      simp only[hk,r1,hy1,ry,e0,e4,e5,nky,nyk,gE,gK,Rn.ren,Ev.upd_upd,↓DD,UU,↓reduceIte,xA,xB,xC,xD,xE,xF,xG,xH,xI,xJ,xK,xL,xM,xN,xO,xP,xQ,ne_eq,eq_self]
      refine callT_of (m_rnmiss (by omega) (by omega) (by omega) hd hS) ?_
      rintro v H' ⟨rfl,hS⟩
      simp only[↓DD,UU,↓reduceIte,xA,xB,xC,xD,xE,xF,xG,xH,xI,xJ,xK,xL,xM,xN,xO,xP,xQ,ne_eq,eq_self]
      rw[e,MST]
      exact⟨ks,a2,cap2,g2,hL,hS.p1.tail.p4.p1⟩
 ·have g0:(t.nx == 0)=false:=beq_eq_false_iff_ne.2 (by omega)
  have g1:(t.nx == 1)=true:=beq_iff_eq.2 hn
  obtain⟨q0,q1⟩:=page_in (i:=t.at') hw hm (by omega) (by omega)
  simp only[hk,r1,r2,u_page,Rn.ren,hd,g0,g1,↓DD,UU,↓reduceIte,xA,xB,xC,xD,xE,xF,xG,xH,xI,xJ,xK,xL,xM,xN,xO,xP,xQ,ne_eq,eq_self]
  refine draw_intro [(k,Rn.ren ks t,[])] (by simp only[hk,↓DD,UU,↓reduceIte,xA,xB,xC,xD,xE,xF,xG,xH,xI,xJ,xK,xL,xM,xN,xO,xP,xQ,ne_eq,eq_self]) ?_
  simp only[hk,r1,r2,u_page,u_held,Rn.ren,hd,↓DD,UU,↓reduceIte,xA,xB,xC,xD,xE,xF,xG,xH,xI,xJ,xK,xL,xM,xN,xO,xP,xQ,ne_eq,eq_self]
  refine callT_of (m_swap _ _ _ _ q0 q1 hL hl hS.p4.p4.p4) ?_
  rintro v H' ⟨rfl,a2,cap2,g2,hL,hS⟩
  have hS:=hS.p3
  have hk:=hS.look
  have r1:=fun o=>rd_of hk o
  by_cases hz:w.get t.pat=0
  ·have gz:(w.get (page t.s.p t.s.c t.s.m t.at') == 0)=true:=beq_iff_eq.2 hz
   have e2:t.claim (w.get t.pat)=t.own:=by unfold Rn.claim;rw[if_pos hz]
   simp only[hk,r1,gz,Rn.ren,hd,↓DD,UU,↓reduceIte,xA,xB,xC,xD,xE,xF,xG,xH,xI,xJ,xK,xL,xM,xN,xO,xP,xQ,ne_eq,eq_self]
   refine callT_of (m_rnown (by omega) (by omega) (by omega) hS) ?_
   rintro v H' ⟨rfl,hS⟩
   simp only[↓DD,UU,↓reduceIte,xA,xB,xC,xD,xE,xF,xG,xH,xI,xJ,xK,xL,xM,xN,xO,xP,xQ,ne_eq,eq_self]
   rw[e2,OST]
   exact⟨ks,a2,cap2,g2,hL,hS.p4.p1⟩
  ·have gz:(w.get (page t.s.p t.s.c t.s.m t.at') == 0)=false:=beq_eq_false_iff_ne.2 hz
   have e2:t.claim (w.get t.pat)=t.miss:=by unfold Rn.claim;rw[if_neg hz]
   simp only[hk,r1,gz,Rn.ren,hd,↓DD,UU,↓reduceIte,xA,xB,xC,xD,xE,xF,xG,xH,xI,xJ,xK,xL,xM,xN,xO,xP,xQ,ne_eq,eq_self]
   refine callT_of (m_rnmiss (by omega) (by omega) (by omega) hd hS) ?_
   rintro v H' ⟨rfl,hS⟩
   simp only[↓DD,UU,↓reduceIte,xA,xB,xC,xD,xE,xF,xG,xH,xI,xJ,xK,xL,xM,xN,xO,xP,xQ,ne_eq,eq_self]
   rw[e2,MST]
   exact⟨ks,a2,cap2,g2,hL,hS.p4.p1⟩
 ·have g0:(t.nx == 0)=false:=beq_eq_false_iff_ne.2 (by omega)
  have g1:(t.nx == 1)=false:=beq_eq_false_iff_ne.2 (by omega)
  have g2':(t.nx == 2)=true:=beq_iff_eq.2 hn
  have hpo:rsO ks t.st=rsB ks q:=by rw[hq];rfl
  have hpt:ptS ks t.st=.pointer (some ⟨ks,0,none⟩):=by rw[hq];rfl
  rw[hpo]at hS
  simp only[hk,r1,r2,u_page,Rn.ren,hd,g0,g1,g2',hpt,↓DD,UU,↓reduceIte,xA,xB,xC,xD,xE,xF,xG,xH,xI,xJ,xK,xL,xM,xN,xO,xP,xQ,ne_eq,eq_self]
  refine callT_of (m_ststep hqw (fun _=>by rw[hqs];exact hw) hL hl hS.r4) ?_
  rintro v H' ⟨rfl,a2,cap2,g2,hL,hS⟩
  have hS:=hS.p4
  have hrn:rrB k ks t=rrB k ks { t with st:=some (q.step w).1 }:=by unfold rrB Rn.ren;rw[hq];rfl
  rw[hrn]at hS
  have hk:=hS.look
  have r1:=fun o=>rd_of hk o
  have hsO:∀ p:St,ptS ks (some p)=.pointer (some ⟨ks,0,none⟩):=fun _=>rfl
  have hq1:=hS.lk 1 rfl
  have rq:=fun o=>rd_of hq1 o
  have nkq:=hS.neq 0 1 (by decide) rfl rfl
  have nqk:=hS.qen 0 1 (by decide) rfl rfl
  cases hh:(q.step w).1.hd
  ·cases hqd2:(q.step w).1.dn
   ·have e2:t.outs (q.step w).1 = { t with st:=some (q.step w).1 }:=by unfold Rn.outs;rw[hh,hqd2];rfl
    simp only[hk,r1,hq1,rq,nkq,nqk,Rn.ren,St.ren,hsO,hh,hqd2,↓DD,UU,↓reduceIte,xA,xB,xC,xD,xE,xF,xG,xH,xI,xJ,xK,xL,xM,xN,xO,xP,xQ,ne_eq,eq_self]
    rw[e2]
    exact⟨ks,a2,cap2,g2,hL,hS⟩
   ·have e2:t.outs (q.step w).1=({ t with st:=some (q.step w).1 }:Rn).miss:=by unfold Rn.outs;rw[hh,hqd2];rfl
    have MST2:({ t with st:=some (q.step w).1 }:Rn).miss.st=some (q.step w).1:=by unfold Rn.miss Rn.gone;split<;>rfl
    simp only[hk,r1,hq1,rq,nkq,nqk,Rn.ren,St.ren,hsO,hh,hqd2,↓DD,UU,↓reduceIte,xA,xB,xC,xD,xE,xF,xG,xH,xI,xJ,xK,xL,xM,xN,xO,xP,xQ,ne_eq,eq_self]
    refine callT_of (m_rnmiss (t:={ t with st:=some (q.step w).1 }) (by show 0≤t.at'∧t.at'≤1000;omega) (by show 0≤t.n∧t.n≤1000;omega) (by show 0≤t.s.p∧t.s.p≤1000;omega) hd hS) ?_
    rintro v H' ⟨rfl,hS⟩
    simp only[↓DD,UU,↓reduceIte,xA,xB,xC,xD,xE,xF,xG,xH,xI,xJ,xK,xL,xM,xN,xO,xP,xQ,ne_eq,eq_self]
    rw[e2,MST2]
    exact⟨ks,a2,cap2,g2,hL,hS⟩
  ·have e2:t.outs (q.step w).1 = { t with st:=some (q.step w).1,nx:=3,i:=0 }:=by unfold Rn.outs;rw[hh];rfl
   simp only[hk,r1,hq1,rq,nkq,nqk,Rn.ren,St.ren,hsO,hh,Ev.upd_upd,↓DD,UU,↓reduceIte,xA,xB,xC,xD,xE,xF,xG,xH,xI,xJ,xK,xL,xM,xN,xO,xP,xQ,ne_eq,eq_self]
   rw[e2]
   exact⟨ks,a2,cap2,g2,hL,hS.set (.cells (Rn.ren ks { t with st:=some (q.step w).1,nx:=3,i:=0 }) 148 (0,0))⟩
 ·have g0:(t.nx == 0)=false:=beq_eq_false_iff_ne.2 (by omega)
  have g1:(t.nx == 1)=false:=beq_eq_false_iff_ne.2 (by omega)
  have g2':(t.nx == 2)=false:=beq_eq_false_iff_ne.2 (by omega)
  have g3:(t.nx == 3)=true:=beq_iff_eq.2 hn
  obtain⟨q0,q1⟩:=slot_in (i:=t.at') (j:=t.i) hw hm (by omega) (by omega) (by omega) (by omega)
  have w1:w64 (t.i+1)=t.i+1:=w64_eq (by omega) (by omega)
  simp only[hk,r1,r2,u_page,Rn.ren,hd,g0,g1,g2',g3,↓DD,UU,↓reduceIte,xA,xB,xC,xD,xE,xF,xG,xH,xI,xJ,xK,xL,xM,xN,xO,xP,xQ,ne_eq,eq_self]
  refine draw_intro [(k,Rn.ren ks t,[])] (by simp only[hk,↓DD,UU,↓reduceIte,xA,xB,xC,xD,xE,xF,xG,xH,xI,xJ,xK,xL,xM,xN,xO,xP,xQ,ne_eq,eq_self]) ?_
  simp only[hk,r1,r2,u_slot,Rn.ren,hd,↓DD,UU,↓reduceIte,xA,xB,xC,xD,xE,xF,xG,xH,xI,xJ,xK,xL,xM,xN,xO,xP,xQ,ne_eq,eq_self]
  refine callT_of (m_store _ _ _ q0 q1 hL hl hS.p4.p4.p4) ?_
  rintro v H' ⟨rfl,a2,cap2,g2,hL,hS⟩
  have hS:=hS.p3
  have hk:=hS.look
  have r1:=fun o=>rd_of hk o
  have hS1:=hS.set (.cells (Rn.ren ks { t with i:=t.i+1 }) 148 (0,0))
  by_cases h16:t.i+1=16
  ·have gi:(t.i+1 == 16)=true:=beq_iff_eq.2 h16
   have e2:t.clear=({ t with i:=t.i+1 }:Rn).own:=by unfold Rn.clear;rw[if_pos h16]
   have OST2:({ t with i:=t.i+1 }:Rn).own.st=t.st:=by unfold Rn.own;split;(unfold Rn.written;split<;>rfl);rfl
   simp only[hk,r1,wrap_w64,w1,gi,Rn.ren,Ev.upd_upd,↓DD,UU,↓reduceIte,xA,xB,xC,xD,xE,xF,xG,xH,xI,xJ,xK,xL,xM,xN,xO,xP,xQ,ne_eq,eq_self]
   refine callT_of (m_rnown (t:={ t with i:=t.i+1 }) (by show 0≤t.at'∧t.at'≤1000;omega) (by show 0≤t.hd∧t.hd≤1000;omega) (by show 0≤t.n∧t.n≤1000;omega) hS1) ?_
   rintro v H' ⟨rfl,hS⟩
   simp only[↓DD,UU,↓reduceIte,xA,xB,xC,xD,xE,xF,xG,xH,xI,xJ,xK,xL,xM,xN,xO,xP,xQ,ne_eq,eq_self]
   rw[e2,OST2]
   exact⟨ks,a2,cap2,g2,hL,hS.p4.p1⟩
  ·have gi:(t.i+1 == 16)=false:=beq_eq_false_iff_ne.2 h16
   have e2:t.clear = { t with i:=t.i+1 }:=by unfold Rn.clear;rw[if_neg h16]
   simp only[hk,r1,wrap_w64,w1,gi,Rn.ren,Ev.upd_upd,↓DD,UU,↓reduceIte,xA,xB,xC,xD,xE,xF,xG,xH,xI,xJ,xK,xL,xM,xN,xO,xP,xQ,ne_eq,eq_self]
   rw[e2]
   exact⟨ks,a2,cap2,g2,hL,hS1.p4.p1⟩
 ·have g0:(t.nx == 0)=false:=beq_eq_false_iff_ne.2 (by omega)
  have g1:(t.nx == 1)=false:=beq_eq_false_iff_ne.2 (by omega)
  have g2':(t.nx == 2)=false:=beq_eq_false_iff_ne.2 (by omega)
  have g3:(t.nx == 3)=false:=beq_eq_false_iff_ne.2 (by omega)
  have g4:(t.nx == 4)=true:=beq_iff_eq.2 hn
  have w1:w64 (t.i - 1)=t.i - 1:=w64_eq (by omega) (by omega)
  obtain⟨q0,q1⟩:=page_in (i:=t.i - 1) hw hm (by omega) (by omega)
  simp only[hk,r1,r2,u_page,wrap_w64,w1,Rn.ren,hd,g0,g1,g2',g3,g4,↓DD,UU,↓reduceIte,xA,xB,xC,xD,xE,xF,xG,xH,xI,xJ,xK,xL,xM,xN,xO,xP,xQ,ne_eq,eq_self]
  have hS:=hS.set (.cells (Rn.ren ks { t with i:=t.i - 1 }) 148 (0,0))
  have hk:=hS.look
  have r1:=fun o=>rd_of hk o
  have r2:=fun o n=>rdn_of hk o n
  have GST:({ t with i:=t.i - 1 }:Rn).gone.st=t.st:=by unfold Rn.gone;split<;>rfl
  have hren:Rn.ren ks { t with i:=t.i - 1 } = #[.int .i64 t.s.p,.int .i64 t.s.c,.int .i64 t.s.m,.int .i64 t.c,.int .i64 t.n,.int .i64 t.hd,.int .i64 t.at',.bool t.fd,.bool false,.int .i64 t.nx,.int .i64 t.gx,.int .i64 (t.i - 1),ptS ks t.st]:=by unfold Rn.ren;simp only[hd]
  rw[hren]at hk hS
  refine draw_intro [(k,Rn.ren ks { t with i:=t.i - 1 },[])] ?_ ?_
  ·rw[hren];simp only[↓DD,UU,↓reduceIte,xA,xB,xC,xD,xE,xF,xG,xH,xI,xJ,xK,xL,xM,xN,xO,xP,xQ,ne_eq,eq_self]
  rw[hren]
  have r1:=fun o=>rd_of hk o
  have r2:=fun o n=>rdn_of hk o n
  simp only[hk,r1,r2,u_page,↓DD,UU,↓reduceIte,xA,xB,xC,xD,xE,xF,xG,xH,xI,xJ,xK,xL,xM,xN,xO,xP,xQ,ne_eq,eq_self]
  refine callT_of (m_store _ _ _ q0 q1 hL hl hS.p4.p4.p4) ?_
  rintro v H' ⟨rfl,a2,cap2,g2,hL,hS⟩
  simp only[↓DD,UU,↓reduceIte,xA,xB,xC,xD,xE,xF,xG,xH,xI,xJ,xK,xL,xM,xN,xO,xP,xQ,ne_eq,eq_self]
  rw[← hren]at hS
  refine callT_of (m_rngone (t:={ t with i:=t.i - 1 }) (by show 0≤t.at'∧t.at'≤1000;omega) (by show t.gx=t.at'+1;omega) (by show 0≤t.n∧t.n≤1000;omega) (by show 0≤t.s.p∧t.s.p≤1000;omega) hd hS.p3) ?_
  rintro v H' ⟨rfl,hS⟩
  simp only[↓DD,UU,↓reduceIte,xA,xB,xC,xD,xE,xF,xG,xH,xI,xJ,xK,xL,xM,xN,xO,xP,xQ,ne_eq,eq_self]
  have hX:({ t with i:=t.i - 1,dn:=false }:Rn) = { t with i:=t.i - 1 }:=by rw[← hd]
  rw[hX,GST]
  exact⟨ks,a2,cap2,g2,hL,hS.p4.p1⟩
 ·have g0:(t.nx == 0)=false:=beq_eq_false_iff_ne.2 (by omega)
  have g1:(t.nx == 1)=false:=beq_eq_false_iff_ne.2 (by omega)
  have g2':(t.nx == 2)=false:=beq_eq_false_iff_ne.2 (by omega)
  have g3:(t.nx == 3)=false:=beq_eq_false_iff_ne.2 (by omega)
  have g4:(t.nx == 4)=false:=beq_eq_false_iff_ne.2 (by omega)
  have w1:w64 (t.i+1)=t.i+1:=w64_eq (by omega) (by omega)
  obtain⟨q0,q1⟩:=page_in (i:=t.i) hw hm (by omega) (by omega)
  simp only[hk,r1,r2,u_page,Rn.ren,hd,g0,g1,g2',g3,g4,↓DD,UU,↓reduceIte,xA,xB,xC,xD,xE,xF,xG,xH,xI,xJ,xK,xL,xM,xN,xO,xP,xQ,ne_eq,eq_self]
  refine draw_intro [(k,Rn.ren ks t,[])] (by simp only[hk,↓DD,UU,↓reduceIte,xA,xB,xC,xD,xE,xF,xG,xH,xI,xJ,xK,xL,xM,xN,xO,xP,xQ,ne_eq,eq_self]) ?_
  simp only[hk,r1,r2,u_page,u_putpg,Rn.ren,hd,↓DD,UU,↓reduceIte,xA,xB,xC,xD,xE,xF,xG,xH,xI,xJ,xK,xL,xM,xN,xO,xP,xQ,ne_eq,eq_self]
  refine callT_of (m_store _ _ _ q0 q1 hL hl hS.p4.p4.p4) ?_
  rintro v H' ⟨rfl,a2,cap2,g2,hL,hS⟩
  have hS:=hS.p3
  have hk:=hS.look
  have r1:=fun o=>rd_of hk o
  have WST:t.written.st=t.st:=by unfold Rn.written;split<;>rfl
  simp only[hk,r1,wrap_w64,w1,Rn.ren,Ev.upd_upd,↓DD,UU,↓reduceIte,xA,xB,xC,xD,xE,xF,xG,xH,xI,xJ,xK,xL,xM,xN,xO,xP,xQ,ne_eq,eq_self]
  refine callT_of (m_rnwritten (by omega) (by omega) (hS.set (.cells (Rn.ren ks { t with i:=t.i+1 }) 148 (0,0)))) ?_
  rintro v H' ⟨rfl,hS⟩
  simp only[↓DD,UU,↓reduceIte,xA,xB,xC,xD,xE,xF,xG,xH,xI,xJ,xK,xL,xM,xN,xO,xP,xQ,ne_eq,eq_self]
  rw[WST]
  exact⟨ks,a2,cap2,g2,hL,hS.p4.p1⟩
end
end Go.Proofs.YtbcdaglbdnkocaaGreat
