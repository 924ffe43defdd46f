/-
 The stripper: contracts of package strip, and of the document's. Conditions: none.
-/
import Derived.Test.YtbcdaglbdnkocaaGreatCodeY
import Derived.Test.YtbcdaglbdnkocaaGreatModel
import Derived.Test.YtbcdaglbdnkocaaGreatMaPS
open Nat renaming reduceAdd→xA,reduceMul→xB,reduceSub→xC,reduceEqDiff→xD,reduceBEq→xE,reduceLeDiff→xF,reduceLT→xG
open Int renaming reduceAdd→xH,reduceMul→xI,reduceSub→xJ,reduceLT→xK,reduceLE→xL,reduceToNat→xM,reduceEq→xN,reduceNe→xO,reduceBEq→xP,reduceBNe→xQ
set_option linter.unusedVariables false
set_option linter.unusedSimpArgs false
set_option maxRecDepth 8000
namespace Go.Proofs.YtbcdaglbdnkocaaGreat
open Go Go.Ev Go.Pl Go.Ma

def St.enc (t:St):Array Value:=#[.int .i64 t.s.p,.int .i64 t.s.c,.int .i64 t.s.m,.int .i64 t.c,.int .i64 t.p,.int .i64 t.k,.int .i64 t.i,.bool t.bk,.bool t.hd,.bool t.dn]
def St.ren (t:St):Array Value:=#[.int .i64 t.s.p,.int .i64 t.s.c,.int .i64 t.s.m,.int .i64 t.c,.int .i64 t.p,.int .i64 t.k,.int .i64 t.i,.bool t.hd,.bool t.dn,.bool t.bk]
def rsB (k:Nat) (t:St):Hp:=sg k (.cells (St.ren t) 184 (0,0))

section
variable {W:World} {H:Hp} {k b s:Nat} {t:St} {w:Wd} {l:List Hp}

/-! ### The document's -/
variable {a:Option Addr} {cap:Nat} {g:Hp}
theorem m_stnew {sh:Sh} {c p kk:Int} (hS:Sep l H) :
  CallP Tryz.prog W 132 #[.agg #[.int .i64 sh.p,.int .i64 sh.c,.int .i64 sh.m],.int .i64 c,.int .i64 p,.int .i64 kk] H fun v H'=>∃ k,v=.pointer (some ⟨k,0,none⟩)∧Sep (rsB k (St.new sh c p kk) :: l) H':=by
 refine CallP.of mixed Tryz.func132 tr132 (by show 4≤_;decide) fun W _=>?_
 simp only[↓DD,UU,↓reduceIte,xA,xB,xC,xD,xE,xF,xG,xH,xI,xJ,xK,xL,xM,xN,xO,xP,xQ,ne_eq,eq_self]
 refine newB_intro fun x hx f1 f2=>?_
 simp only[↓DD,UU,↓reduceIte,xA,xB,xC,xD,xE,xF,xG,xH,xI,xJ,xK,xL,xM,xN,xO,xP,xQ,ne_eq,eq_self]
 refine draw_intro [(x,#[.int .i64 sh.p,.int .i64 sh.c,.int .i64 sh.m],[])] (by simp only[↓DD,UU,↓reduceIte,xA,xB,xC,xD,xE,xF,xG,xH,xI,xJ,xK,xL,xM,xN,xO,xP,xQ,ne_eq,eq_self]) ?_
 have n1:decide (page sh.p sh.c sh.m p<0) = !decide (0≤page sh.p sh.c sh.m p):=by rw[← decide_not];exact decide_eq_decide.2 (by omega)
 have sb:=slots_bd kk
 have n2:(slots kk == 0) = !decide (0<slots kk):=by
  rw[← decide_not];show decide _=_;exact decide_eq_decide.2 (by omega)
 cases h1:decide (0≤status sh.p sh.c sh.m c)<;>cases h2:decide (0≤page sh.p sh.c sh.m p)<;>cases h3:decide (0<slots kk)
 all_goals
  rw[h2]at n1
  rw[h3]at n2
  simp only[u_good,u_page,u_slots,h1,n1,n2,↓DD,UU,↓reduceIte,xA,xB,xC,xD,xE,xF,xG,xH,xI,xJ,xK,xL,xM,xN,xO,xP,xQ,ne_eq,eq_self]
  refine newB_intro fun y hy f3 f4=>?_
  have nxy:(x=y)=False:=f3 x (by rw[upd_same];rfl)
  simp only[nxy,↓DD,UU,↓reduceIte,xA,xB,xC,xD,xE,xF,xG,xH,xI,xJ,xK,xL,xM,xN,xO,xP,xQ,ne_eq,eq_self]
  refine⟨y,rfl,?_⟩
  have:=((hS.new f1 _).new f3 (.cells (St.ren (St.new sh c p kk)) 184 (0,0))).p1.tail
  unfold St.new good at this ⊢
  simp only[h1,h2,h3]at this ⊢
  exact this
theorem m_ststep (ht:t.wf) (hw:t.dn=false→w.of t.s) (hL:LogOk a cap w g) (hl:w.st+1≤1000000000) (hS:Sep (rsB k t :: mB b s a cap w :: wR s w :: g :: l) H) :
  CallP Tryz.prog W 129 #[.pointer (some ⟨k,0,none⟩),.pointer (some ⟨b,0,none⟩)] H fun v H'=>v=.tuple #[] ∧
   ∃ a2 cap2 g2,LogOk a2 cap2 (t.step w).2 g2∧Sep (rsB k (t.step w).1 :: mB b s a2 cap2 (t.step w).2 :: wR s (t.step w).2 :: g2 :: l) H':=by
 refine CallP.of mixed Tryz.func129 tr129 (by show 2≤_;decide) fun W _=>?_
 have hk:=hS.look
 have r1:=fun o=>rd_of hk o
 have r2:=fun o n=>rdn_of hk o n
 rcases St.step_cases t w with⟨hd,e⟩|⟨hd,⟨hb,e⟩|⟨hb,hi,e⟩|⟨hb,hi,hz,e⟩|⟨hb,hi,hz,e⟩⟩<;>rw[e]
 ·simp only[hk,r1,St.ren,hd,↓DD,UU,↓reduceIte,xA,xB,xC,xD,xE,xF,xG,xH,xI,xJ,xK,xL,xM,xN,xO,xP,xQ,ne_eq,eq_self]
  exact⟨a,cap,g,hL,hS⟩
 all_goals
  obtain⟨hm,c0,c1,p0,p1,k0,i0,i1,ib⟩:=ht.of hd
  have hw:=hw hd
  have sb:=slots_bd t.k
 ·have ib:=ib hb
  have w1:w64 (t.i - 1)=t.i - 1:=w64_eq (by omega) (by omega)
  obtain⟨q0,q1⟩:=slot_in hw hm p0 p1 (j:=t.i - 1) (by omega) (by omega)
  simp only[hk,r1,wrap_w64,w1,St.ren,hd,hb,↓DD,UU,↓reduceIte,xA,xB,xC,xD,xE,xF,xG,xH,xI,xJ,xK,xL,xM,xN,xO,xP,xQ,ne_eq,eq_self]
  refine draw_intro [(k,#[.int .i64 t.s.p,.int .i64 t.s.c,.int .i64 t.s.m,.int .i64 t.c,.int .i64 t.p,.int .i64 t.k,.int .i64 (t.i - 1),.bool t.hd,.bool false,.bool true],[])] (by simp only[hk,↓DD,UU,↓reduceIte,xA,xB,xC,xD,xE,xF,xG,xH,xI,xJ,xK,xL,xM,xN,xO,xP,xQ,ne_eq,eq_self]) ?_
  simp only[u_slot,u_opn,↓DD,UU,↓reduceIte,xA,xB,xC,xD,xE,xF,xG,xH,xI,xJ,xK,xL,xM,xN,xO,xP,xQ,ne_eq,eq_self]
  refine callT_of (m_store _ _ _ q0 q1 hL hl (hS.set _).r3) ?_
  rintro v H' ⟨rfl,a2,cap2,g2,hL,hS⟩
  have hS:=hS.p3
  have hk:=hS.look
  have r1:=fun o=>rd_of hk o
  simp only[hk,r1,St.ren,hd,hb,↓DD,UU,↓reduceIte,xA,xB,xC,xD,xE,xF,xG,xH,xI,xJ,xK,xL,xM,xN,xO,xP,xQ,ne_eq,eq_self]
  refine⟨a2,cap2,g2,hL,?_⟩
  have:=hS.set (.cells (St.ren { t with i:=t.i - 1,dn:=decide (t.i - 1=0) }) 184 (0,0))
  unfold St.ren at this
  simp only[hb]at this
  unfold rsB St.ren
  simp only[hb]
  exact this
 ·have hi':(t.i == slots t.k)=true:=by simp [hi]
  obtain⟨q0,q1⟩:=page_in hw hm p0 p1
  simp only[hk,r1,u_slots,hi',St.ren,hd,hb,↓DD,UU,↓reduceIte,xA,xB,xC,xD,xE,xF,xG,xH,xI,xJ,xK,xL,xM,xN,xO,xP,xQ,ne_eq,eq_self]
  refine draw_intro [(k,St.ren t,[])] (by simp only[hk,↓DD,UU,↓reduceIte,xA,xB,xC,xD,xE,xF,xG,xH,xI,xJ,xK,xL,xM,xN,xO,xP,xQ,ne_eq,eq_self]) ?_
  simp only[hk,r1,r2,u_page,u_held,St.ren,hd,hb,↓DD,UU,↓reduceIte,xA,xB,xC,xD,xE,xF,xG,xH,xI,xJ,xK,xL,xM,xN,xO,xP,xQ,ne_eq,eq_self]
  refine callT_of (m_store _ _ _ q0 q1 hL hl hS.r3) ?_
  rintro v H' ⟨rfl,a2,cap2,g2,hL,hS⟩
  have hS:=hS.p3
  have hk:=hS.look
  have r1:=fun o=>rd_of hk o
  simp only[hk,r1,St.ren,hd,hb,↓DD,UU,↓reduceIte,xA,xB,xC,xD,xE,xF,xG,xH,xI,xJ,xK,xL,xM,xN,xO,xP,xQ,ne_eq,eq_self]
  refine⟨a2,cap2,g2,hL,?_⟩
  have:=hS.set (.cells (St.ren { t with hd:=true,dn:=true }) 184 (0,0))
  unfold St.ren at this
  simp only[hb]at this
  unfold rsB St.ren
  simp only[hb]
  exact this
 ·have hi':(t.i == slots t.k)=false:=by simp [hi]
  have hz':(w.get (slot t.s.p t.s.c t.s.m t.p t.i) == opn t.k)=true:=beq_iff_eq.2 hz
  have w1:w64 (t.i+1)=t.i+1:=w64_eq (by omega) (by omega)
  obtain⟨q0,q1⟩:=slot_in hw hm p0 p1 (j:=t.i) (by omega) (by omega)
  simp only[hk,r1,u_slots,hi',St.ren,hd,hb,↓DD,UU,↓reduceIte,xA,xB,xC,xD,xE,xF,xG,xH,xI,xJ,xK,xL,xM,xN,xO,xP,xQ,ne_eq,eq_self]
  refine draw_intro [(k,St.ren t,[])] (by simp only[hk,↓DD,UU,↓reduceIte,xA,xB,xC,xD,xE,xF,xG,xH,xI,xJ,xK,xL,xM,xN,xO,xP,xQ,ne_eq,eq_self]) ?_
  simp only[hk,r1,r2,u_slot,u_opn,u_way,St.ren,hd,hb,↓DD,UU,↓reduceIte,xA,xB,xC,xD,xE,xF,xG,xH,xI,xJ,xK,xL,xM,xN,xO,xP,xQ,ne_eq,eq_self]
  refine callT_of (m_swap _ _ _ _ q0 q1 hL hl hS.r3) ?_
  rintro v H' ⟨rfl,a2,cap2,g2,hL,hS⟩
  have hS:=hS.p3
  have hk:=hS.look
  have r1:=fun o=>rd_of hk o
  simp only[hk,r1,hz',wrap_w64,w1,St.ren,hd,hb,↓DD,UU,↓reduceIte,xA,xB,xC,xD,xE,xF,xG,xH,xI,xJ,xK,xL,xM,xN,xO,xP,xQ,ne_eq,eq_self]
  refine⟨a2,cap2,g2,hL,?_⟩
  have:=hS.set (.cells (St.ren { t with i:=t.i+1 }) 184 (0,0))
  unfold St.ren at this
  simp only[hb,hd]at this
  unfold rsB St.ren
  simp only[hb,hd]
  exact this
 ·have hi':(t.i == slots t.k)=false:=by simp [hi]
  have hz':(w.get (slot t.s.p t.s.c t.s.m t.p t.i) == opn t.k)=false:=beq_eq_false_iff_ne.2 hz
  obtain⟨q0,q1⟩:=slot_in hw hm p0 p1 (j:=t.i) (by omega) (by omega)
  simp only[hk,r1,u_slots,hi',St.ren,hd,hb,↓DD,UU,↓reduceIte,xA,xB,xC,xD,xE,xF,xG,xH,xI,xJ,xK,xL,xM,xN,xO,xP,xQ,ne_eq,eq_self]
  refine draw_intro [(k,St.ren t,[])] (by simp only[hk,↓DD,UU,↓reduceIte,xA,xB,xC,xD,xE,xF,xG,xH,xI,xJ,xK,xL,xM,xN,xO,xP,xQ,ne_eq,eq_self]) ?_
  simp only[hk,r1,r2,u_slot,u_opn,u_way,St.ren,hd,hb,↓DD,UU,↓reduceIte,xA,xB,xC,xD,xE,xF,xG,xH,xI,xJ,xK,xL,xM,xN,xO,xP,xQ,ne_eq,eq_self]
  refine callT_of (m_swap _ _ _ _ q0 q1 hL hl hS.r3) ?_
  rintro v H' ⟨rfl,a2,cap2,g2,hL,hS⟩
  have hS:=hS.p3
  have hk:=hS.look
  have r1:=fun o=>rd_of hk o
  simp only[hk,r1,hz',St.ren,hd,hb,↓DD,UU,↓reduceIte,xA,xB,xC,xD,xE,xF,xG,xH,xI,xJ,xK,xL,xM,xN,xO,xP,xQ,ne_eq,eq_self]
  refine⟨a2,cap2,g2,hL,?_⟩
  have:=hS.set (.cells (St.ren { t with bk:=true,dn:=decide (t.i=0) }) 184 (0,0))
  unfold St.ren at this
  unfold rsB St.ren
  exact this
end

end Go.Proofs.YtbcdaglbdnkocaaGreat
