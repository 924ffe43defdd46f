/-
 The page claimer: contracts of package page. Conditions: none.
-/
import Derived.Test.YtbcdaglbdnkocaaGreatCodeY
import Derived.Test.YtbcdaglbdnkocaaGreatWords
import Derived.Test.YtbcdaglbdnkocaaGreatModel
open Nat renaming reduceAdd→xA,reduceMul→xB,reduceSub→xC,reduceEqDiff→xD,reduceBEq→xE,reduceLeDiff→xF,reduceLT→xG
open Int renaming reduceAdd→xH,reduceMul→xI,reduceSub→xJ,reduceLT→xK,reduceLE→xL,reduceToNat→xM,reduceEq→xN,reduceNe→xO,reduceBEq→xP,reduceBNe→xQ
set_option linter.unusedVariables false
set_option linter.unusedSimpArgs false
set_option maxRecDepth 8000
namespace Go.Proofs.YtbcdaglbdnkocaaGreat
open Go Go.Ev Go.Pl Go.Ma

def Pc.enc (t:Pc):Array Value:=#[.int .i64 t.s.p,.int .i64 t.s.c,.int .i64 t.s.m,.int .i64 t.c,.int .i64 t.f,.int .i64 t.many,.bool t.em,.bool t.fd,.bool t.dn]
section
variable {W:World} {H:Hp} {k b s:Nat} {t:Pc} {w:Wd} {l:List Hp}

/-! ### The document's -/
def Pc.ren (t:Pc) (q:Int):Array Value:=#[.int .i64 t.s.p,.int .i64 t.s.c,.int .i64 t.s.m,.int .i64 t.c,.int .i64 t.f,.int .i64 t.many,.int .i64 q,.bool t.fd,.bool t.dn,.bool (t.em && !t.fd)]
def rpB (k:Nat) (t:Pc) (q:Int):Hp:=sg k (.cells (Pc.ren t q) 182 (0,0))
theorem m_pcnew {sh:Sh} {c f:Int} (hS:Sep l H) :
  CallP Tryz.prog W 121 #[.agg #[.int .i64 sh.p,.int .i64 sh.c,.int .i64 sh.m],.int .i64 c,.int .i64 f] H fun v H'=>∃ k,v=.pointer (some ⟨k,0,none⟩)∧Sep (rpB k (Pc.new sh c f) f :: l) H':=by
 refine CallP.of mixed Tryz.func121 tr121 (by show 3≤_;decide) fun W _=>?_
 simp only[↓DD,UU,↓reduceIte,xA,xB,xC,xD,xE,xF,xG,xH,xI,xJ,xK,xL,xM,xN,xO,xP,xQ,ne_eq,eq_self]
 refine newB_intro fun x hx f1 f2=>?_
 simp only[↓DD,UU,↓reduceIte,xA,xB,xC,xD,xE,xF,xG,xH,xI,xJ,xK,xL,xM,xN,xO,xP,xQ,ne_eq,eq_self]
 refine draw_intro [(x,#[.int .i64 sh.p,.int .i64 sh.c,.int .i64 sh.m],[])] (by simp only[↓DD,UU,↓reduceIte,xA,xB,xC,xD,xE,xF,xG,xH,xI,xJ,xK,xL,xM,xN,xO,xP,xQ,ne_eq,eq_self]) ?_
 have hneg:(!decide (0≤status sh.p sh.c sh.m c))=decide (status sh.p sh.c sh.m c<0):=by
  rw[← decide_not];exact decide_eq_decide.2 (by omega)
 cases h1:decide (status sh.p sh.c sh.m c<0)
 all_goals
  rw[h1]at hneg
  simp only[u_good,u_page,hneg,↓DD,UU,↓reduceIte,xA,xB,xC,xD,xE,xF,xG,xH,xI,xJ,xK,xL,xM,xN,xO,xP,xQ,ne_eq,eq_self]
  refine newB_intro fun y hy f3 f4=>?_
  have nxy:(x=y)=False:=f3 x (by rw[upd_same];rfl)
  have nyx:(y=x)=False:=f4 x (by rw[upd_same];rfl)
  simp only[nxy,nyx,↓DD,UU,↓reduceIte,xA,xB,xC,xD,xE,xF,xG,xH,xI,xJ,xK,xL,xM,xN,xO,xP,xQ,ne_eq,eq_self]
  refine⟨y,rfl,?_⟩
  have:=((hS.new f1 _).new f3 (.cells (Pc.ren (Pc.new sh c f) f) 182 (0,0))).p1.tail
  unfold Pc.new at this ⊢
  simp only[h1]at this ⊢
  exact this
theorem m_pcstep {q:Int} {a:Option Addr} {cap:Nat} {g:Hp} (ht:t.wf) (hw:t.dn=false→w.of t.s) (hfd:t.dn=false→t.fd=false) (hq:t.dn=false∨t.fd=true→q=t.pg) (hL:LogOk a cap w g) (hl:w.st+1≤1000000000) (hS:Sep (rpB k t q :: mB b s a cap w :: wR s w :: g :: l) H) :
  CallP Tryz.prog W 127 #[.pointer (some ⟨k,0,none⟩),.pointer (some ⟨b,0,none⟩)] H fun v H'=>v=.tuple #[]∧∃ q2,((t.step w).1.dn=false∨(t.step w).1.fd=true→q2=(t.step w).1.pg) ∧
   ∃ a2 cap2 g2,LogOk a2 cap2 (t.step w).2 g2∧Sep (rpB k (t.step w).1 q2 :: mB b s a2 cap2 (t.step w).2 :: wR s (t.step w).2 :: g2 :: l) H':=by
 refine CallP.of mixed Tryz.func127 tr127 (by show 2≤_;decide) fun W _=>?_
 have hk:=hS.look
 have r1:=fun o=>rd_of hk o
 have r2:=fun o n=>rdn_of hk o n
 cases hd:t.dn
 rotate_left
 ·have e:t.step w=(t,w):=by unfold Pc.step;rw[hd];rfl
  rw[e]
  simp only[hk,r1,r2,u_page,Pc.ren,hd,↓DD,UU,↓reduceIte,xA,xB,xC,xD,xE,xF,xG,xH,xI,xJ,xK,xL,xM,xN,xO,xP,xQ,ne_eq,eq_self]
  exact⟨q,fun h=>hq (h.imp (fun h=>by cases h) id),a,cap,g,hL,hS⟩
 obtain⟨hm,c0,c1,f0,f1,m0,m1⟩:=ht.of hd
 have hw:=hw hd
 have hfd:=hfd hd
 have hq:=hq (.inl hd)
 subst hq
 obtain⟨a1,a2,a3,a4,a5,a6⟩:=(may_iff _ _ _).1 hm
 have hpg:=mod_bd (a:=t.f+t.many) (p:=t.s.p) (by omega)
 obtain⟨q0,q1⟩:=page_in hw hm hpg.1 hpg.2
 have wm:w64 (t.many+1)=t.many+1:=w64_eq (by omega) (by omega)
 cases he:t.em
 ·simp only[hk,r1,r2,u_page,Pc.ren,hd,he,hfd,↓DD,UU,↓reduceIte,xA,xB,xC,xD,xE,xF,xG,xH,xI,xJ,xK,xL,xM,xN,xO,xP,xQ,ne_eq,eq_self]
  refine callT_of (m_load _ _ q0 q1 hL hl hS.r3) ?_
  rintro v H' ⟨rfl,a2,cap2,g2,hL,hS⟩
  have hS:=hS.p3
  have hk:=hS.look
  have r1:=fun o=>rd_of hk o
  have r2:=fun o n=>rdn_of hk o n
  cases hz:(w.get t.at' == 0)
  ·have hz':(w.get (page t.s.p t.s.c t.s.m t.pg) == 0)=false:=hz
   have e:t.step w=(t.next,w.load t.c t.at'):=by
    unfold Pc.step;rw[hd,he];have:¬ w.get t.at'=0:=by simpa using hz
    simp [this]
   rw[e]
   by_cases hn:t.many+1=t.s.p
   ·have hn':(t.many+1 == t.s.p)=true:=by simp [hn]
    simp only[hk,r1,hz',hn',Pc.ren,hd,he,hfd,wrap_w64,wm,↓DD,UU,↓reduceIte,xA,xB,xC,xD,xE,xF,xG,xH,xI,xJ,xK,xL,xM,xN,xO,xP,xQ,ne_eq,eq_self]
    refine⟨t.pg,fun h=>?_,a2,cap2,g2,hL,?_⟩
    ·rcases h with h | h
     ·simp [Pc.next,hn]at h
     ·have:=hfd;simp [Pc.next]at h;rw[h]at this;cases this
    ·have:=hS.set (.cells (Pc.ren t.next t.pg) 182 (0,0))
     unfold Pc.ren Pc.next at this
     simp only[hn,hfd,↓DD,UU,↓reduceIte,xA,xB,xC,xD,xE,xF,xG,xH,xI,xJ,xK,xL,xM,xN,xO,xP,xQ,ne_eq,eq_self]at this
     unfold rpB Pc.ren Pc.next
     simp only[hn,hfd,↓DD,UU,↓reduceIte,xA,xB,xC,xD,xE,xF,xG,xH,xI,xJ,xK,xL,xM,xN,xO,xP,xQ,ne_eq,eq_self]
     exact this
   ·have hn':(t.many+1 == t.s.p)=false:=by simp [hn]
    have u1:=u_round t.s t.f (t.many+1) (by omega) (by omega) (by omega)
    simp only[hk,r1,hz',hn',Pc.ren,hd,he,hfd,wrap_w64,wm,↓DD,UU,↓reduceIte,xA,xB,xC,xD,xE,xF,xG,xH,xI,xJ,xK,xL,xM,xN,xO,xP,xQ,ne_eq,eq_self]
    refine draw_intro [(k,#[.int .i64 t.s.p,.int .i64 t.s.c,.int .i64 t.s.m,.int .i64 t.c,.int .i64 t.f,.int .i64 (t.many+1),.int .i64 t.pg,.bool false,.bool false,.bool false],[])] (by simp only[↓DD,UU,↓reduceIte,xA,xB,xC,xD,xE,xF,xG,xH,xI,xJ,xK,xL,xM,xN,xO,xP,xQ,ne_eq,eq_self]) ?_
    simp only[u1,↓DD,UU,↓reduceIte,xA,xB,xC,xD,xE,xF,xG,xH,xI,xJ,xK,xL,xM,xN,xO,xP,xQ,ne_eq,eq_self]
    refine⟨t.next.pg,fun _=>rfl,a2,cap2,g2,hL,?_⟩
    have:=hS.set (.cells (Pc.ren t.next t.next.pg) 182 (0,0))
    unfold Pc.ren Pc.next at this
    simp only[hn,hfd,↓DD,UU,↓reduceIte,xA,xB,xC,xD,xE,xF,xG,xH,xI,xJ,xK,xL,xM,xN,xO,xP,xQ,ne_eq,eq_self]at this
    unfold rpB Pc.ren Pc.next
    simp only[hn,hfd,↓DD,UU,↓reduceIte,xA,xB,xC,xD,xE,xF,xG,xH,xI,xJ,xK,xL,xM,xN,xO,xP,xQ,ne_eq,eq_self]
    exact this
  ·have hz':(w.get (page t.s.p t.s.c t.s.m t.pg) == 0)=true:=hz
   have e:t.step w=({ t with em:=true },w.load t.c t.at'):=by
    unfold Pc.step;rw[hd,he];have:w.get t.at'=0:=by simpa using hz
    simp [this]
   rw[e]
   simp only[hk,r1,hz',Pc.ren,hd,he,hfd,↓DD,UU,↓reduceIte,xA,xB,xC,xD,xE,xF,xG,xH,xI,xJ,xK,xL,xM,xN,xO,xP,xQ,ne_eq,eq_self]
   refine⟨t.pg,fun _=>rfl,a2,cap2,g2,hL,?_⟩
   have:=hS.set (.cells (Pc.ren { t with em:=true } t.pg) 182 (0,0))
   unfold Pc.ren at this
   simp only[hd,hfd,↓DD,UU,↓reduceIte,xA,xB,xC,xD,xE,xF,xG,xH,xI,xJ,xK,xL,xM,xN,xO,xP,xQ,ne_eq,eq_self]at this
   unfold rpB Pc.ren
   simp only[hd,hfd,↓DD,UU,↓reduceIte,xA,xB,xC,xD,xE,xF,xG,xH,xI,xJ,xK,xL,xM,xN,xO,xP,xQ,ne_eq,eq_self]
   exact this
 ·simp only[hk,r1,r2,u_page,Pc.ren,hd,he,hfd,↓DD,UU,↓reduceIte,xA,xB,xC,xD,xE,xF,xG,xH,xI,xJ,xK,xL,xM,xN,xO,xP,xQ,ne_eq,eq_self]
  refine draw_intro [(k,#[.int .i64 t.s.p,.int .i64 t.s.c,.int .i64 t.s.m,.int .i64 t.c,.int .i64 t.f,.int .i64 t.many,.int .i64 t.pg,.bool false,.bool false,.bool false],[])] (by simp only[hk,↓DD,UU,↓reduceIte,xA,xB,xC,xD,xE,xF,xG,xH,xI,xJ,xK,xL,xM,xN,xO,xP,xQ,ne_eq,eq_self]) ?_
  simp only[u_held,↓DD,UU,↓reduceIte,xA,xB,xC,xD,xE,xF,xG,xH,xI,xJ,xK,xL,xM,xN,xO,xP,xQ,ne_eq,eq_self]
  refine callT_of (m_swap _ _ _ _ q0 q1 hL hl (hS.set _).r3) ?_
  rintro v H' ⟨rfl,a2,cap2,g2,hL,hS⟩
  have hS:=hS.p3
  have hk:=hS.look
  have r1:=fun o=>rd_of hk o
  have r2:=fun o n=>rdn_of hk o n
  cases hz:(w.get t.at' == 0)
  ·have hz':(w.get (page t.s.p t.s.c t.s.m t.pg) == 0)=false:=hz
   have e:t.step w=(t.next,w.swap t.c t.at' 0 (held t.c)):=by
    unfold Pc.step;rw[hd,he];have:¬ w.get t.at'=0:=by simpa using hz
    simp [this]
   rw[e]
   by_cases hn:t.many+1=t.s.p
   ·have hn':(t.many+1 == t.s.p)=true:=by simp [hn]
    simp only[hk,r1,hz',hn',Pc.ren,hd,he,hfd,wrap_w64,wm,↓DD,UU,↓reduceIte,xA,xB,xC,xD,xE,xF,xG,xH,xI,xJ,xK,xL,xM,xN,xO,xP,xQ,ne_eq,eq_self]
    refine⟨t.pg,fun h=>?_,a2,cap2,g2,hL,?_⟩
    ·rcases h with h | h
     ·simp [Pc.next,hn]at h
     ·have:=hfd;simp [Pc.next]at h;rw[h]at this;cases this
    ·have:=hS.set (.cells (Pc.ren t.next t.pg) 182 (0,0))
     unfold Pc.ren Pc.next at this
     simp only[hn,hfd,↓DD,UU,↓reduceIte,xA,xB,xC,xD,xE,xF,xG,xH,xI,xJ,xK,xL,xM,xN,xO,xP,xQ,ne_eq,eq_self]at this
     unfold rpB Pc.ren Pc.next
     simp only[hn,hfd,↓DD,UU,↓reduceIte,xA,xB,xC,xD,xE,xF,xG,xH,xI,xJ,xK,xL,xM,xN,xO,xP,xQ,ne_eq,eq_self]
     exact this
   ·have hn':(t.many+1 == t.s.p)=false:=by simp [hn]
    have u1:=u_round t.s t.f (t.many+1) (by omega) (by omega) (by omega)
    simp only[hk,r1,hz',hn',Pc.ren,hd,he,hfd,wrap_w64,wm,↓DD,UU,↓reduceIte,xA,xB,xC,xD,xE,xF,xG,xH,xI,xJ,xK,xL,xM,xN,xO,xP,xQ,ne_eq,eq_self]
    refine draw_intro [(k,#[.int .i64 t.s.p,.int .i64 t.s.c,.int .i64 t.s.m,.int .i64 t.c,.int .i64 t.f,.int .i64 (t.many+1),.int .i64 t.pg,.bool false,.bool false,.bool false],[])] (by simp only[↓DD,UU,↓reduceIte,xA,xB,xC,xD,xE,xF,xG,xH,xI,xJ,xK,xL,xM,xN,xO,xP,xQ,ne_eq,eq_self]) ?_
    simp only[u1,↓DD,UU,↓reduceIte,xA,xB,xC,xD,xE,xF,xG,xH,xI,xJ,xK,xL,xM,xN,xO,xP,xQ,ne_eq,eq_self]
    refine⟨t.next.pg,fun _=>rfl,a2,cap2,g2,hL,?_⟩
    have:=hS.set (.cells (Pc.ren t.next t.next.pg) 182 (0,0))
    unfold Pc.ren Pc.next at this
    simp only[hn,hfd,↓DD,UU,↓reduceIte,xA,xB,xC,xD,xE,xF,xG,xH,xI,xJ,xK,xL,xM,xN,xO,xP,xQ,ne_eq,eq_self]at this
    unfold rpB Pc.ren Pc.next
    simp only[hn,hfd,↓DD,UU,↓reduceIte,xA,xB,xC,xD,xE,xF,xG,xH,xI,xJ,xK,xL,xM,xN,xO,xP,xQ,ne_eq,eq_self]
    exact this
  ·have hz':(w.get (page t.s.p t.s.c t.s.m t.pg) == 0)=true:=hz
   have e:t.step w=({ t with fd:=true,dn:=true },w.swap t.c t.at' 0 (held t.c)):=by
    unfold Pc.step;rw[hd,he];have:w.get t.at'=0:=by simpa using hz
    simp [this]
   rw[e]
   simp only[hk,r1,hz',hd,he,hfd,↓DD,UU,↓reduceIte,xA,xB,xC,xD,xE,xF,xG,xH,xI,xJ,xK,xL,xM,xN,xO,xP,xQ,ne_eq,eq_self]
   refine⟨t.pg,fun _=>rfl,a2,cap2,g2,hL,?_⟩
   have:=hS.set (.cells (Pc.ren { t with fd:=true,dn:=true } t.pg) 182 (0,0))
   unfold Pc.ren at this
   simp only[he,↓DD,UU,↓reduceIte,xA,xB,xC,xD,xE,xF,xG,xH,xI,xJ,xK,xL,xM,xN,xO,xP,xQ,ne_eq,eq_self]at this
   unfold rpB Pc.ren
   simp only[he,↓DD,UU,↓reduceIte,xA,xB,xC,xD,xE,xF,xG,xH,xI,xJ,xK,xL,xM,xN,xO,xP,xQ,ne_eq,eq_self]
   exact this
end

end Go.Proofs.YtbcdaglbdnkocaaGreat
