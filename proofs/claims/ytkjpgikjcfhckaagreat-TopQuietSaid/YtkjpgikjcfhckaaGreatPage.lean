/-
 The page claimer: contracts of package page. Conditions: none.
-/
import Derived.Test.YtkjpgikjcfhckaaGreatCodeX
import Derived.Test.YtkjpgikjcfhckaaGreatCodeY
import Derived.Test.YtkjpgikjcfhckaaGreatWords
import Derived.Test.YtkjpgikjcfhckaaGreatModel
open Nat renaming reduceAdd→xA,reduceMul→xB,reduceSub→xC,reduceEqDiff→xD,reduceBEq→xE,reduceLeDiff→xF,reduceLT→xG
open Int renaming reduceAdd→xH,reduceMul→xI,reduceSub→xJ,reduceLT→xK,reduceLE→xL,reduceToNat→xM,reduceEq→xN,reduceNe→xO,reduceBEq→xP,reduceBNe→xQ
set_option linter.unusedVariables false
set_option linter.unusedSimpArgs false
set_option maxRecDepth 8000
namespace Go.Proofs.YtkjpgikjcfhckaaGreat
open Go Go.Ev Go.Pl Go.Ma

def Pc.enc (t:Pc):Array Value:=#[.int .i64 t.s.p,.int .i64 t.s.c,.int .i64 t.s.m,.int .i64 t.c,.int .i64 t.f,.int .i64 t.many,.bool t.em,.bool t.fd,.bool t.dn]
def pcB (k:Nat) (t:Pc):Hp:=sg k (.cells (Pc.enc t) 259 (0,0))

section
variable {W:World} {H:Hp} {k b s:Nat} {t:Pc} {w:Wd} {l:List Hp}

theorem c_pcdone (hS:Sep (pcB k t :: l) H) :
  CallP Tryz.prog W 257 #[.pointer (some ⟨k,0,none⟩)] H fun v H'=>v=.bool t.dn∧Sep (pcB k t :: l) H':=by
 refine CallP.of mixed Tryz.func257 tr257 (by show 1≤_;decide) fun W _=>?_
 have hk:=hS.look
 have r1:=fun o=>rd_of hk o
 simp only[r1,Pc.enc,↓DD,UU,↓reduceIte,xE]
 exact hS
theorem c_pcpage (hp:0<t.s.p) (h0:0≤t.f+t.many) (h1:t.f+t.many≤9223372036854775807) (hS:Sep (pcB k t :: l) H) :
  CallP Tryz.prog W 167 #[.pointer (some ⟨k,0,none⟩)] H fun v H'=>v=.int .i64 t.pg∧Sep (pcB k t :: l) H':=by
 refine CallP.of mixed Tryz.func167 tr167 (by show 1≤_;decide) fun W _=>?_
 have hk:=hS.look
 have r1:=fun o=>rd_of hk o
 have w1:w64 (t.f+t.many)=t.f+t.many:=w64_eq (by omega) h1
 have e:(t.f+t.many).tmod t.s.p=(t.f+t.many) % t.s.p:=Int.tmod_eq_emod_of_nonneg h0
 have hne:(t.s.p=0)=False:=eq_false (by omega)
 simp only[r1,Pc.enc,wrap_w64,w1,e,hne,↓DD,UU,xE,ne_eq]
 exact⟨rfl,hS⟩
theorem c_pcfound (hp:t.fd=true→0<t.s.p∧0≤t.f+t.many∧t.f+t.many≤9223372036854775807) (hS:Sep (pcB k t :: l) H) :
  CallP Tryz.prog W 161 #[.pointer (some ⟨k,0,none⟩)] H fun v H'=>v=.tuple #[.int .i64 (if t.fd then t.pg else 0),.bool t.fd]∧Sep (pcB k t :: l) H':=by
 refine CallP.of mixed Tryz.func161 tr161 (by show 1≤_;decide) fun W _=>?_
 have hk:=hS.look
 have r1:=fun o=>rd_of hk o
 cases hf:t.fd
 ·simp only[r1,Pc.enc,hf,↓DD,UU,↓reduceIte,xE]
  exact hS
 ·obtain⟨h1,h2,h3⟩:=hp hf
  simp only[r1,Pc.enc,hf,↓DD,UU,↓reduceIte,xE]
  refine callT_of (c_pcpage h1 h2 h3 hS) ?_
  rintro v H' ⟨rfl,hS⟩
  simp only[↓DD,UU,↓reduceIte,xE]
  exact hS
theorem c_pcnew {sh:Sh} {c f:Int} (hS:Sep l H) :
  CallP Tryz.prog W 160 #[.agg #[.int .i64 sh.p,.int .i64 sh.c,.int .i64 sh.m],.int .i64 c,.int .i64 f] H fun v H'=>∃ k,v=.pointer (some ⟨k,0,none⟩)∧Sep (pcB k (Pc.new sh c f) :: l) H':=by
 refine CallP.of mixed Tryz.func160 tr160 (by show 3≤_;decide) fun W _=>?_
 simp only[↓DD,UU,xA]
 refine newB_intro fun x hx f1 f2=>?_
 simp only[↓DD,UU,xA]
 refine draw_intro [(x,#[.int .i64 sh.p,.int .i64 sh.c,.int .i64 sh.m],[])] (by simp only[↓DD,UU]) ?_
 cases h1:decide (status sh.p sh.c sh.m c<0)
 all_goals
  simp only[v_status,v_page,h1,↓DD,UU,↓reduceIte,xA,xC,xE,xF]
  refine newB_intro fun y hy f3 f4=>?_
  have nxy:(x=y)=False:=f3 x (by rw[upd_same];rfl)
  have nyx:(y=x)=False:=f4 x (by rw[upd_same];rfl)
  simp only[nxy,↓DD,UU,↓reduceIte]
  refine⟨y,rfl,?_⟩
  have:=((hS.new f1 _).new f3 (.cells (Pc.enc (Pc.new sh c f)) 259 (0,0))).p1.tail
  unfold Pc.new at this ⊢
  simp only[h1]at this ⊢
  exact this
theorem c_pcstep (ht:t.wf) (hw:t.dn=false→w.of t.s) (hS:Sep (pcB k t :: wB b s w :: wR s w :: l) H) :
  CallP Tryz.prog W 258 #[.pointer (some ⟨k,0,none⟩),.pointer (some ⟨b,0,none⟩)] H fun v H'=>v=.tuple #[]∧Sep (pcB k (t.step w).1 :: wB b s (t.step w).2 :: wR s (t.step w).2 :: l) H':=by
 refine CallP.of mixed Tryz.func258 tr258 (by show 2≤_;decide) fun W _=>?_
 have hk:=hS.look
 have r1:=fun o=>rd_of hk o
 have r2:=fun o n=>rdn_of hk o n
 cases hd:t.dn
 rotate_left
 ·have e:t.step w=(t,w):=by unfold Pc.step;rw[hd];rfl
  rw[e]
  simp only[r1,Pc.enc,hd,↓DD,UU,↓reduceIte,xA,xE]
  exact hS
 obtain⟨hm,c0,c1,f0,f1,m0,m1⟩:=ht.of hd
 have hw:=hw hd
 obtain⟨a1,a2,a3,a4,a5,a6⟩:=(may_iff _ _ _).1 hm
 have hpg:=mod_bd (a:=t.f+t.many) (p:=t.s.p) (by omega)
 obtain⟨q0,q1⟩:=page_in hw hm hpg.1 hpg.2
 have wm:w64 (t.many+1)=t.many+1:=w64_eq (by omega) (by omega)
 simp only[r1,Pc.enc,hd,↓DD,UU,↓reduceIte,xA,xE]
 refine draw_intro [(k,Pc.enc t,[])] (by simp only[hk,↓DD,UU]) ?_
 simp only[r2,Pc.enc,hd,↓DD,UU,↓reduceIte,xA,xC,xE,xF]
 refine callT_of (c_pcpage (by omega) (by omega) (by omega) hS) ?_
 rintro v H' ⟨rfl,hS⟩
 have hk:=hS.look
 have r1:=fun o=>rd_of hk o
 simp only[hk,r1,v_page,Pc.enc,hd,↓DD,UU,xE]
 cases he:t.em
 ·simp only[r1,Pc.enc,hd,he,↓DD,UU,xE]
  refine callT_of (c_load _ _ q0 q1 hS.p2.p2) ?_
  rintro v H' ⟨rfl,hS⟩
  have hS:=hS.p2
  have hk:=hS.look
  have r1:=fun o=>rd_of hk o
  have r2:=fun o n=>rdn_of hk o n
  cases hz:(w.get t.at' == 0)
  ·have hz':(w.get (page t.s.p t.s.c t.s.m t.pg) == 0)=false:=hz
   have e:t.step w=(t.next,w.load t.c t.at'):=by
    unfold Pc.step;rw[hd,he];have:¬ w.get t.at'=0:=by simpa using hz
    simp [this]
   rw[e]
   simp only[hk,hz',Pc.enc,hd,he,wrap_w64,wm,↓DD,UU,↓reduceIte,xA,xE,xG]
   refine draw_intro [(k,#[.int .i64 t.s.p,.int .i64 t.s.c,.int .i64 t.s.m,.int .i64 t.c,.int .i64 t.f,.int .i64 (t.many+1),.bool false,.bool t.fd,.bool false],[])] (by simp only[↓DD,UU]) ?_
   simp only[↓DD,UU,↓reduceIte,xA,xE,xG]
   exact hS.set _
  ·have hz':(w.get (page t.s.p t.s.c t.s.m t.pg) == 0)=true:=hz
   have e:t.step w=({ t with em:=true },w.load t.c t.at'):=by
    unfold Pc.step;rw[hd,he];have:w.get t.at'=0:=by simpa using hz
    simp [this]
   rw[e]
   simp only[hk,hz',Pc.enc,hd,he,↓DD,UU,↓reduceIte,xA,xE,xG]
   have:=hS.set (.cells (Pc.enc { t with em:=true }) 259 (0,0))
   unfold Pc.enc at this
   simp only[hd]at this
   exact this
 ·simp only[↓DD,UU]
  refine draw_intro [(k,Pc.enc t,[])] (by simp only[hk,↓DD,UU]) ?_
  simp only[hk,r1,v_putpg,Pc.enc,hd,he,↓DD,UU,↓reduceIte,xA,xE]
  refine callT_of (c_swap _ _ _ _ q0 q1 hS.p2.p2) ?_
  rintro v H' ⟨rfl,hS⟩
  have hS:=hS.p2
  have hk:=hS.look
  have r1:=fun o=>rd_of hk o
  have r2:=fun o n=>rdn_of hk o n
  cases hz:(w.get t.at' == 0)
  ·have hz':(w.get (page t.s.p t.s.c t.s.m t.pg) == 0)=false:=hz
   have e:t.step w=(t.next,w.swap t.c t.at' 0 (held t.c)):=by
    unfold Pc.step;rw[hd,he];have:¬ w.get t.at'=0:=by simpa using hz
    simp [this]
   rw[e]
   simp only[hk,hz',Pc.enc,hd,he,wrap_w64,wm,↓DD,UU,↓reduceIte,xA,xE,xG]
   refine draw_intro [(k,#[.int .i64 t.s.p,.int .i64 t.s.c,.int .i64 t.s.m,.int .i64 t.c,.int .i64 t.f,.int .i64 (t.many+1),.bool false,.bool t.fd,.bool false],[])] (by simp only[↓DD,UU]) ?_
   simp only[↓DD,UU,↓reduceIte,xA,xE,xG]
   exact hS.set _
  ·have hz':(w.get (page t.s.p t.s.c t.s.m t.pg) == 0)=true:=hz
   have e:t.step w=({ t with fd:=true,dn:=true },w.swap t.c t.at' 0 (held t.c)):=by
    unfold Pc.step;rw[hd,he];have:w.get t.at'=0:=by simpa using hz
    simp [this]
   rw[e]
   simp only[hk,hz',Pc.enc,hd,he,↓DD,UU,xA,xE,xG]
   have:=hS.set (.cells (Pc.enc { t with fd:=true,dn:=true }) 259 (0,0))
   unfold Pc.enc at this
   simp only[he]at this
   exact this

/-! ### The document's -/
def Pc.ren (t:Pc) (q:Int):Array Value:=#[.int .i64 t.s.p,.int .i64 t.s.c,.int .i64 t.s.m,.int .i64 t.c,.int .i64 t.f,.int .i64 t.many,.int .i64 q,.bool t.fd,.bool t.dn,.bool (t.em && !t.fd)]
def rpB (k:Nat) (t:Pc) (q:Int):Hp:=sg k (.cells (Pc.ren t q) 346 (0,0))
end

end Go.Proofs.YtkjpgikjcfhckaaGreat
