/-
 The stripper: contracts of package strip, and of the document's. Conditions: none.
-/
import Derived.Test.YtkjpgikjcfhckaaGreatCodeY
import Derived.Test.YtkjpgikjcfhckaaGreatCodeX
import Derived.Test.YtkjpgikjcfhckaaGreatModel
import Derived.Test.YtkjpgikjcfhckaaGreatMaA
open Nat renaming reduceAdd→xA,reduceMul→xB,reduceSub→xC,reduceEqDiff→xD,reduceBEq→xE,reduceLeDiff→xF,reduceLT→xG
open Int renaming reduceAdd→xH,reduceMul→xI,reduceSub→xJ,reduceLT→xK,reduceLE→xL,reduceToNat→xM,reduceEq→xN,reduceNe→xO,reduceBEq→xP,reduceBNe→xQ
set_option linter.unusedVariables false
set_option linter.unusedSimpArgs false
set_option maxRecDepth 8000
namespace Go.Proofs.YtkjpgikjcfhckaaGreat
open Go Go.Ev Go.Pl Go.Ma

def St.enc (t:St):Array Value:=#[.int .i64 t.s.p,.int .i64 t.s.c,.int .i64 t.s.m,.int .i64 t.c,.int .i64 t.p,.int .i64 t.k,.int .i64 t.i,.bool t.bk,.bool t.hd,.bool t.dn]
def stB (k:Nat) (t:St):Hp:=sg k (.cells (St.enc t) 262 (0,0))
def St.ren (t:St):Array Value:=#[.int .i64 t.s.p,.int .i64 t.s.c,.int .i64 t.s.m,.int .i64 t.c,.int .i64 t.p,.int .i64 t.k,.int .i64 t.i,.bool t.hd,.bool t.dn,.bool t.bk]
def rsB (k:Nat) (t:St):Hp:=sg k (.cells (St.ren t) 348 (0,0))

section
variable {W:World} {H:Hp} {k b s:Nat} {t:St} {w:Wd} {l:List Hp}

theorem c_stdone (hS:Sep (stB k t :: l) H) :
  CallP Tryz.prog W 207 #[.pointer (some ⟨k,0,none⟩)] H fun v H'=>v=.bool t.dn∧Sep (stB k t :: l) H':=by
 refine CallP.of mixed Tryz.func207 tr207 (by show 1≤_;decide) fun W _=>?_
 have hk:=hS.look
 have r1:=fun o=>rd_of hk o
 simp only[r1,St.enc,↓DD,UU,↓reduceIte,xE]
 exact hS
theorem c_stheld (hS:Sep (stB k t :: l) H) :
  CallP Tryz.prog W 163 #[.pointer (some ⟨k,0,none⟩)] H fun v H'=>v=.bool t.hd∧Sep (stB k t :: l) H':=by
 refine CallP.of mixed Tryz.func163 tr163 (by show 1≤_;decide) fun W _=>?_
 have hk:=hS.look
 have r1:=fun o=>rd_of hk o
 simp only[r1,St.enc,↓DD,UU,↓reduceIte,xE]
 exact hS
theorem c_stnew {sh:Sh} {c p kk:Int} (hS:Sep l H) :
  CallP Tryz.prog W 201 #[.agg #[.int .i64 sh.p,.int .i64 sh.c,.int .i64 sh.m],.int .i64 c,.int .i64 p,.int .i64 kk] H fun v H'=>∃ k,v=.pointer (some ⟨k,0,none⟩)∧Sep (stB k (St.new sh c p kk) :: l) H':=by
 refine CallP.of mixed Tryz.func201 tr201 (by show 4≤_;decide) fun W _=>?_
 simp only[↓DD,UU,xA]
 refine newB_intro fun x hx f1 f2=>?_
 cases h1:decide (0≤status sh.p sh.c sh.m c)<;>cases h2:decide (0≤page sh.p sh.c sh.m p)<;>cases h3:decide (0<slots kk)
 all_goals
  simp only[v_status,v_page,v_slots,h1,h2,h3,↓DD,UU,↓reduceIte,xA,xC,xE,xF]
  refine newB_intro fun y hy f3 f4=>?_
  simp only[↓DD,UU,xA]
  refine⟨y,rfl,?_⟩
  have:=((hS.new f1 _).new f3 (.cells (St.enc (St.new sh c p kk)) 262 (0,0))).p1.tail
  unfold St.new good at this ⊢
  simp only[h1,h2,h3]at this ⊢
  exact this
theorem c_ststep (ht:t.wf) (hw:t.dn=false→w.of t.s) (hS:Sep (stB k t :: wB b s w :: wR s w :: l) H) :
  CallP Tryz.prog W 206 #[.pointer (some ⟨k,0,none⟩),.pointer (some ⟨b,0,none⟩)] H fun v H'=>v=.tuple #[]∧Sep (stB k (t.step w).1 :: wB b s (t.step w).2 :: wR s (t.step w).2 :: l) H':=by
 refine CallP.of mixed Tryz.func206 tr206 (by show 2≤_;decide) fun W _=>?_
 have hk:=hS.look
 have r1:=fun o=>rd_of hk o
 have r2:=fun o n=>rdn_of hk o n
 rcases St.step_cases t w with⟨hd,e⟩|⟨hd,⟨hb,e⟩|⟨hb,hi,e⟩|⟨hb,hi,hz,e⟩|⟨hb,hi,hz,e⟩⟩<;>rw[e]
 ·simp only[r1,St.enc,hd,↓DD,UU,↓reduceIte,xA,xE]
  exact hS
 all_goals
  obtain⟨hm,c0,c1,p0,p1,k0,i0,i1,ib⟩:=ht.of hd
  have hw:=hw hd
  have sb:=slots_bd t.k
 ·have ib:=ib hb
  have w1:w64 (t.i - 1)=t.i - 1:=w64_eq (by omega) (by omega)
  obtain⟨q0,q1⟩:=slot_in hw hm p0 p1 (j:=t.i - 1) (by omega) (by omega)
  simp only[r1,v_putsl,St.enc,hd,hb,↓DD,UU,↓reduceIte,xA,xE]
  refine draw_intro [(k,St.enc t,[])] (by simp only[hk,↓DD,UU]) ?_
  simp only[hk,r1,r2,v_slot,wrap_w64,w1,St.enc,hd,hb,↓DD,UU,↓reduceIte,xA,xC,xE,xF]
  refine callT_of (c_store _ _ _ q0 q1 hS.p2.p2) ?_
  rintro v H' ⟨rfl,hS⟩
  have hS:=hS.p2
  have hk:=hS.look
  have r1:=fun o=>rd_of hk o
  simp only[hk,r1,wrap_w64,w1,St.enc,hd,hb,↓DD,UU,↓reduceIte,xA,xE,xG]
  have:=hS.set (.cells (St.enc { t with i:=t.i - 1,dn:=decide (t.i - 1=0) }) 262 (0,0))
  unfold St.enc at this
  simp only[hb]at this
  unfold stB St.enc
  simp only[]
  exact this
 ·have hi':(t.i == slots t.k)=true:=by simp [hi]
  obtain⟨q0,q1⟩:=page_in hw hm p0 p1
  simp only[r1,v_putsl,v_slots,hi',St.enc,hd,hb,↓DD,UU,↓reduceIte,xA,xE]
  refine draw_intro [(k,St.enc t,[])] (by simp only[hk,↓DD,UU]) ?_
  simp only[hk,r1,r2,v_page,v_putpg,St.enc,hd,hb,↓DD,UU,↓reduceIte,xA,xC,xE,xF]
  refine callT_of (c_store _ _ _ q0 q1 hS.p2.p2) ?_
  rintro v H' ⟨rfl,hS⟩
  have hS:=hS.p2
  have hk:=hS.look
  have r1:=fun o=>rd_of hk o
  simp only[hk,St.enc,hd,hb,↓DD,UU,xA,xE,xG]
  have:=hS.set (.cells (St.enc { t with hd:=true,dn:=true }) 262 (0,0))
  unfold St.enc at this
  simp only[hb]at this
  unfold stB St.enc
  simp only[]
  exact this
 ·have hi':(t.i == slots t.k)=false:=by simp [hi]
  have hz':(w.get (slot t.s.p t.s.c t.s.m t.p t.i) == putSl 1 t.k)=true:=beq_iff_eq.2 hz
  have w1:w64 (t.i+1)=t.i+1:=w64_eq (by omega) (by omega)
  obtain⟨q0,q1⟩:=slot_in hw hm p0 p1 (j:=t.i) (by omega) (by omega)
  simp only[r1,v_putsl,v_slots,hi',St.enc,hd,hb,↓DD,UU,↓reduceIte,xA,xE]
  refine draw_intro [(k,St.enc t,[])] (by simp only[hk,↓DD,UU]) ?_
  simp only[hk,r1,r2,v_slot,v_putsl,St.enc,hd,hb,↓DD,UU,↓reduceIte,xA,xC,xE,xF]
  refine callT_of (c_swap _ _ _ _ q0 q1 hS.p2.p2) ?_
  rintro v H' ⟨rfl,hS⟩
  have hS:=hS.p2
  have hk:=hS.look
  have r1:=fun o=>rd_of hk o
  simp only[hk,r1,hz',wrap_w64,w1,St.enc,hd,hb,↓DD,UU,xA,xE,xG]
  have:=hS.set (.cells (St.enc { t with i:=t.i+1 }) 262 (0,0))
  unfold St.enc at this
  simp only[hb,hd]at this
  unfold stB St.enc
  simp only[]
  exact this
 ·have hi':(t.i == slots t.k)=false:=by simp [hi]
  have hz':(w.get (slot t.s.p t.s.c t.s.m t.p t.i) == putSl 1 t.k)=false:=beq_eq_false_iff_ne.2 hz
  obtain⟨q0,q1⟩:=slot_in hw hm p0 p1 (j:=t.i) (by omega) (by omega)
  simp only[r1,v_putsl,v_slots,hi',St.enc,hd,hb,↓DD,UU,↓reduceIte,xA,xE]
  refine draw_intro [(k,St.enc t,[])] (by simp only[hk,↓DD,UU]) ?_
  simp only[hk,r1,r2,v_slot,v_putsl,St.enc,hd,hb,↓DD,UU,↓reduceIte,xA,xC,xE,xF]
  refine callT_of (c_swap _ _ _ _ q0 q1 hS.p2.p2) ?_
  rintro v H' ⟨rfl,hS⟩
  have hS:=hS.p2
  have hk:=hS.look
  have r1:=fun o=>rd_of hk o
  simp only[hk,r1,hz',St.enc,hd,hb,↓DD,UU,xA,xE,xG]
  have:=hS.set (.cells (St.enc { t with bk:=true,dn:=decide (t.i=0) }) 262 (0,0))
  unfold St.enc at this
  unfold stB St.enc
  exact this

/-! ### The document's -/
variable {a:Option Addr} {cap:Nat} {g:Hp}
end

end Go.Proofs.YtkjpgikjcfhckaaGreat
