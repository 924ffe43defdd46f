/-
 The binder: contracts of package bind, and of the document's. Conditions: none.
-/
import Derived.Test.YtkjpgikjcfhckaaGreatCodeX
import Derived.Test.YtkjpgikjcfhckaaGreatCodeY
import Derived.Test.YtkjpgikjcfhckaaGreatModel
import Derived.Test.YtkjpgikjcfhckaaGreatMaA
open Nat renaming reduceAdd→xA,reduceMul→xB,reduceSub→xC,reduceEqDiff→xD,reduceBEq→xE,reduceLeDiff→xF,reduceLT→xG
open Int renaming reduceAdd→xH,reduceMul→xI,reduceSub→xJ,reduceLT→xK,reduceLE→xL,reduceToNat→xM,reduceEq→xN,reduceNe→xO,reduceBEq→xP,reduceBNe→xQ
set_option linter.unusedVariables false
set_option linter.unusedSimpArgs false
set_option maxRecDepth 8000
namespace Go.Proofs.YtkjpgikjcfhckaaGreat
open Go Go.Ev Go.Pl Go.Ma

def Bi.enc (t:Bi):Array Value:=#[.int .i64 t.s.p,.int .i64 t.s.c,.int .i64 t.s.m,.int .i64 t.c,.int .i64 t.p,.int .i64 t.k,.int .i64 t.i,.bool t.bd,.bool t.dn]
def biB (k:Nat) (t:Bi):Hp:=sg k (.cells (Bi.enc t) 264 (0,0))
def biAt (t:Bi):Int:=if t.bd then 16+(slots t.k - t.i) else t.i
def Bi.ren (t:Bi):Array Value:=#[.int .i64 t.s.p,.int .i64 t.s.c,.int .i64 t.s.m,.int .i64 t.c,.int .i64 t.p,.int .i64 t.k,.int .i64 (biAt t),.bool t.dn]
def rbB (k:Nat) (t:Bi):Hp:=sg k (.cells (Bi.ren t) 340 (0,0))

section
variable {W:World} {H:Hp} {k b s:Nat} {t:Bi} {w:Wd} {l:List Hp}

theorem c_bidone (hS:Sep (biB k t :: l) H) :
  CallP Tryz.prog W 259 #[.pointer (some ⟨k,0,none⟩)] H fun v H'=>v=.bool t.dn∧Sep (biB k t :: l) H':=by
 refine CallP.of mixed Tryz.func259 tr259 (by show 1≤_;decide) fun W _=>?_
 have hk:=hS.look
 have r1:=fun o=>rd_of hk o
 simp only[r1,Bi.enc,↓DD,UU,↓reduceIte,xE]
 exact hS
theorem c_binew {sh:Sh} {c p kk:Int} (hS:Sep l H) :
  CallP Tryz.prog W 168 #[.agg #[.int .i64 sh.p,.int .i64 sh.c,.int .i64 sh.m],.int .i64 c,.int .i64 p,.int .i64 kk] H fun v H'=>∃ k,v=.pointer (some ⟨k,0,none⟩)∧Sep (biB k (Bi.new sh c p kk) :: l) H':=by
 refine CallP.of mixed Tryz.func168 tr168 (by show 4≤_;decide) fun W _=>?_
 simp only[↓DD,UU,xA]
 refine newB_intro fun x hx f1 f2=>?_
 cases h1:decide (0≤status sh.p sh.c sh.m c)<;>cases h2:decide (0≤page sh.p sh.c sh.m p)<;>cases h3:decide (0<slots kk)
 all_goals
  simp only[v_status,v_page,v_slots,h1,h2,h3,↓DD,UU,↓reduceIte,xA,xC,xE,xF]
  refine newB_intro fun y hy f3 f4=>?_
  simp only[↓DD,UU,xA]
  refine⟨y,rfl,?_⟩
  have:=((hS.new f1 _).new f3 (.cells (Bi.enc (Bi.new sh c p kk)) 264 (0,0))).p1.tail
  unfold Bi.new good at this ⊢
  simp only[h1,h2,h3]at this ⊢
  exact this
theorem c_bistep (ht:t.wf) (hw:t.dn=false→w.of t.s) (hS:Sep (biB k t :: wB b s w :: wR s w :: l) H) :
  CallP Tryz.prog W 260 #[.pointer (some ⟨k,0,none⟩),.pointer (some ⟨b,0,none⟩)] H fun v H'=>v=.tuple #[]∧Sep (biB k (t.step w).1 :: wB b s (t.step w).2 :: wR s (t.step w).2 :: l) H':=by
 refine CallP.of mixed Tryz.func260 tr260 (by show 2≤_;decide) fun W _=>?_
 have hk:=hS.look
 have r1:=fun o=>rd_of hk o
 have r2:=fun o n=>rdn_of hk o n
 rcases Bi.step_cases t w with⟨hd,e⟩|⟨hd,⟨hb,e⟩|⟨hb,hi,e⟩|⟨hb,hi,e⟩⟩<;>rw[e]
 ·simp only[r1,Bi.enc,hd,↓DD,UU,↓reduceIte,xA,xE]
  exact hS
 all_goals
  obtain⟨hm,c0,c1,p0,p1,k0,i0,i1,ib⟩:=ht.of hd
  have hw:=hw hd
  have sb:=slots_bd t.k
 ·have ib:=ib hb
  have w1:w64 (t.i - 1)=t.i - 1:=w64_eq (by omega) (by omega)
  obtain⟨q0,q1⟩:=slot_in hw hm p0 p1 (j:=t.i) (by omega) (by omega)
  simp only[r1,r2,v_slots,v_slot,Bi.enc,hd,hb,↓DD,UU,↓reduceIte,xA,xC,xE,xF]
  refine draw_intro [(k,Bi.enc t,[])] (by simp only[hk,↓DD,UU]) ?_
  simp only[hk,r1,v_putsl,Bi.enc,hd,hb,↓DD,UU,↓reduceIte,xA,xE]
  refine callT_of (c_store _ _ _ q0 q1 hS.p2.p2) ?_
  rintro v H' ⟨rfl,hS⟩
  have hS:=hS.p2
  have hk:=hS.look
  have r1:=fun o=>rd_of hk o
  simp only[hk,r1,wrap_w64,w1,Bi.enc,hd,hb,↓DD,UU,↓reduceIte,xA,xE,xG]
  have:=hS.set (.cells (Bi.enc { t with i:=t.i - 1,dn:=decide (t.i - 1=0) }) 264 (0,0))
  unfold Bi.enc at this
  simp only[hb]at this
  unfold biB Bi.enc
  simp only[]
  exact this
 ·have i16:(t.i == 16)=true:=by simp [hi]
  have w1:w64 (slots t.k - 1)=slots t.k - 1:=w64_eq (by omega) (by omega)
  obtain⟨q0,q1⟩:=page_in hw hm p0 p1
  simp only[r1,r2,v_slots,v_slot,i16,Bi.enc,hd,hb,↓DD,UU,↓reduceIte,xA,xC,xE,xF]
  refine draw_intro [(k,Bi.enc t,[])] (by simp only[hk,↓DD,UU]) ?_
  simp only[hk,r1,r2,v_page,v_putpg,Bi.enc,hd,hb,↓DD,UU,↓reduceIte,xA,xC,xE,xF]
  refine callT_of (c_store _ _ _ q0 q1 hS.p2.p2) ?_
  rintro v H' ⟨rfl,hS⟩
  have hS:=hS.p2
  have hk:=hS.look
  have r1:=fun o=>rd_of hk o
  simp only[hk,wrap_w64,w1,Bi.enc,hd,hb,↓DD,UU,xA,xE,xG]
  have:=hS.set (.cells (Bi.enc { t with bd:=true,i:=slots t.k - 1 }) 264 (0,0))
  unfold Bi.enc at this
  simp only[hd]at this
  unfold biB Bi.enc
  simp only[]
  exact this
 ·have i16:(t.i == 16)=false:=by simp [hi]
  have w1:w64 (t.i+1)=t.i+1:=w64_eq (by omega) (by omega)
  obtain⟨q0,q1⟩:=slot_in hw hm p0 p1 (j:=t.i) (by omega) (by omega)
  cases hx:decide (t.i<slots t.k)
  all_goals
   first
   | rw[if_pos (of_decide_eq_true hx)]
   | rw[if_neg (of_decide_eq_false hx)]
   simp only[r1,r2,v_slots,v_slot,i16,hx,Bi.enc,hd,hb,↓DD,UU,↓reduceIte,xA,xC,xE,xF]
   first
   |refine draw_intro [(k,Bi.enc t,[])] (by simp only[hk,↓DD,UU]) ?_
    simp only[hk,r1,v_putsl,Bi.enc,hd,hb,↓DD,UU,↓reduceIte,xA,xE]
   | skip
   refine callT_of (c_store _ _ _ q0 q1 hS.p2.p2) ?_
   rintro v H' ⟨rfl,hS⟩
   have hS:=hS.p2
   have hk:=hS.look
   have r1:=fun o=>rd_of hk o
   simp only[hk,r1,wrap_w64,w1,Bi.enc,hd,hb,↓DD,UU,xA,xE,xG]
   have:=hS.set (.cells (Bi.enc { t with i:=t.i+1 }) 264 (0,0))
   unfold Bi.enc at this
   simp only[hd,hb]at this
   unfold biB Bi.enc
   simp only[]
   exact this

/-! ### The document's -/
variable {a:Option Addr} {cap:Nat} {g:Hp}
end

end Go.Proofs.YtkjpgikjcfhckaaGreat
