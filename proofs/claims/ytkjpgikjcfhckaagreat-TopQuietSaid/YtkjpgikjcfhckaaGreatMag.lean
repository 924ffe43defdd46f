/-
 The magazine: contracts of package mag, and of the document's taker. Conditions: none.
-/
import Derived.Test.YtkjpgikjcfhckaaGreatCodeX
import Derived.Test.YtkjpgikjcfhckaaGreatCodeY
import Derived.Test.YtkjpgikjcfhckaaGreatModel
import Derived.Test.YtkjpgikjcfhckaaGreatAlt
import Derived.Test.YtkjpgikjcfhckaaGreatMaA
open Nat renaming reduceAdd→xA,reduceMul→xB,reduceSub→xC,reduceEqDiff→xD,reduceBEq→xE,reduceLeDiff→xF,reduceLT→xG
open Int renaming reduceAdd→xH,reduceMul→xI,reduceSub→xJ,reduceLT→xK,reduceLE→xL,reduceToNat→xM,reduceEq→xN,reduceNe→xO,reduceBEq→xP,reduceBNe→xQ
set_option linter.unusedVariables false
set_option linter.unusedSimpArgs false
set_option maxRecDepth 8000
namespace Go.Proofs.YtkjpgikjcfhckaaGreat
open Go Go.Ev Go.Pl Go.Ma

def Tk.enc (t:Tk):Array Value:=#[.int .i64 t.s.p,.int .i64 t.s.c,.int .i64 t.s.m,.int .i64 t.c,.int .i64 t.k,.int .i64 t.i,.int .i64 t.ep,.int .i64 t.es,.int .i64 t.ek,.bool t.hit,.bool t.fd,.bool t.dn]
def tkB (k:Nat) (t:Tk):Hp:=sg k (.cells (Tk.enc t) 240 (0,0))
def Tk.ren (t:Tk):Array Value:=#[.int .i64 t.s.p,.int .i64 t.s.c,.int .i64 t.s.m,.int .i64 t.c,.int .i64 t.k,.int .i64 t.i,.int .i64 t.ep,.int .i64 t.es,.int .i64 t.ek,.bool t.fd,.bool t.dn,.bool t.hit]
def Pu.enc (t:Pu):Array Value:=#[.int .i64 t.s.p,.int .i64 t.s.c,.int .i64 t.s.m,.int .i64 t.c,.int .i64 t.i,.int .i64 t.ep,.int .i64 t.es,.int .i64 t.ek,.bool t.hit,.bool t.put,.bool t.dn]
def puB (k:Nat) (t:Pu):Hp:=sg k (.cells (Pu.enc t) 288 (0,0))

section
variable {W:World} {H:Hp} {k b s:Nat} {t:Tk} {u:Pu} {w:Wd} {l:List Hp}

theorem c_mgood (sh:Sh) (c kk:Int) (hS:Sep l H):CallP Tryz.prog W 147 #[.agg #[.int .i64 sh.p,.int .i64 sh.c,.int .i64 sh.m],.int .i64 c,.int .i64 kk] H fun v H'=>v=.bool (good sh c kk)∧Sep l H':=by
 refine CallP.of mixed Tryz.func147 tr147 (by show 3≤_;decide) fun W _=>?_
 simp only[↓DD,UU,xA]
 refine newB_intro fun x hx f1 f2=>?_
 cases h1:decide (0≤status sh.p sh.c sh.m c)<;>cases h2:decide (0<slots kk)
 all_goals
  simp only[v_status,v_slots,h1,h2,↓DD,UU,↓reduceIte,xA,xC,xE,xF]
  exact⟨by unfold good;rw[h1,h2];rfl,(hS.new f1 _).tail⟩
theorem c_tkdone (hS:Sep (tkB k t :: l) H) :
  CallP Tryz.prog W 250 #[.pointer (some ⟨k,0,none⟩)] H fun v H'=>v=.bool t.dn∧Sep (tkB k t :: l) H':=by
 refine CallP.of mixed Tryz.func250 tr250 (by show 1≤_;decide) fun W _=>?_
 have hk:=hS.look
 have r1:=fun o=>rd_of hk o
 simp only[r1,Tk.enc,↓DD,UU,↓reduceIte,xE]
 exact hS
theorem c_tkfound (hS:Sep (tkB k t :: l) H) :
  CallP Tryz.prog W 156 #[.pointer (some ⟨k,0,none⟩)] H fun v H'=>v=.tuple #[.int .i64 (if t.fd then t.ep else 0),.int .i64 (if t.fd then t.es else 0),.bool t.fd]∧Sep (tkB k t :: l) H':=by
 refine CallP.of mixed Tryz.func156 tr156 (by show 1≤_;decide) fun W _=>?_
 have hk:=hS.look
 have r1:=fun o=>rd_of hk o
 cases hf:t.fd
 all_goals
  simp only[r1,Tk.enc,hf,↓DD,UU,↓reduceIte,xA,xE]
  exact hS
theorem c_tknew {sh:Sh} {c kk:Int} (hS:Sep l H) :
  CallP Tryz.prog W 136 #[.agg #[.int .i64 sh.p,.int .i64 sh.c,.int .i64 sh.m],.int .i64 c,.int .i64 kk] H fun v H'=>∃ k,v=.pointer (some ⟨k,0,none⟩)∧Sep (tkB k (Tk.new sh c kk) :: l) H':=by
 refine CallP.of mixed Tryz.func136 tr136 (by show 3≤_;decide) fun W _=>?_
 simp only[↓DD,UU,xA]
 refine newB_intro fun x hx f1 f2=>?_
 simp only[↓DD,UU,xA]
 refine draw_intro [(x,#[.int .i64 sh.p,.int .i64 sh.c,.int .i64 sh.m],[])] (by simp only[↓DD,UU]) ?_
 simp only[↓DD,UU,↓reduceIte,xA,xC,xE,xF]
 refine callT_of (c_mgood sh c kk (hS.new f1 _)) ?_
 rintro v H' ⟨rfl,hS⟩
 have hx1:=hS.look
 have r1:=fun o=>rd_of hx1 o
 have r2:=fun o n=>rdn_of hx1 o n
 cases h1:good sh c kk
 all_goals
  simp only[hx1,r1,↓DD,UU,↓reduceIte,xA,xE]
  refine newB_intro fun y hy f3 f4=>?_
  have nxy:(x=y)=False:=f3 x (by rw[hx1];rfl)
  have nyx:(y=x)=False:=f4 x (by rw[hx1];rfl)
  simp only[hx1,nxy,↓DD,UU,↓reduceIte]
  refine⟨y,rfl,?_⟩
  have:=(hS.new f3 (.cells (Tk.enc (Tk.new sh c kk)) 240 (0,0))).p1.tail
  unfold Tk.new at this ⊢
  simp only[h1]at this ⊢
  exact this
def tkC (k b s:Nat) (t:Tk) (w:Wd) (l:List Hp) (x:Int) (F':Fr) (H':Hp):Prop:=
 gt F' 0=.pointer (some ⟨k,0,none⟩)∧gt F' 6=.bool (okEn t.s x)∧∃ y,gt F' 5=.pointer (some ⟨y,0,none⟩) ∧
  Sep (tkB k t :: wB b s w :: wR s w :: sg y (.cells #[.int .i64 (enP t.s x),.int .i64 (enS t.s x),.int .i64 (enK t.s x)] 238 (0,0)) :: l) H'
theorem c_tkstep (ht:t.wf) (hw:t.dn=false→w.of t.s) (hS:Sep (tkB k t :: wB b s w :: wR s w :: l) H) :
  CallP Tryz.prog W 251 #[.pointer (some ⟨k,0,none⟩),.pointer (some ⟨b,0,none⟩)] H fun v H'=>v=.tuple #[]∧Sep (tkB k (t.step w).1 :: wB b s (t.step w).2 :: wR s (t.step w).2 :: l) H':=by
 refine CallP.of mixed Tryz.func251 tr251 (by show 2≤_;decide) fun W _=>?_
 have hk:=hS.look
 have r1:=fun o=>rd_of hk o
 have r2:=fun o n=>rdn_of hk o n
 rcases Tk.step_cases t w with⟨hd,e⟩|⟨hd,⟨hb,e⟩|⟨hb,hh,e⟩|⟨hb,hh,e⟩⟩<;>rw[e]
 ·simp only[r1,Tk.enc,hd,↓DD,UU,↓reduceIte,xA,xE]
  exact hS
 all_goals
  obtain⟨hm,c0,c1,i0,i1⟩:=ht.of hd
  have hw:=hw hd
  obtain⟨q0,q1⟩:=mag_in hw hm c0 c1 i0 i1
  have hu:U (w.get (mag t.s.p t.s.c t.s.m t.c t.i)):=hw.u _
  have ml:=(may_iff _ _ _).1 hm
 ·simp only[r1,r2,v_mag,Tk.enc,hd,hb,↓DD,UU,↓reduceIte,xA,xC,xE,xF]
  refine callT_of (c_store _ _ _ q0 q1 hS.p2.p2) ?_
  rintro v H' ⟨rfl,hS⟩
  have hS:=hS.p2
  have hk:=hS.look
  have r1:=fun o=>rd_of hk o
  simp only[hk,Tk.enc,hd,hb,↓DD,UU,xA,xE,xG]
  have:=hS.set (.cells (Tk.enc { t with fd:=true,dn:=true }) 240 (0,0))
  unfold Tk.enc at this
  simp only[hb]at this
  unfold tkB Tk.enc
  simp only[]
  exact this
 all_goals
  simp only[r1,r2,v_mag,Tk.enc,hd,hb,↓DD,UU,↓reduceIte,xA,xC,xE,xF]
  refine draw_cut [(k,Tk.enc t,[])] (tkC k b s t (w.load t.c t.at') l (w.get t.at')) (by simp only[hk,↓DD,UU]) ?_ ?_
 ·simp only[r1,r2,Tk.enc,hd,hb,↓e_dalt2,↓DD,UU,↓reduceIte,xA,xC,xE,xF]
  refine⟨?_,?_⟩
  ·refine callT_of (c_load _ _ q0 q1 hS.p2.p2) ?_
   rintro v H' ⟨rfl,hS⟩
   have hS:=hS.p2
   have hk:=hS.look
   have r1:=fun o=>rd_of hk o
   have r2:=fun o n=>rdn_of hk o n
   simp only[hk,v_readen t.s hu,Tk.enc,hd,hb,↓e_dalt2,↓DD,UU,xE]
   refine⟨?_,?_⟩
   all_goals
    refine newB_intro fun y hy f3 f4=>?_
    have nky:(k=y)=False:=f3 k (by rw[hk];rfl)
    have nyk:(y=k)=False:=f4 k (by rw[hk];rfl)
    have hS2:=hS.new f3 (.cells #[.int .i64 (enP t.s (w.get t.at')),.int .i64 (enS t.s (w.get t.at')),.int .i64 (enK t.s (w.get t.at'))] 238 (0,0))
    simp only[hk,nky,v_readen t.s hu,Tk.enc,hd,hb,↓DD,UU,↓reduceIte,xA,xE,xF]
    exact⟨rfl,rfl,y,rfl,hS2.r3⟩
  ·refine newB_intro fun y hy f3 f4=>?_
   have nky:(k=y)=False:=f3 k (by rw[hk];rfl)
   have nyk:(y=k)=False:=f4 k (by rw[hk];rfl)
   have hS2:=hS.new f3 (.cells #[.int .i64 0,.int .i64 0,.int .i64 0] 238 (0,0))
   simp only[hk,nky,Tk.enc,hd,hb,↓DD,UU,↓reduceIte,xE]
   refine callT_of (c_load _ _ q0 q1 hS2.p2.p3.p1) ?_
   rintro v H' ⟨rfl,hS⟩
   have hS:=hS.p3
   have hk:=hS.look
   have hy1:=hS.lk 3 rfl
   have r1:=fun o=>rd_of hk o
   have r2:=fun o n=>rdn_of hk o n
   simp only[hk,hy1,nky,v_readen t.s hu,Tk.enc,hd,hb,↓DD,UU,↓reduceIte,xA,xE,xF]
   exact⟨rfl,rfl,y,rfl,((hS.p3.set _).r3)⟩
 ·rintro F' H' ⟨e0,e6,y,e5,hS⟩
  simp only[Tk.hits,Bool.and_eq_true,decide_eq_true_eq]at hh
  have h1:okEn t.s (w.get t.at')=true:=hh.1
  have h2:(enK t.s (w.get t.at') == t.k)=true:=beq_iff_eq.2 hh.2
  have hk:=hS.look
  have hy1:=hS.lk 3 rfl
  have r1:=fun o=>rd_of hk o
  have r3:=fun o=>rd_of hy1 o
  have r4:=fun o n=>rdn_of hy1 o n
  simp only[e0,e6,e5,hk,r1,r3,r4,h1,h2,Tk.enc,hd,hb,↓DD,UU,↓reduceIte,xA,xC,xE,xF,xG]
  have:=hS.set (.cells (Tk.enc { t with ep:=enP t.s (w.get t.at'),es:=enS t.s (w.get t.at'),ek:=enK t.s (w.get t.at'),hit:=true }) 240 (0,0))
  unfold Tk.enc at this
  simp only[hd]at this
  unfold tkB Tk.enc
  simp only[]
  exact this.p3.tail
 ·simp only[r1,r2,Tk.enc,hd,hb,↓e_dalt2,↓DD,UU,↓reduceIte,xA,xC,xE,xF]
  refine⟨?_,?_⟩
  ·refine callT_of (c_load _ _ q0 q1 hS.p2.p2) ?_
   rintro v H' ⟨rfl,hS⟩
   have hS:=hS.p2
   have hk:=hS.look
   have r1:=fun o=>rd_of hk o
   have r2:=fun o n=>rdn_of hk o n
   simp only[hk,v_readen t.s hu,Tk.enc,hd,hb,↓e_dalt2,↓DD,UU,xE]
   refine⟨?_,?_⟩
   all_goals
    refine newB_intro fun y hy f3 f4=>?_
    have nky:(k=y)=False:=f3 k (by rw[hk];rfl)
    have nyk:(y=k)=False:=f4 k (by rw[hk];rfl)
    have hS2:=hS.new f3 (.cells #[.int .i64 (enP t.s (w.get t.at')),.int .i64 (enS t.s (w.get t.at')),.int .i64 (enK t.s (w.get t.at'))] 238 (0,0))
    simp only[hk,nky,v_readen t.s hu,Tk.enc,hd,hb,↓DD,UU,↓reduceIte,xA,xE,xF]
    exact⟨rfl,rfl,y,rfl,hS2.r3⟩
  ·refine newB_intro fun y hy f3 f4=>?_
   have nky:(k=y)=False:=f3 k (by rw[hk];rfl)
   have nyk:(y=k)=False:=f4 k (by rw[hk];rfl)
   have hS2:=hS.new f3 (.cells #[.int .i64 0,.int .i64 0,.int .i64 0] 238 (0,0))
   simp only[hk,nky,Tk.enc,hd,hb,↓DD,UU,↓reduceIte,xE]
   refine callT_of (c_load _ _ q0 q1 hS2.p2.p3.p1) ?_
   rintro v H' ⟨rfl,hS⟩
   have hS:=hS.p3
   have hk:=hS.look
   have hy1:=hS.lk 3 rfl
   have r1:=fun o=>rd_of hk o
   have r2:=fun o n=>rdn_of hk o n
   simp only[hk,hy1,nky,v_readen t.s hu,Tk.enc,hd,hb,↓DD,UU,↓reduceIte,xA,xE,xF]
   exact⟨rfl,rfl,y,rfl,((hS.p3.set _).r3)⟩
 ·rintro F' H' ⟨e0,e6,y,e5,hS⟩
  have hk:=hS.look
  have hy1:=hS.lk 3 rfl
  have nky:=hS.neq 0 3 (by decide) rfl rfl
  have nyk:=hS.qen 0 3 (by decide) rfl rfl
  have r1:=fun o=>rd_of hk o
  have r3:=fun o=>rd_of hy1 o
  have wi:w64 (t.i+1)=t.i+1:=w64_eq (by omega) (by omega)
  simp only[Tk.hits,Bool.and_eq_false_iff,decide_eq_false_iff_not]at hh
  have h3:okEn t.s (w.get t.at')=false∨okEn t.s (w.get t.at')=true∧(enK t.s (w.get t.at') == t.k)=false:=by
   cases h1:okEn t.s (w.get t.at')
   ·exact .inl rfl
   ·right
    rcases hh with h | h
    ·rw[h1]at h;cases h
    ·exact⟨rfl,beq_eq_false_iff_ne.2 h⟩
  rcases h3 with h1 |⟨h1,h2⟩
  ·simp only[e0,e6,hk,r1,h1,wrap_w64,wi,Tk.enc,hd,hb,↓DD,UU,xA,xE,xG]
   refine draw_intro [(k,#[.int .i64 t.s.p,.int .i64 t.s.c,.int .i64 t.s.m,.int .i64 t.c,.int .i64 t.k,.int .i64 (t.i+1),.int .i64 t.ep,.int .i64 t.es,.int .i64 t.ek,.bool false,.bool t.fd,.bool false],[])] (by simp only[↓DD,UU]) ?_
   simp only[e0,↓DD,UU,↓reduceIte,xA,xE,xG]
   have:=hS.set (.cells (Tk.enc { t with i:=t.i+1,dn:=decide (t.i+1=t.s.m) }) 240 (0,0))
   unfold Tk.enc at this
   simp only[hb]at this
   unfold tkB Tk.enc
   simp only[]
   exact this.p3.tail
  ·simp only[e0,e6,e5,hk,r1,r3,h1,h2,wrap_w64,wi,Tk.enc,hd,hb,↓DD,UU,xA,xE,xG]
   refine draw_intro [(k,#[.int .i64 t.s.p,.int .i64 t.s.c,.int .i64 t.s.m,.int .i64 t.c,.int .i64 t.k,.int .i64 (t.i+1),.int .i64 t.ep,.int .i64 t.es,.int .i64 t.ek,.bool false,.bool t.fd,.bool false],[])] (by simp only[↓DD,UU]) ?_
   simp only[e0,↓DD,UU,↓reduceIte,xA,xE,xG]
   have:=hS.set (.cells (Tk.enc { t with i:=t.i+1,dn:=decide (t.i+1=t.s.m) }) 240 (0,0))
   unfold Tk.enc at this
   simp only[hb]at this
   unfold tkB Tk.enc
   simp only[]
   exact this.p3.tail

theorem c_pudone (hS:Sep (puB k u :: l) H) :
  CallP Tryz.prog W 220 #[.pointer (some ⟨k,0,none⟩)] H fun v H'=>v=.bool u.dn∧Sep (puB k u :: l) H':=by
 refine CallP.of mixed Tryz.func220 tr220 (by show 1≤_;decide) fun W _=>?_
 have hk:=hS.look
 have r1:=fun o=>rd_of hk o
 simp only[r1,Pu.enc,↓DD,UU,↓reduceIte,xE]
 exact hS
theorem c_puput (hS:Sep (puB k u :: l) H) :
  CallP Tryz.prog W 219 #[.pointer (some ⟨k,0,none⟩)] H fun v H'=>v=.bool u.put∧Sep (puB k u :: l) H':=by
 refine CallP.of mixed Tryz.func219 tr219 (by show 1≤_;decide) fun W _=>?_
 have hk:=hS.look
 have r1:=fun o=>rd_of hk o
 simp only[r1,Pu.enc,↓DD,UU,↓reduceIte,xE]
 exact hS
theorem c_punew {sh:Sh} {c p i kk:Int} (hS:Sep l H) :
  CallP Tryz.prog W 221 #[.agg #[.int .i64 sh.p,.int .i64 sh.c,.int .i64 sh.m],.int .i64 c,.int .i64 p,.int .i64 i,.int .i64 kk] H fun v H'=>∃ k,v=.pointer (some ⟨k,0,none⟩)∧Sep (puB k (Pu.new sh c p i kk) :: l) H':=by
 refine CallP.of mixed Tryz.func221 tr221 (by show 5≤_;decide) fun W _=>?_
 simp only[↓DD,UU,xA]
 refine newB_intro fun x hx f1 f2=>?_
 simp only[↓DD,UU,↓reduceIte,xA,xC,xE,xF]
 refine callT_of (c_mgood sh c kk (hS.new f1 _)) ?_
 rintro v H' ⟨rfl,hS⟩
 have hx1:=hS.look
 have r1:=fun o=>rd_of hx1 o
 have r2:=fun o n=>rdn_of hx1 o n
 cases h1:good sh c kk<;>cases h2:decide (0≤page sh.p sh.c sh.m p)<;>cases h3:decide (0≤i)<;>cases h4:decide (i<slots kk)
 all_goals
  simp only[r1,r2,v_page,v_slots,h2,h3,h4,↓DD,UU,↓reduceIte,xA,xC,xE,xF]
  refine newB_intro fun y hy f3 f4=>?_
  have nxy:(x=y)=False:=f3 x (by rw[hx1];rfl)
  have nyx:(y=x)=False:=f4 x (by rw[hx1];rfl)
  simp only[↓DD,UU,xA]
  refine⟨y,rfl,?_⟩
  have:=(hS.new f3 (.cells (Pu.enc (Pu.new sh c p i kk)) 288 (0,0))).p1.tail
  unfold Pu.new at this ⊢
  simp only[h1,h2,h3,h4]at this ⊢
  exact this
theorem c_pustep (ht:u.wf) (hw:u.dn=false→w.of u.s) (hS:Sep (puB k u :: wB b s w :: wR s w :: l) H) :
  CallP Tryz.prog W 217 #[.pointer (some ⟨k,0,none⟩),.pointer (some ⟨b,0,none⟩)] H fun v H'=>v=.tuple #[]∧Sep (puB k (u.step w).1 :: wB b s (u.step w).2 :: wR s (u.step w).2 :: l) H':=by
 refine CallP.of mixed Tryz.func217 tr217 (by show 2≤_;decide) fun W _=>?_
 have hk:=hS.look
 have r1:=fun o=>rd_of hk o
 have r2:=fun o n=>rdn_of hk o n
 rcases Pu.step_cases u w with⟨hd,e⟩|⟨hd,⟨hb,e⟩|⟨hb,hh,e⟩|⟨hb,hh,e⟩⟩<;>rw[e]
 ·simp only[r1,Pu.enc,hd,↓DD,UU,↓reduceIte,xA,xE]
  exact hS
 all_goals
  obtain⟨hm,c0,c1,i0,i1⟩:=ht.of hd
  have hw:=hw hd
  obtain⟨q0,q1⟩:=mag_in hw hm c0 c1 i0 i1
  have ml:=(may_iff _ _ _).1 hm
  simp only[r1,r2,v_mag,Pu.enc,hd,hb,↓DD,UU,↓reduceIte,xA,xC,xE,xF]
 ·refine draw_intro [(k,Pu.enc u,[])] (by simp only[hk,↓DD,UU]) ?_
  simp only[hk,r1,r2,v_puten,Pu.enc,hd,hb,↓DD,UU,↓reduceIte,xA,xC,xE,xF]
  refine callT_of (c_store _ _ _ q0 q1 hS.p2.p2) ?_
  rintro v H' ⟨rfl,hS⟩
  have hS:=hS.p2
  have hk:=hS.look
  have r1:=fun o=>rd_of hk o
  simp only[hk,Pu.enc,hd,hb,↓DD,UU,xA,xE,xG]
  have:=hS.set (.cells (Pu.enc { u with put:=true,dn:=true }) 288 (0,0))
  unfold Pu.enc at this
  simp only[hb]at this
  unfold puB Pu.enc
  simp only[]
  exact this
 ·have hz:(w.get (mag u.s.p u.s.c u.s.m u.c u.i) == 0)=true:=beq_iff_eq.2 hh
  refine callT_of (c_load _ _ q0 q1 hS.p2.p2) ?_
  rintro v H' ⟨rfl,hS⟩
  have hS:=hS.p2
  have hk:=hS.look
  have r1:=fun o=>rd_of hk o
  simp only[hk,hz,Pu.enc,hd,hb,↓DD,UU,xA,xE,xG]
  have:=hS.set (.cells (Pu.enc { u with hit:=true }) 288 (0,0))
  unfold Pu.enc at this
  simp only[hd]at this
  unfold puB Pu.enc
  simp only[]
  exact this
 ·have hz:(w.get (mag u.s.p u.s.c u.s.m u.c u.i) == 0)=false:=beq_eq_false_iff_ne.2 hh
  have wi:w64 (u.i+1)=u.i+1:=w64_eq (by omega) (by omega)
  refine callT_of (c_load _ _ q0 q1 hS.p2.p2) ?_
  rintro v H' ⟨rfl,hS⟩
  have hS:=hS.p2
  have hk:=hS.look
  have r1:=fun o=>rd_of hk o
  simp only[hk,r1,hz,wrap_w64,wi,Pu.enc,hd,hb,↓DD,UU,xA,xE,xG]
  refine draw_intro [(k,#[.int .i64 u.s.p,.int .i64 u.s.c,.int .i64 u.s.m,.int .i64 u.c,.int .i64 (u.i+1),.int .i64 u.ep,.int .i64 u.es,.int .i64 u.ek,.bool false,.bool u.put,.bool false],[])] (by simp only[↓DD,UU]) ?_
  simp only[↓DD,UU,↓reduceIte,xA,xE,xG]
  have:=hS.set (.cells (Pu.enc { u with i:=u.i+1,dn:=decide (u.i+1=u.s.m) }) 288 (0,0))
  unfold Pu.enc at this
  simp only[hb]at this
  unfold puB Pu.enc
  simp only[]
  exact this

/-! ### The document's taker -/
variable {a:Option Addr} {cap:Nat} {g:Hp}
end

end Go.Proofs.YtkjpgikjcfhckaaGreat
