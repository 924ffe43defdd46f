/-
 The magazine: contracts of package mag, and of the document's taker. Conditions: none.
-/
import Derived.Test.YtbcdaglbdnkocaaGreatCodeY
import Derived.Test.YtbcdaglbdnkocaaGreatModel
import Derived.Test.YtbcdaglbdnkocaaGreatAlt
import Derived.Test.YtbcdaglbdnkocaaGreatMaMI
open Nat renaming reduceAdd→xA,reduceMul→xB,reduceSub→xC,reduceEqDiff→xD,reduceBEq→xE,reduceLeDiff→xF,reduceLT→xG
open Int renaming reduceAdd→xH,reduceMul→xI,reduceSub→xJ,reduceLT→xK,reduceLE→xL,reduceToNat→xM,reduceEq→xN,reduceNe→xO,reduceBEq→xP,reduceBNe→xQ
set_option linter.unusedVariables false
set_option linter.unusedSimpArgs false
set_option maxRecDepth 8000
namespace Go.Proofs.YtbcdaglbdnkocaaGreat
open Go Go.Ev Go.Pl Go.Ma

def Tk.enc (t:Tk):Array Value:=#[.int .i64 t.s.p,.int .i64 t.s.c,.int .i64 t.s.m,.int .i64 t.c,.int .i64 t.k,.int .i64 t.i,.int .i64 t.ep,.int .i64 t.es,.int .i64 t.ek,.bool t.hit,.bool t.fd,.bool t.dn]
def Tk.ren (t:Tk):Array Value:=#[.int .i64 t.s.p,.int .i64 t.s.c,.int .i64 t.s.m,.int .i64 t.c,.int .i64 t.k,.int .i64 t.i,.int .i64 t.ep,.int .i64 t.es,.int .i64 t.ek,.bool t.fd,.bool t.dn,.bool t.hit]
def rtB (k:Nat) (t:Tk):Hp:=sg k (.cells (Tk.ren t) 180 (0,0))
def Pu.enc (t:Pu):Array Value:=#[.int .i64 t.s.p,.int .i64 t.s.c,.int .i64 t.s.m,.int .i64 t.c,.int .i64 t.i,.int .i64 t.ep,.int .i64 t.es,.int .i64 t.ek,.bool t.hit,.bool t.put,.bool t.dn]

section
variable {W:World} {H:Hp} {k b s:Nat} {t:Tk} {u:Pu} {w:Wd} {l:List Hp}

variable {a:Option Addr} {cap:Nat} {g:Hp}
theorem m_tknew {sh:Sh} {c kk:Int} (hS:Sep l H) :
  CallP Tryz.prog W 119 #[.agg #[.int .i64 sh.p,.int .i64 sh.c,.int .i64 sh.m],.int .i64 c,.int .i64 kk] H fun v H'=>∃ k,v=.pointer (some ⟨k,0,none⟩)∧Sep (rtB k (Tk.new sh c kk) :: l) H':=by
 refine CallP.of mixed Tryz.func119 tr119 (by show 3≤_;decide) fun W _=>?_
 simp only[↓DD,UU,↓reduceIte,xA,xB,xC,xD,xE,xF,xG,xH,xI,xJ,xK,xL,xM,xN,xO,xP,xQ,ne_eq,eq_self]
 refine newB_intro fun x hx f1 f2=>?_
 simp only[↓DD,UU,↓reduceIte,xA,xB,xC,xD,xE,xF,xG,xH,xI,xJ,xK,xL,xM,xN,xO,xP,xQ,ne_eq,eq_self]
 refine draw_intro [(x,#[.int .i64 sh.p,.int .i64 sh.c,.int .i64 sh.m],[])] (by simp only[↓DD,UU,↓reduceIte,xA,xB,xC,xD,xE,xF,xG,xH,xI,xJ,xK,xL,xM,xN,xO,xP,xQ,ne_eq,eq_self]) ?_
 have sb:=slots_bd kk
 have n2:(slots kk == 0) = !decide (0<slots kk):=by
  rw[← decide_not];show decide _=_;exact decide_eq_decide.2 (by omega)
 cases h1:decide (0≤status sh.p sh.c sh.m c)<;>cases h3:decide (0<slots kk)
 all_goals
  rw[h3]at n2
  simp only[u_good,u_slots,h1,n2,↓DD,UU,↓reduceIte,xA,xB,xC,xD,xE,xF,xG,xH,xI,xJ,xK,xL,xM,xN,xO,xP,xQ,ne_eq,eq_self]
  refine newB_intro fun y hy f3 f4=>?_
  have nxy:(x=y)=False:=f3 x (by rw[upd_same];rfl)
  have nyx:(y=x)=False:=f4 x (by rw[upd_same];rfl)
  simp only[nxy,nyx,↓DD,UU,↓reduceIte,xA,xB,xC,xD,xE,xF,xG,xH,xI,xJ,xK,xL,xM,xN,xO,xP,xQ,ne_eq,eq_self]
  refine⟨y,rfl,?_⟩
  have:=((hS.new f1 _).new f3 (.cells (Tk.ren (Tk.new sh c kk)) 180 (0,0))).p1.tail
  unfold Tk.new good at this ⊢
  simp only[h1,h3]at this ⊢
  exact this
def rtC (k b s:Nat) (t:Tk) (w:Wd) (l:List Hp) (x:Int) (F':Fr) (H':Hp):Prop:=
 ∃ a2 cap2 g2,LogOk a2 cap2 w g2∧gt F' 0=.pointer (some ⟨k,0,none⟩)∧gt F' 5=.bool (okEn t.s x)∧∃ y,gt F' 4=.pointer (some ⟨y,0,none⟩) ∧
  Sep (rtB k t :: mB b s a2 cap2 w :: wR s w :: g2 :: sg y (.cells #[.int .i64 (enP t.s x),.int .i64 (enS t.s x),.int .i64 (enK t.s x)] 73 (0,0)) :: l) H'
theorem m_tkstep (ht:t.wf) (hw:t.dn=false→w.of t.s) (hL:LogOk a cap w g) (hl:w.st+1≤1000000000) (hS:Sep (rtB k t :: mB b s a cap w :: wR s w :: g :: l) H) :
  CallP Tryz.prog W 125 #[.pointer (some ⟨k,0,none⟩),.pointer (some ⟨b,0,none⟩)] H fun v H'=>v=.tuple #[] ∧
   ∃ a2 cap2 g2,LogOk a2 cap2 (t.step w).2 g2∧Sep (rtB k (t.step w).1 :: mB b s a2 cap2 (t.step w).2 :: wR s (t.step w).2 :: g2 :: l) H':=by
 refine CallP.of mixed Tryz.func125 tr125 (by show 2≤_;decide) fun W _=>?_
 have hk:=hS.look
 have r1:=fun o=>rd_of hk o
 have r2:=fun o n=>rdn_of hk o n
 rcases Tk.step_cases t w with⟨hd,e⟩|⟨hd,⟨hb,e⟩|⟨hb,hh,e⟩|⟨hb,hh,e⟩⟩<;>rw[e]
 ·simp only[hk,r1,Tk.ren,hd,↓DD,UU,↓reduceIte,xA,xB,xC,xD,xE,xF,xG,xH,xI,xJ,xK,xL,xM,xN,xO,xP,xQ,ne_eq,eq_self]
  exact⟨a,cap,g,hL,hS⟩
 all_goals
  obtain⟨hm,c0,c1,i0,i1⟩:=ht.of hd
  have hw:=hw hd
  obtain⟨q0,q1⟩:=mag_in hw hm c0 c1 i0 i1
  have hu:U (w.get (mag t.s.p t.s.c t.s.m t.c t.i)):=hw.u _
  have ml:=(may_iff _ _ _).1 hm
  simp only[hk,r1,r2,u_mag,Tk.ren,hd,hb,↓DD,UU,↓reduceIte,xA,xB,xC,xD,xE,xF,xG,xH,xI,xJ,xK,xL,xM,xN,xO,xP,xQ,ne_eq,eq_self]
 ·refine draw_intro [(k,Tk.ren t,[])] (by simp only[hk,↓DD,UU,↓reduceIte,xA,xB,xC,xD,xE,xF,xG,xH,xI,xJ,xK,xL,xM,xN,xO,xP,xQ,ne_eq,eq_self]) ?_
  simp only[hk,r1,r2,u_mag,Tk.ren,hd,hb,↓DD,UU,↓reduceIte,xA,xB,xC,xD,xE,xF,xG,xH,xI,xJ,xK,xL,xM,xN,xO,xP,xQ,ne_eq,eq_self]
  refine callT_of (m_store _ _ _ q0 q1 hL hl hS.r3) ?_
  rintro v H' ⟨rfl,a2,cap2,g2,hL,hS⟩
  have hS:=hS.p3
  have hk:=hS.look
  have r1:=fun o=>rd_of hk o
  simp only[hk,r1,Tk.ren,hd,hb,↓DD,UU,↓reduceIte,xA,xB,xC,xD,xE,xF,xG,xH,xI,xJ,xK,xL,xM,xN,xO,xP,xQ,ne_eq,eq_self]
  refine⟨a2,cap2,g2,hL,?_⟩
  have:=hS.set (.cells (Tk.ren { t with fd:=true,dn:=true }) 180 (0,0))
  unfold Tk.ren at this
  simp only[hb]at this
  unfold rtB Tk.ren
  simp only[hb]
  exact this
 all_goals
  refine draw_cut [(k,Tk.ren t,[])] (rtC k b s t (w.load t.c t.at') l (w.get t.at')) (by simp only[hk,↓DD,UU,↓reduceIte,xA,xB,xC,xD,xE,xF,xG,xH,xI,xJ,xK,xL,xM,xN,xO,xP,xQ,ne_eq,eq_self]) ?_ ?_
 ·simp only[hk,r1,r2,u_mag,Tk.ren,hd,hb,↓e_dalt2,↓DD,UU,↓reduceIte,xA,xB,xC,xD,xE,xF,xG,xH,xI,xJ,xK,xL,xM,xN,xO,xP,xQ,ne_eq,eq_self]
  refine⟨⟨?_,?_⟩,?_⟩
  ·refine callT_of (m_load _ _ q0 q1 hL hl hS.r3) ?_
   rintro v H' ⟨rfl,a2,cap2,g2,hL,hS⟩
   have hS:=hS.p3
   have hk:=hS.look
   have r1:=fun o=>rd_of hk o
   have r2:=fun o n=>rdn_of hk o n
   simp only[hk,r1,r2,u_readen t.s hu,Tk.ren,hd,hb,↓e_dalt2,↓DD,UU,↓reduceIte,xA,xB,xC,xD,xE,xF,xG,xH,xI,xJ,xK,xL,xM,xN,xO,xP,xQ,ne_eq,eq_self]
   refine⟨?_,?_⟩
   all_goals
    refine newB_intro fun y hy f3 f4=>?_
    have nky:(k=y)=False:=f3 k (by rw[hk];rfl)
    have nyk:(y=k)=False:=f4 k (by rw[hk];rfl)
    have hS2:=hS.new f3 (.cells #[.int .i64 (enP t.s (w.get t.at')),.int .i64 (enS t.s (w.get t.at')),.int .i64 (enK t.s (w.get t.at'))] 73 (0,0))
    simp only[hk,r1,r2,nky,nyk,u_readen t.s hu,Tk.ren,hd,hb,↓DD,UU,↓reduceIte,xA,xB,xC,xD,xE,xF,xG,xH,xI,xJ,xK,xL,xM,xN,xO,xP,xQ,ne_eq,eq_self]
    exact⟨a2,cap2,g2,hL,rfl,rfl,y,rfl,hS2.r4⟩
  all_goals
   refine newB_intro fun y hy f3 f4=>?_
   have nky:(k=y)=False:=f3 k (by rw[hk];rfl)
   have nyk:(y=k)=False:=f4 k (by rw[hk];rfl)
   have hS2:=hS.new f3 (.cells #[.int .i64 0,.int .i64 0,.int .i64 0] 73 (0,0))
   simp only[hk,r1,r2,nky,nyk,u_mag,Tk.ren,hd,hb,↓DD,UU,↓reduceIte,xA,xB,xC,xD,xE,xF,xG,xH,xI,xJ,xK,xL,xM,xN,xO,xP,xQ,ne_eq,eq_self]
   refine callT_of (m_load _ _ q0 q1 hL hl hS2.r4.r4) ?_
   rintro v H' ⟨rfl,a2,cap2,g2,hL,hS⟩
   have hS:=hS.p4
   have hk:=hS.look
   have hy1:=hS.lk 4 rfl
   have r1:=fun o=>rd_of hk o
   have r2:=fun o n=>rdn_of hk o n
   simp only[hk,hy1,r1,r2,nky,nyk,u_readen t.s hu,Tk.ren,hd,hb,↓DD,UU,↓reduceIte,xA,xB,xC,xD,xE,xF,xG,xH,xI,xJ,xK,xL,xM,xN,xO,xP,xQ,ne_eq,eq_self]
   exact⟨a2,cap2,g2,hL,rfl,rfl,y,rfl,(hS.p4.set _).r4⟩
 ·rintro F' H' ⟨a2,cap2,g2,hL,e0,e6,y,e5,hS⟩
  simp only[Tk.hits,Bool.and_eq_true,decide_eq_true_eq]at hh
  have h1:okEn t.s (w.get t.at')=true:=hh.1
  have h2:(enK t.s (w.get t.at') == t.k)=true:=beq_iff_eq.2 hh.2
  have hk:=hS.look
  have hy1:=hS.lk 4 rfl
  have r1:=fun o=>rd_of hk o
  have r3:=fun o=>rd_of hy1 o
  have r4:=fun o n=>rdn_of hy1 o n
  simp only[e0,e6,e5,hk,hy1,r1,r3,r4,h1,h2,Tk.ren,hd,hb,↓DD,UU,↓reduceIte,xA,xB,xC,xD,xE,xF,xG,xH,xI,xJ,xK,xL,xM,xN,xO,xP,xQ,ne_eq,eq_self]
  refine⟨a2,cap2,g2,hL,?_⟩
  have:=hS.set (.cells (Tk.ren { t with ep:=enP t.s (w.get t.at'),es:=enS t.s (w.get t.at'),ek:=enK t.s (w.get t.at'),hit:=true }) 180 (0,0))
  unfold Tk.ren at this
  simp only[hd]at this
  unfold rtB Tk.ren
  simp only[hd]
  exact this.p4.tail
 ·simp only[hk,r1,r2,u_mag,Tk.ren,hd,hb,↓e_dalt2,↓DD,UU,↓reduceIte,xA,xB,xC,xD,xE,xF,xG,xH,xI,xJ,xK,xL,xM,xN,xO,xP,xQ,ne_eq,eq_self]
  refine⟨⟨?_,?_⟩,?_⟩
  ·refine callT_of (m_load _ _ q0 q1 hL hl hS.r3) ?_
   rintro v H' ⟨rfl,a2,cap2,g2,hL,hS⟩
   have hS:=hS.p3
   have hk:=hS.look
   have r1:=fun o=>rd_of hk o
   have r2:=fun o n=>rdn_of hk o n
   simp only[hk,r1,r2,u_readen t.s hu,Tk.ren,hd,hb,↓e_dalt2,↓DD,UU,↓reduceIte,xA,xB,xC,xD,xE,xF,xG,xH,xI,xJ,xK,xL,xM,xN,xO,xP,xQ,ne_eq,eq_self]
   refine⟨?_,?_⟩
   all_goals
    refine newB_intro fun y hy f3 f4=>?_
    have nky:(k=y)=False:=f3 k (by rw[hk];rfl)
    have nyk:(y=k)=False:=f4 k (by rw[hk];rfl)
    have hS2:=hS.new f3 (.cells #[.int .i64 (enP t.s (w.get t.at')),.int .i64 (enS t.s (w.get t.at')),.int .i64 (enK t.s (w.get t.at'))] 73 (0,0))
    simp only[hk,r1,r2,nky,nyk,u_readen t.s hu,Tk.ren,hd,hb,↓DD,UU,↓reduceIte,xA,xB,xC,xD,xE,xF,xG,xH,xI,xJ,xK,xL,xM,xN,xO,xP,xQ,ne_eq,eq_self]
    exact⟨a2,cap2,g2,hL,rfl,rfl,y,rfl,hS2.r4⟩
  all_goals
   refine newB_intro fun y hy f3 f4=>?_
   have nky:(k=y)=False:=f3 k (by rw[hk];rfl)
   have nyk:(y=k)=False:=f4 k (by rw[hk];rfl)
   have hS2:=hS.new f3 (.cells #[.int .i64 0,.int .i64 0,.int .i64 0] 73 (0,0))
   simp only[hk,r1,r2,nky,nyk,u_mag,Tk.ren,hd,hb,↓DD,UU,↓reduceIte,xA,xB,xC,xD,xE,xF,xG,xH,xI,xJ,xK,xL,xM,xN,xO,xP,xQ,ne_eq,eq_self]
   refine callT_of (m_load _ _ q0 q1 hL hl hS2.r4.r4) ?_
   rintro v H' ⟨rfl,a2,cap2,g2,hL,hS⟩
   have hS:=hS.p4
   have hk:=hS.look
   have hy1:=hS.lk 4 rfl
   have r1:=fun o=>rd_of hk o
   have r2:=fun o n=>rdn_of hk o n
   simp only[hk,hy1,r1,r2,nky,nyk,u_readen t.s hu,Tk.ren,hd,hb,↓DD,UU,↓reduceIte,xA,xB,xC,xD,xE,xF,xG,xH,xI,xJ,xK,xL,xM,xN,xO,xP,xQ,ne_eq,eq_self]
   exact⟨a2,cap2,g2,hL,rfl,rfl,y,rfl,(hS.p4.set _).r4⟩
 ·rintro F' H' ⟨a2,cap2,g2,hL,e0,e6,y,e5,hS⟩
  have hk:=hS.look
  have hy1:=hS.lk 4 rfl
  have nky:=hS.neq 0 4 (by decide) rfl rfl
  have nyk:=hS.qen 0 4 (by decide) rfl rfl
  have r1:=fun o=>rd_of hk o
  have r3:=fun o=>rd_of hy1 o
  have wi:w64 (t.i+1)=t.i+1:=w64_eq (by omega) (by omega)
  simp only[Tk.hits,Bool.and_eq_false_iff,decide_eq_false_iff_not]at hh
  have h3:okEn t.s (w.get t.at')=false∨okEn t.s (w.get t.at')=true∧(enK t.s (w.get t.at') == t.k)=false:=by
   cases h1:okEn t.s (w.get t.at')
   ·exact .inl rfl
   ·right
    rcases hh with h | h
    ·rw[h1]at h;cases h
    ·exact⟨rfl,beq_eq_false_iff_ne.2 h⟩
  rcases h3 with h1 |⟨h1,h2⟩
  ·simp only[e0,e6,e5,hk,hy1,r1,r3,h1,wrap_w64,wi,Tk.ren,hd,hb,↓DD,UU,↓reduceIte,xA,xB,xC,xD,xE,xF,xG,xH,xI,xJ,xK,xL,xM,xN,xO,xP,xQ,ne_eq,eq_self]
   refine draw_intro [(k,#[.int .i64 t.s.p,.int .i64 t.s.c,.int .i64 t.s.m,.int .i64 t.c,.int .i64 t.k,.int .i64 (t.i+1),.int .i64 t.ep,.int .i64 t.es,.int .i64 t.ek,.bool t.fd,.bool false,.bool false],[])] (by simp only[↓DD,UU,↓reduceIte,xA,xB,xC,xD,xE,xF,xG,xH,xI,xJ,xK,xL,xM,xN,xO,xP,xQ,ne_eq,eq_self]) ?_
   simp only[e0,e6,e5,↓DD,UU,↓reduceIte,xA,xB,xC,xD,xE,xF,xG,xH,xI,xJ,xK,xL,xM,xN,xO,xP,xQ,ne_eq,eq_self]
   refine⟨a2,cap2,g2,hL,?_⟩
   have:=hS.set (.cells (Tk.ren { t with i:=t.i+1,dn:=decide (t.i+1=t.s.m) }) 180 (0,0))
   unfold Tk.ren at this
   simp only[hb]at this
   unfold rtB Tk.ren
   simp only[hb]
   exact this.p4.tail
  ·simp only[e0,e6,e5,hk,hy1,r1,r3,h1,h2,wrap_w64,wi,Tk.ren,hd,hb,↓DD,UU,↓reduceIte,xA,xB,xC,xD,xE,xF,xG,xH,xI,xJ,xK,xL,xM,xN,xO,xP,xQ,ne_eq,eq_self]
   refine draw_intro [(k,#[.int .i64 t.s.p,.int .i64 t.s.c,.int .i64 t.s.m,.int .i64 t.c,.int .i64 t.k,.int .i64 (t.i+1),.int .i64 t.ep,.int .i64 t.es,.int .i64 t.ek,.bool t.fd,.bool false,.bool false],[])] (by simp only[↓DD,UU,↓reduceIte,xA,xB,xC,xD,xE,xF,xG,xH,xI,xJ,xK,xL,xM,xN,xO,xP,xQ,ne_eq,eq_self]) ?_
   simp only[e0,e6,e5,↓DD,UU,↓reduceIte,xA,xB,xC,xD,xE,xF,xG,xH,xI,xJ,xK,xL,xM,xN,xO,xP,xQ,ne_eq,eq_self]
   refine⟨a2,cap2,g2,hL,?_⟩
   have:=hS.set (.cells (Tk.ren { t with i:=t.i+1,dn:=decide (t.i+1=t.s.m) }) 180 (0,0))
   unfold Tk.ren at this
   simp only[hb]at this
   unfold rtB Tk.ren
   simp only[hb]
   exact this.p4.tail
end

end Go.Proofs.YtbcdaglbdnkocaaGreat
