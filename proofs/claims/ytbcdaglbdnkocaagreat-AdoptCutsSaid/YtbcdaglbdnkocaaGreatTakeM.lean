/-
 The document's reserver and committer. Conditions: none.
-/
import Derived.Test.YtbcdaglbdnkocaaGreatCodeX
import Derived.Test.YtbcdaglbdnkocaaGreatSeekM
import Derived.Test.YtbcdaglbdnkocaaGreatRunM
import Derived.Test.YtbcdaglbdnkocaaGreatMaTake
import Derived.Test.YtbcdaglbdnkocaaGreatMaSo
import Derived.Test.YtbcdaglbdnkocaaGreatGiveA
import Derived.Test.YtbcdaglbdnkocaaGreatFamL
open Nat renaming reduceAdd→xA,reduceMul→xB,reduceSub→xC,reduceEqDiff→xD,reduceBEq→xE,reduceLeDiff→xF,reduceLT→xG
open Int renaming reduceAdd→xH,reduceMul→xI,reduceSub→xJ,reduceLT→xK,reduceLE→xL,reduceToNat→xM,reduceEq→xN,reduceNe→xO,reduceBEq→xP,reduceBNe→xQ
set_option linter.unusedVariables false
set_option linter.unusedSectionVars false
set_option linter.unusedSimpArgs false
set_option maxRecDepth 8000
namespace Go.Proofs.YtbcdaglbdnkocaaGreat
open Go Go.Ev Go.Pl Go.Ma
theorem SD.rd {t:Sk} {C:Array Value} {X1 X2 X3 X4 X5:Hp} (hf:t.dn=false→t.fd=false) (h:SD t C X1 X2 X3 X4 X5):C[8]? = some (.bool t.fd)∧C[9]? = some (.bool t.dn)∧C[4]? = some (.int .i64 t.k)∧(t.fd=true→C[6]? = some (.int .i64 t.pg)∧C[7]? = some (.int .i64 t.sl)):=by
 cases h with
 | dn hd hg=>exact⟨rfl,by rw[hd];rfl,rfl,fun g=>by obtain⟨g1,g2⟩:=hg g;rw[← g1,← g2];exact⟨rfl,rfl⟩⟩
 | tk hd=>exact⟨by rw[hf hd];rfl,by rw[hd];rfl,rfl,fun g=>by rw[hf hd]at g;cases g⟩
 | sc hd=>exact⟨by rw[hf hd];rfl,by rw[hd];rfl,rfl,fun g=>by rw[hf hd]at g;cases g⟩
 | pc hd=>exact⟨by rw[hf hd];rfl,by rw[hd];rfl,rfl,fun g=>by rw[hf hd]at g;cases g⟩
 | no hd=>exact⟨by rw[hf hd];rfl,by rw[hd];rfl,rfl,fun g=>by rw[hf hd]at g;cases g⟩
 | st hd=>exact⟨by rw[hf hd];rfl,by rw[hd];rfl,rfl,fun g=>by rw[hf hd]at g;cases g⟩
 | bi hd=>exact⟨by rw[hf hd];rfl,by rw[hd];rfl,rfl,fun g=>by rw[hf hd]at g;cases g⟩
theorem sk_newfd (sh:Sh) (c k f:Int):(Sk.new sh c k f).fd=false:=by
 unfold Sk.new
 cases hg:(good sh c k && decide (0≤page sh.p sh.c sh.m f))
 ·rfl
 ·simp only[if_true]
  cases hd:(Tk.new sh c k).dn
  ·rw[Sa.set_go _ (by exact hd)]
  ·rw[Sa.set_af _ (by exact hd)];rfl
def rsC (b:Bk) (fd dn:Bool) (p q:Value):Array Value:=#[.bool b.lg,.int .i64 b.p,.int .i64 b.i,.int .i64 b.k,.int .i64 b.n,.bool fd,.bool dn,p,q]
def rsD (k:Nat) (c:Array Value):Hp:=sg k (.cells c 108 (0,0))
inductive RD:Rv→Array Value→Hp→Hp→Hp→Hp→Hp→Hp→Prop
 | sk {t:Sk} {k2:Nat} {c:Array Value} {X1 X2 X3 X4 X5:Hp} (h:SD t c X1 X2 X3 X4 X5):RD (.sk t) (rsC (Rv.sk t).bk t.fd t.dn (.pointer (some ⟨k2,0,none⟩)) (.pointer none)) (sdB k2 c) X1 X2 X3 X4 X5
 | rn {t:Rn} {k2 ks:Nat}:RD (.rn t) (rsC (Rv.rn t).bk t.fd t.dn (.pointer none) (.pointer (some ⟨k2,0,none⟩))) (rrB k2 ks t) (rsO ks t.st) sno sno sno sno
section
variable {W:World} {H:Hp} {k b s:Nat} {v:Rv} {w:Wd} {l:List Hp} {a:Option Addr} {cap:Nat} {g Y X1 X2 X3 X4 X5:Hp} {C:Array Value}
theorem m_rsnew {sh:Sh} {c n f:Int} (hf:fine n=true) (hS:Sep l H) :
  CallP Tryz.prog W 39 #[.agg #[.int .i64 sh.p,.int .i64 sh.c,.int .i64 sh.m],.int .i64 c,.int .i64 n,.int .i64 f] H fun v H'=>∃ k C Y X1 X2 X3 X4 X5,v=.pointer (some ⟨k,0,none⟩)∧RD (Rv.new sh c n f) C Y X1 X2 X3 X4 X5∧Sep (rsD k C :: Y :: X1 :: X2 :: X3 :: X4 :: X5 :: l) H':=by
 refine CallP.of mixed Tryz.func39 tr39 (by show 4≤_;decide) fun W _=>?_
 simp only[↓DD,UU,↓reduceIte,xA,xB,xC,xD,xE,xF,xG,xH,xI,xJ,xK,xL,xM,xN,xO,xP,xQ,ne_eq,eq_self]
 refine newB_intro fun x hx f1 f2=>?_
 have hS:=hS.new f1 (.cells #[.int .i64 sh.p,.int .i64 sh.c,.int .i64 sh.m] 23 (0,0))
 have hx1:=hS.look
 have r1:=fun o n=>rdn_of hx1 o n
 simp only[hx1,r1,↓DD,UU,↓reduceIte,xA,xB,xC,xD,xE,xF,xG,xH,xI,xJ,xK,xL,xM,xN,xO,xP,xQ,ne_eq,eq_self]
 refine newB_intro fun y hy f3 f4=>?_
 have nxy:(x=y)=False:=f3 x (by rw[hx1];rfl)
 have nyx:(y=x)=False:=f4 x (by rw[hx1];rfl)
 have hS:=hS.new f3 (.cells (rsC Bk.zero false false (.pointer none) (.pointer none)) 108 (0,0))
 cases hs:small n
 ·have hl:large n=true:=by unfold fine at hf;rw[hs]at hf;exact hf
  have e:Rv.new sh c n f=.rn (Rn.new sh c (pages n)):=by unfold Rv.new;rw[hs,hl];rfl
  rw[e]
  simp only[hx1,r1,nxy,nyx,u_class,u_run,hs,hl,↓DD,UU,↓reduceIte,xA,xB,xC,xD,xE,xF,xG,xH,xI,xJ,xK,xL,xM,xN,xO,xP,xQ,ne_eq,eq_self]
  refine callT_of (m_rnnew (sh:=sh) (c:=c) (n:=pages n) hS) ?_
  rintro v H' ⟨k2,rfl,hS⟩
  have hy1:=hS.lk 1 rfl
  have hk1:=hS.look
  have rk:=fun o=>rd_of hk1 o
  have nky:=hS.neq 0 1 (by decide) rfl rfl
  have nyk:=hS.qen 0 1 (by decide) rfl rfl
  have hS:=(hS.p1.set (.cells (rsC Bk.zero false (Rn.new sh c (pages n)).dn (.pointer none) (.pointer (some ⟨k2,0,none⟩))) 108 (0,0)))
  simp only[hy1,hk1,rk,nky,nyk,rsC,Rn.ren,Ev.upd_upd,↓DD,UU,↓reduceIte,xA,xB,xC,xD,xE,xF,xG,xH,xI,xJ,xK,xL,xM,xN,xO,xP,xQ,ne_eq,eq_self]
  exact⟨y,_,_,_,_,_,_,_,rfl,.rn (t:=Rn.new sh c (pages n)) (k2:=k2) (ks:=0),hS.p2.tail.nothing.r2.nothing.r2.nothing.r2.nothing.r2.nothing.r2⟩
 ·have e:Rv.new sh c n f=.sk (Sk.new sh c (cls n) f):=by unfold Rv.new;rw[hs];rfl
  rw[e]
  simp only[hx1,r1,nxy,nyx,u_class,u_run,hs,↓DD,UU,↓reduceIte,xA,xB,xC,xD,xE,xF,xG,xH,xI,xJ,xK,xL,xM,xN,xO,xP,xQ,ne_eq,eq_self]
  refine callT_of (m_sdnew (sh:=sh) (c:=c) (kk:=cls n) (f:=f) hS) ?_
  rintro v H' ⟨k2,C,X1,X2,X3,rfl,hD,hS⟩
  obtain⟨h8,h9,-,-⟩:=SD.rd (Sk.new_wf ..).fd hD
  have hy1:=hS.lk 4 rfl
  have hk1:=hS.look
  have rk:=fun o=>rd_of hk1 o
  have nky:=hS.neq 0 4 (by decide) rfl rfl
  have nyk:=hS.qen 0 4 (by decide) rfl rfl
  have hfd:=sk_newfd sh c (cls n) f
  have hbk:(Rv.sk (Sk.new sh c (cls n) f)).bk=Bk.zero:=if_neg (by rw[hfd];decide)
  have hS:=(hS.p4.set (.cells (rsC Bk.zero false (Sk.new sh c (cls n) f).dn (.pointer (some ⟨k2,0,none⟩)) (.pointer none)) 108 (0,0))).p5.tail.nothing.r5.nothing.r5
  simp only[hy1,hk1,rk,h9,nky,nyk,rsC,Ev.upd_upd,↓DD,UU,↓reduceIte,xA,xB,xC,xD,xE,xF,xG,xH,xI,xJ,xK,xL,xM,xN,xO,xP,xQ,ne_eq,eq_self]
  have hR:=RD.sk (k2:=k2) hD
  rw[hbk,hfd]at hR
  exact⟨y,_,_,_,_,_,_,_,rfl,hR,hS⟩
theorem m_rsstep (ht:v.wf) (hd:v.dn=false) (hw:w.of v.shp) (hD:RD v C Y X1 X2 X3 X4 X5) (hL:LogOk a cap w g) (hl:w.st+1≤1000000000) (hS:Sep (rsD k C :: Y :: X1 :: X2 :: X3 :: X4 :: X5 :: mB b s a cap w :: wR s w :: g :: l) H) :
  CallP Tryz.prog W 45 #[.pointer (some ⟨k,0,none⟩),.pointer (some ⟨b,0,none⟩)] H fun u H'=>u=.tuple #[] ∧
   ∃ C2 Z Y1 Y2 Y3 Y4 Y5 a2 cap2 g2,RD (v.step w).1 C2 Z Y1 Y2 Y3 Y4 Y5∧LogOk a2 cap2 (v.step w).2 g2∧Sep (rsD k C2 :: Z :: Y1 :: Y2 :: Y3 :: Y4 :: Y5 :: mB b s a2 cap2 (v.step w).2 :: wR s (v.step w).2 :: g2 :: l) H':=by
 refine CallP.of mixed Tryz.func45 tr45 (by show 2≤_;decide) fun W _=>?_
 have hk:=hS.look
 have r1:=fun o=>rd_of hk o
 cases hD with
 | @sk t k2 c X1 X2 X3 X4 X5 h=>
  have hd:t.dn=false:=hd
  have hfd:=ht.fd hd
  have hS:=Sep.over (X:=[_,_,_,_,_,_]) (L:=[_,_,_]) (Sep.over (X:=[_]) (L:=[_,_,_,_,_,_,_,_,_]) hS)
  simp only[hk,r1,rsC,hd,↓DD,UU,↓reduceIte,xA,xB,xC,xD,xE,xF,xG,xH,xI,xJ,xK,xL,xM,xN,xO,xP,xQ,ne_eq,eq_self]
  refine callT_of (m_sdstep ht (fun _=>hw) h hL hl hS) ?_
  rintro u H' ⟨rfl,c2,Y1,Y2,Y3,Y4,Y5,a2,cap2,g2,h2,hL2,hS⟩
  have hS:=Sep.over (X:=[_,_,_,_,_,_,_,_,_]) (L:=[_]) (Sep.over (X:=[_,_,_]) (L:=[_,_,_,_,_,_]) hS)
  obtain⟨t',ht'⟩:∃ t',(t.step w).1=t':=⟨_,rfl⟩
  have hwf2:t'.wf:=by rw[← ht'];exact Sk.step_wf ht
  rw[ht']at h2
  obtain⟨i8,i9,i4,i67⟩:=SD.rd hwf2.fd h2
  have hk:=hS.look
  have r1:=fun o=>rd_of hk o
  have hq:=hS.lk 1 rfl
  have rq:=fun o=>rd_of hq o
  have nkq:=hS.neq 0 1 (by decide) rfl rfl
  have nqk:=hS.qen 0 1 (by decide) rfl rfl
  have e2:((Rv.sk t).step w).1=.sk t':=by rw[← ht'];rfl
  rw[e2]
  have hb0:(Rv.sk t).bk=Bk.zero:=if_neg (by rw[hfd];decide)
  have hR:=RD.sk (k2:=k2) h2
  rw[hb0]at hS hk r1
  cases hf2:t'.fd
  ·have hb1:(Rv.sk t').bk=Bk.zero:=if_neg (by rw[hf2];decide)
   rw[hb1,hf2]at hR
   rw[hf2]at i8
   simp only[hk,r1,hq,rq,nkq,nqk,hfd,i8,i9,rsC,↓DD,UU,↓reduceIte,xA,xB,xC,xD,xE,xF,xG,xH,xI,xJ,xK,xL,xM,xN,xO,xP,xQ,ne_eq,eq_self]
   refine draw_intro [(k,rsC Bk.zero false t.dn (.pointer (some ⟨k2,0,none⟩)) (.pointer none),[6]),(k2,c2,[])] (by simp only[hk,hq,rsC,hfd,↓DD,UU,↓reduceIte,xA,xB,xC,xD,xE,xF,xG,xH,xI,xJ,xK,xL,xM,xN,xO,xP,xQ,ne_eq,eq_self]) ?_
   simp only[hk,r1,hq,rq,nkq,nqk,hfd,hd,i8,i9,rsC,Ev.upd_upd,↓DD,UU,↓reduceIte,xA,xB,xC,xD,xE,xF,xG,xH,xI,xJ,xK,xL,xM,xN,xO,xP,xQ,ne_eq,eq_self]
   exact⟨_,_,_,_,_,_,_,_,_,_,hR,hL2,hS.set (.cells (rsC Bk.zero false t'.dn (.pointer (some ⟨k2,0,none⟩)) (.pointer none)) 108 (0,0))⟩
  ·have hb1:(Rv.sk t').bk=⟨false,t'.pg,t'.sl,t'.k,0⟩:=if_pos hf2
   obtain⟨i6,i7⟩:=i67 hf2
   rw[hb1,hf2]at hR
   rw[hf2]at i8
   simp only[hk,r1,hq,rq,nkq,nqk,hfd,i8,i9,rsC,↓DD,UU,↓reduceIte,xA,xB,xC,xD,xE,xF,xG,xH,xI,xJ,xK,xL,xM,xN,xO,xP,xQ,ne_eq,eq_self]
   refine draw_intro [(k,rsC Bk.zero false t.dn (.pointer (some ⟨k2,0,none⟩)) (.pointer none),[6]),(k2,c2,[])] (by simp only[hk,hq,rsC,hfd,↓DD,UU,↓reduceIte,xA,xB,xC,xD,xE,xF,xG,xH,xI,xJ,xK,xL,xM,xN,xO,xP,xQ,ne_eq,eq_self]) ?_
   simp only[hk,r1,hq,rq,nkq,nqk,hfd,hd,i8,i9,rsC,Ev.upd_upd,↓DD,UU,↓reduceIte,xA,xB,xC,xD,xE,xF,xG,xH,xI,xJ,xK,xL,xM,xN,xO,xP,xQ,ne_eq,eq_self]
   refine draw_intro [(k,rsC Bk.zero true t'.dn (.pointer (some ⟨k2,0,none⟩)) (.pointer none),[]),(k2,c2,[])] (by simp only[hk,hq,rsC,hfd,nkq,nqk,↓DD,UU,↓reduceIte,xA,xB,xC,xD,xE,xF,xG,xH,xI,xJ,xK,xL,xM,xN,xO,xP,xQ,ne_eq,eq_self]) ?_
   simp only[hk,r1,hq,rq,nkq,nqk,hfd,hd,i4,i6,i7,rsC,Ev.upd_upd,↓DD,UU,↓reduceIte,xA,xB,xC,xD,xE,xF,xG,xH,xI,xJ,xK,xL,xM,xN,xO,xP,xQ,ne_eq,eq_self]
   exact⟨_,_,_,_,_,_,_,_,_,_,hR,hL2,hS.set (.cells (rsC ⟨false,t'.pg,t'.sl,t'.k,0⟩ true t'.dn (.pointer (some ⟨k2,0,none⟩)) (.pointer none)) 108 (0,0))⟩
 | @rn t k2 ks=>
  have hd:t.dn=false:=hd
  have hfd:=(Rn.wf.of ht hd).2.1
  have hS:=Sep.over (X:=[_,_,_,_]) (L:=[_,_]) (Sep.over (X:=[_,_,_,_,_,_,_]) (L:=[_,_,_]) hS)
  simp only[hk,r1,rsC,hd,↓DD,UU,↓reduceIte,xA,xB,xC,xD,xE,xF,xG,xH,xI,xJ,xK,xL,xM,xN,xO,xP,xQ,ne_eq,eq_self]
  refine callT_of (m_rnstep ht (fun _=>hw) hL hl hS) ?_
  rintro u H' ⟨rfl,ks2,a2,cap2,g2,hL2,hS⟩
  have hS:=(Sep.over (X:=[_,_,_,_,_]) (L:=[_,_]) (Sep.over (X:=[_,_,_,_,_,_,_,_,_]) (L:=[_]) (Sep.over (X:=[_,_,_,_,_,_]) (L:=[_,_,_,_]) hS))).p2
  obtain⟨t',ht'⟩:∃ t',(t.step w).1=t':=⟨_,rfl⟩
  rw[ht']at hS
  have hk:=hS.look
  have r1:=fun o=>rd_of hk o
  have hq:=hS.lk 1 rfl
  have rq:=fun o=>rd_of hq o
  have nkq:=hS.neq 0 1 (by decide) rfl rfl
  have nqk:=hS.qen 0 1 (by decide) rfl rfl
  have e2:((Rv.rn t).step w).1=.rn t':=by rw[← ht'];rfl
  rw[e2]
  have hb0:(Rv.rn t).bk=Bk.zero:=if_neg (by rw[hfd];decide)
  have hR:=RD.rn (t:=t') (k2:=k2) (ks:=ks2)
  rw[hb0]at hS hk r1
  cases hf2:t'.fd
  ·have hb1:(Rv.rn t').bk=Bk.zero:=if_neg (by rw[hf2];decide)
   rw[hb1,hf2]at hR
   simp only[hk,r1,hq,rq,nkq,nqk,hfd,hf2,rsC,Rn.ren,↓DD,UU,↓reduceIte,xA,xB,xC,xD,xE,xF,xG,xH,xI,xJ,xK,xL,xM,xN,xO,xP,xQ,ne_eq,eq_self]
   refine draw_intro [(k,rsC Bk.zero false t.dn (.pointer none) (.pointer (some ⟨k2,0,none⟩)),[6]),(k2,Rn.ren ks2 t',[])] (by simp only[hk,hq,rsC,hfd,Rn.ren,↓DD,UU,↓reduceIte,xA,xB,xC,xD,xE,xF,xG,xH,xI,xJ,xK,xL,xM,xN,xO,xP,xQ,ne_eq,eq_self]) ?_
   simp only[hk,r1,hq,rq,nkq,nqk,hfd,hd,hf2,rsC,Rn.ren,Ev.upd_upd,↓DD,UU,↓reduceIte,xA,xB,xC,xD,xE,xF,xG,xH,xI,xJ,xK,xL,xM,xN,xO,xP,xQ,ne_eq,eq_self]
   exact⟨_,_,_,_,_,_,_,_,_,_,hR,hL2,hS.set (.cells (rsC Bk.zero false t'.dn (.pointer none) (.pointer (some ⟨k2,0,none⟩))) 108 (0,0))⟩
  ·have hb1:(Rv.rn t').bk=⟨true,t'.hd,0,0,t'.n⟩:=if_pos hf2
   rw[hb1,hf2]at hR
   simp only[hk,r1,hq,rq,nkq,nqk,hfd,hf2,rsC,Rn.ren,↓DD,UU,↓reduceIte,xA,xB,xC,xD,xE,xF,xG,xH,xI,xJ,xK,xL,xM,xN,xO,xP,xQ,ne_eq,eq_self]
   refine draw_intro [(k,rsC Bk.zero false t.dn (.pointer none) (.pointer (some ⟨k2,0,none⟩)),[6]),(k2,Rn.ren ks2 t',[])] (by simp only[hk,hq,rsC,hfd,Rn.ren,↓DD,UU,↓reduceIte,xA,xB,xC,xD,xE,xF,xG,xH,xI,xJ,xK,xL,xM,xN,xO,xP,xQ,ne_eq,eq_self]) ?_
   simp only[hk,r1,hq,rq,nkq,nqk,hfd,hd,hf2,rsC,Rn.ren,Ev.upd_upd,↓DD,UU,↓reduceIte,xA,xB,xC,xD,xE,xF,xG,xH,xI,xJ,xK,xL,xM,xN,xO,xP,xQ,ne_eq,eq_self]
   refine draw_intro [(k,rsC Bk.zero true t'.dn (.pointer none) (.pointer (some ⟨k2,0,none⟩)),[]),(k2,Rn.ren ks2 t',[])] (by simp only[hk,hq,rsC,hfd,Rn.ren,nkq,nqk,hf2,↓DD,UU,↓reduceIte,xA,xB,xC,xD,xE,xF,xG,xH,xI,xJ,xK,xL,xM,xN,xO,xP,xQ,ne_eq,eq_self]) ?_
   simp only[hk,r1,hq,rq,nkq,nqk,hfd,hd,hf2,rsC,Rn.ren,Ev.upd_upd,↓DD,UU,↓reduceIte,xA,xB,xC,xD,xE,xF,xG,xH,xI,xJ,xK,xL,xM,xN,xO,xP,xQ,ne_eq,eq_self]
   exact⟨_,_,_,_,_,_,_,_,_,_,hR,hL2,hS.set (.cells (rsC ⟨true,t'.hd,0,0,t'.n⟩ true t'.dn (.pointer none) (.pointer (some ⟨k2,0,none⟩))) 108 (0,0))⟩
def cmE (t:Cm):Array Value:=#[.int .i64 t.s.p,.int .i64 t.s.c,.int .i64 t.s.m,.int .i64 t.c,.bool t.b.lg,.int .i64 t.b.p,.int .i64 t.b.i,.int .i64 t.b.k,.int .i64 t.b.n,.bool t.dn]
def cmD (k:Nat) (t:Cm):Hp:=sg k (.cells (cmE t) 104 (0,0))
def bkD (b:Bk):Value:=.agg #[.bool b.lg,.int .i64 b.p,.int .i64 b.i,.int .i64 b.k,.int .i64 b.n]
theorem u_fitsB {sh:Sh} {c:Int} {B:Bk} (hb:B.Fit sh c) (hz:(B.lg=true→B.i=0∧B.k=0)∧(B.lg=false→B.n=0)) :
  pv Tryz.prog 87 #[.agg #[.int .i64 sh.p,.int .i64 sh.c,.int .i64 sh.m],.int .i64 c,.agg #[.bool B.lg,.int .i64 B.p,.int .i64 B.i,.int .i64 B.k,.int .i64 B.n]] = some (.bool true):=by
 have p0:=hb.p0
 have p1:=hb.p1
 have c0:=hb.c0
 have c1:=hb.c1
 cases e:B.lg
 ·rw[hz.2 e];exact u_fitsS _ _ _ _ _ hb.m ⟨c0,c1⟩ ⟨p0,p1⟩ (hb.s e)
 ·obtain⟨z1,z2⟩:=hz.1 e
  obtain⟨l1,l2,l3⟩:=hb.l e
  rw[z1,z2];exact u_fitsL _ _ _ _ hb.m ⟨c0,c1⟩ ⟨p0,p1⟩ ⟨l1,l2⟩ l3
theorem m_cmnew {sh:Sh} {c:Int} {B:Bk} (hb:B.Fit sh c) (hz:(B.lg=true→B.i=0∧B.k=0)∧(B.lg=false→B.n=0)) (hS:Sep l H) :
  CallP Tryz.prog W 46 #[.agg #[.int .i64 sh.p,.int .i64 sh.c,.int .i64 sh.m],.int .i64 c,bkD B] H fun v H'=>∃ k,v=.pointer (some ⟨k,0,none⟩)∧Sep (cmD k (Cm.new sh c B) :: l) H':=by
 refine CallP.of mixed Tryz.func46 tr46 (by show 3≤_;decide) fun W _=>?_
 have hf:=u_fitsB hb hz
 have hdn:(!B.fits sh c)=false:=by rw[Bk.of_fits hb];rfl
 simp only[bkD,↓DD,UU,↓reduceIte,xA,xB,xC,xD,xE,xF,xG,xH,xI,xJ,xK,xL,xM,xN,xO,xP,xQ,ne_eq,eq_self]
 refine newB_intro fun x hx f1 f2=>?_
 have hS:=hS.new f1 (.cells #[.int .i64 sh.p,.int .i64 sh.c,.int .i64 sh.m] 23 (0,0))
 simp only[↓DD,UU,↓reduceIte,xA,xB,xC,xD,xE,xF,xG,xH,xI,xJ,xK,xL,xM,xN,xO,xP,xQ,ne_eq,eq_self]
 refine newB_intro fun z hz f3 f4=>?_
 have hS:=hS.new f3 (.cells #[.bool B.lg,.int .i64 B.p,.int .i64 B.i,.int .i64 B.k,.int .i64 B.n] 102 (0,0))
 have hx1:=hS.lk 1 rfl
 have hz1:=hS.look
 have r1:=fun o n=>rdn_of hx1 o n
 have r2:=fun o n=>rdn_of hz1 o n
 have nzx:=hS.neq 0 1 (by decide) rfl rfl
 have nxz:=hS.qen 0 1 (by decide) rfl rfl
 simp only[↓DD,UU,↓reduceIte,xA,xB,xC,xD,xE,xF,xG,xH,xI,xJ,xK,xL,xM,xN,xO,xP,xQ,ne_eq,eq_self]
 refine draw_intro [(x,#[.int .i64 sh.p,.int .i64 sh.c,.int .i64 sh.m],[]),(z,#[.bool B.lg,.int .i64 B.p,.int .i64 B.i,.int .i64 B.k,.int .i64 B.n],[])] (by simp only[hx1,hz1,↓DD,UU,↓reduceIte,xA,xB,xC,xD,xE,xF,xG,xH,xI,xJ,xK,xL,xM,xN,xO,xP,xQ,ne_eq,eq_self]) ?_
 simp only[hx1,hz1,r1,r2,nzx,nxz,hf,↓DD,UU,↓reduceIte,xA,xB,xC,xD,xE,xF,xG,xH,xI,xJ,xK,xL,xM,xN,xO,xP,xQ,ne_eq,eq_self]
 refine newB_intro fun y hy f5 f6=>?_
 have nxy:(x=y)=False:=f5 x (by rw[hx1];rfl)
 have nyx:(y=x)=False:=f6 x (by rw[hx1];rfl)
 have nzy:(z=y)=False:=f5 z (by rw[hz1];rfl)
 have nyz:(y=z)=False:=f6 z (by rw[hz1];rfl)
 have hS:=hS.new f5 (.cells (cmE (Cm.new sh c B)) 104 (0,0))
 simp only[hx1,hz1,r1,r2,nzx,nxz,nxy,nyx,nzy,nyz,↓DD,UU,↓reduceIte,xA,xB,xC,xD,xE,xF,xG,xH,xI,xJ,xK,xL,xM,xN,xO,xP,xQ,ne_eq,eq_self]
 have e:cmE (Cm.new sh c B)=#[.int .i64 sh.p,.int .i64 sh.c,.int .i64 sh.m,.int .i64 c,.bool B.lg,.int .i64 B.p,.int .i64 B.i,.int .i64 B.k,.int .i64 B.n,.bool false]:=by
  show #[Value.int .i64 sh.p,_,_,_,_,_,_,_,_,Value.bool (!B.fits sh c)] = _
  rw[hdn];rfl
 unfold cmD
 rw[e]at hS ⊢
 exact⟨y,rfl,hS.p1.tail.p1.tail⟩
theorem m_cmstep {sh:Sh} {c:Int} {B:Bk} (hb:B.Fit sh c) (hw:w.of sh) (hL:LogOk a cap w g) (hl:w.st+1≤1000000000) (hS:Sep (cmD k (Cm.new sh c B) :: mB b s a cap w :: wR s w :: g :: l) H) :
  CallP Tryz.prog W 43 #[.pointer (some ⟨k,0,none⟩),.pointer (some ⟨b,0,none⟩)] H fun u H'=>u=.tuple #[] ∧
   ∃ a2 cap2 g2,LogOk a2 cap2 ((Cm.new sh c B).step w).2 g2∧Sep (cmD k ((Cm.new sh c B).step w).1 :: mB b s a2 cap2 ((Cm.new sh c B).step w).2 :: wR s ((Cm.new sh c B).step w).2 :: g2 :: l) H':=by
 refine CallP.of mixed Tryz.func43 tr43 (by show 2≤_;decide) fun W _=>?_
 have hdn:(Cm.new sh c B).dn=false:=by show(!B.fits sh c)=false;rw[Bk.of_fits hb];rfl
 obtain⟨t,ht⟩:∃ t,Cm.new sh c B=t:=⟨_,rfl⟩
 have hts:t.s=sh∧t.c=c∧t.b=B:=by rw[← ht];exact⟨rfl,rfl,rfl⟩
 obtain⟨rfl,rfl,rfl⟩:=hts
 rw[ht]at hdn hS ⊢
 have hm:=hb.m
 have p0:=hb.p0
 have p1:=hb.p1
 have hk:=hS.look
 have r1:=fun o=>rd_of hk o
 have r2:=fun o n=>rdn_of hk o n
 cases e:t.b.lg
 ·have hs:=hb.s e
  have sb:=slots_bd t.b.k
  obtain⟨q0,q1⟩:=slot_in hw hm p0 p1 hs.1 (by omega)
  have es:t.step w=({ t with dn:=true },w.store t.c t.sat (putSl 3 t.b.k)):=by unfold Cm.step;rw[if_neg (by rw[hdn];decide),e];rfl
  rw[es]
  simp only[hk,r1,r2,cmE,hdn,e,↓DD,UU,↓reduceIte,xA,xB,xC,xD,xE,xF,xG,xH,xI,xJ,xK,xL,xM,xN,xO,xP,xQ,ne_eq,eq_self]
  refine draw_intro [(k,cmE t,[])] (by simp only[hk,cmE,e,hdn,↓DD,UU,↓reduceIte,xA,xB,xC,xD,xE,xF,xG,xH,xI,xJ,xK,xL,xM,xN,xO,xP,xQ,ne_eq,eq_self]) ?_
  simp only[hk,r1,r2,cmE,hdn,e,u_slot,u_taken,↓DD,UU,↓reduceIte,xA,xB,xC,xD,xE,xF,xG,xH,xI,xJ,xK,xL,xM,xN,xO,xP,xQ,ne_eq,eq_self]
  refine callT_of (m_store _ _ _ q0 q1 hL hl hS.r3) ?_
  rintro v H' ⟨rfl,a2,cap2,g2,hL2,hS⟩
  have hS:=hS.p3
  have hk:=hS.look
  simp only[hk,cmE,e,hdn,↓DD,UU,↓reduceIte,xA,xB,xC,xD,xE,xF,xG,xH,xI,xJ,xK,xL,xM,xN,xO,xP,xQ,ne_eq,eq_self]
  exact⟨a2,cap2,g2,hL2,by have h5:=hS.set (.cells (cmE { t with dn:=true }) 104 (0,0));unfold cmE at h5;rw[e]at h5;unfold cmD cmE;rw[e];exact h5⟩
 ·have hl':=hb.l e
  obtain⟨q0,q1⟩:=page_in hw hm p0 p1
  have es:t.step w=({ t with dn:=true },w.store t.c t.pat (putPg 3 t.b.n 0)):=by unfold Cm.step;rw[if_neg (by rw[hdn];decide),e];rfl
  rw[es]
  simp only[hk,r1,r2,cmE,hdn,e,↓DD,UU,↓reduceIte,xA,xB,xC,xD,xE,xF,xG,xH,xI,xJ,xK,xL,xM,xN,xO,xP,xQ,ne_eq,eq_self]
  refine draw_intro [(k,cmE t,[])] (by simp only[hk,cmE,e,hdn,↓DD,UU,↓reduceIte,xA,xB,xC,xD,xE,xF,xG,xH,xI,xJ,xK,xL,xM,xN,xO,xP,xQ,ne_eq,eq_self]) ?_
  simp only[hk,r1,r2,cmE,hdn,e,u_page,u_putpg,↓DD,UU,↓reduceIte,xA,xB,xC,xD,xE,xF,xG,xH,xI,xJ,xK,xL,xM,xN,xO,xP,xQ,ne_eq,eq_self]
  refine callT_of (m_store _ _ _ q0 q1 hL hl hS.r3) ?_
  rintro v H' ⟨rfl,a2,cap2,g2,hL2,hS⟩
  have hS:=hS.p3
  have hk:=hS.look
  simp only[hk,cmE,e,hdn,↓DD,UU,↓reduceIte,xA,xB,xC,xD,xE,xF,xG,xH,xI,xJ,xK,xL,xM,xN,xO,xP,xQ,ne_eq,eq_self]
  exact⟨a2,cap2,g2,hL2,by have h5:=hS.set (.cells (cmE { t with dn:=true }) 104 (0,0));unfold cmE at h5;rw[e]at h5;unfold cmD cmE;rw[e];exact h5⟩
end
end Go.Proofs.YtbcdaglbdnkocaaGreat
