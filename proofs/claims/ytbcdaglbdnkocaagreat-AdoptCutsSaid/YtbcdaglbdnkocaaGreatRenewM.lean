/-
 The document's undoer and renewer. Conditions: none.
-/
import Derived.Test.YtbcdaglbdnkocaaGreatCodeX
import Derived.Test.YtbcdaglbdnkocaaGreatTakeM
import Derived.Test.YtbcdaglbdnkocaaGreatGiveA
open Nat renaming reduceAdd→xA,reduceMul→xB,reduceSub→xC,reduceEqDiff→xD,reduceBEq→xE,reduceLeDiff→xF,reduceLT→xG
open Int renaming reduceAdd→xH,reduceMul→xI,reduceSub→xJ,reduceLT→xK,reduceLE→xL,reduceToNat→xM,reduceEq→xN,reduceNe→xO,reduceBEq→xP,reduceBNe→xQ
set_option linter.unusedVariables false
set_option linter.unusedSectionVars false
set_option linter.unusedSimpArgs false
set_option maxRecDepth 8000
namespace Go.Proofs.YtbcdaglbdnkocaaGreat
open Go Go.Ev Go.Pl Go.Ma
theorem rv_shp {v:Rv} {w:Wd} {s:Sh} {c:Int} (h:v.of s c) (hw:w.of s) (hd:v.dn=false):w.of v.shp:=by
 cases v with
 | sk t=>show w.of t.s;rw[h.1];exact hw
 | rn t=>show w.of t.s;rw[h.1];exact hw
 | no=>cases hd
def unE (u:Uo):Array Value:=#[.int .i64 u.s.p,.int .i64 u.s.c,.int .i64 u.s.m,.int .i64 u.c,.int .i64 u.i,.bool u.b.lg,.int .i64 u.b.p,.int .i64 u.b.i,.int .i64 u.b.k,.int .i64 u.b.n,.bool u.dn]
section
variable {W:World} {H:Hp} {k b s:Nat} {w:Wd} {l:List Hp} {a:Option Addr} {cap:Nat} {g:Hp}
theorem m_unnewD {sh:Sh} {c:Int} {B:Bk} (hb:B.Fit sh c) (hz:(B.lg=true→B.i=0∧B.k=0)∧(B.lg=false→B.n=0)) (hS:Sep l H) :
  CallP Tryz.prog W 92 #[.agg #[.int .i64 sh.p,.int .i64 sh.c,.int .i64 sh.m],.int .i64 c,bkD B] H fun v H'=>∃ k,v=.pointer (some ⟨k,0,none⟩)∧Sep (unB k (unE (Uo.new sh c B)) :: l) H':=by
 have hdn:(Uo.new sh c B).dn=false:=by show(!B.fits sh c)=false;rw[Bk.of_fits hb];rfl
 have p0:=hb.p0
 have p1:=hb.p1
 have c0:=hb.c0
 have c1:=hb.c1
 obtain⟨lg,p,i,kk,n⟩:=B
 cases lg
 ·have z:=hz.2 rfl
  dsimp only at z
  subst z
  have e:unE (Uo.new sh c ⟨false,p,i,kk,0⟩)=unS sh c p i kk false:=by unfold unE;rw[hdn];rfl
  rw[e]
  exact m_unnewS hb.m ⟨c0,c1⟩ ⟨p0,p1⟩ (hb.s rfl) hS
 ·obtain⟨z1,z2⟩:=hz.1 rfl
  dsimp only at z1 z2
  subst z1 z2
  obtain⟨l1,l2,l3⟩:=hb.l rfl
  have e:unE (Uo.new sh c ⟨true,p,0,0,n⟩)=unL sh c 0 p n false:=by unfold unE;rw[hdn];rfl
  rw[e]
  exact m_unnewL hb.m ⟨c0,c1⟩ ⟨p0,p1⟩ ⟨l1,l2⟩ l3 hS
theorem m_unstepD {u:Uo} (hd:u.dn=false) (hb:u.b.Fit u.s u.c) (hz:(u.b.lg=true→u.b.i=0∧u.b.k=0)∧(u.b.lg=false→u.b.n=0)) (hi:u.b.lg=true→0≤u.i∧u.i<u.b.n) (hi0:u.b.lg=false→u.i=0) (hw:w.of u.s) (hL:LogOk a cap w g) (hl:w.st+1≤1000000000)
  (hS:Sep (unB k (unE u) :: mB b s a cap w :: wR s w :: g :: l) H) :
  CallP Tryz.prog W 91 #[.pointer (some ⟨k,0,none⟩),.pointer (some ⟨b,0,none⟩)] H fun v H'=>v=.tuple #[] ∧
   ∃ C a2 cap2 g2,C[10]? = some (.bool (u.step w).1.dn)∧((u.step w).1.dn=false→C=unE (u.step w).1)∧LogOk a2 cap2 (u.step w).2 g2∧Sep (unB k C :: mB b s a2 cap2 (u.step w).2 :: wR s (u.step w).2 :: g2 :: l) H':=by
 have p0:=hb.p0
 have p1:=hb.p1
 obtain⟨sh,c,⟨lg,p,i,kk,n⟩,j,dn⟩:=u
 dsimp only at hd hb hz hi hi0 hw p0 p1
 subst hd
 cases lg
 ·have z:=hz.2 rfl
  subst z
  have j0:=hi0 rfl
  subst j0
  have sb:=slots_bd kk
  have hs:=hb.s rfl
  dsimp only at hs
  refine(m_unstepS (c:=c) (kk:=kk) hb.m ⟨p0,p1⟩ ⟨hs.1,by omega⟩ hw hL hl hS).mono ?_
  rintro v H' ⟨rfl,a2,cap2,g2,hL2,hS⟩
  exact⟨rfl,_,a2,cap2,g2,rfl,fun h=>(by cases h),hL2,hS⟩
 ·obtain⟨z1,z2⟩:=hz.1 rfl
  subst z1 z2
  obtain⟨l1,l2,l3⟩:=hb.l rfl
  dsimp only at l1 l2 l3
  have hj:=hi rfl
  by_cases e:j=n - 1
  ·refine(m_unstepL (c:=c) (n:=n) hb.m ⟨p0,p1⟩ ⟨hj.1,e⟩ l2 hw hL hl hS).mono ?_
   rintro v H' ⟨rfl,a2,cap2,g2,hL2,hS⟩
   have es:Uo.step ⟨sh,c,⟨true,p,0,0,n⟩,j,false⟩ w=(⟨sh,c,⟨true,p,0,0,n⟩,j,true⟩,w.store c (page sh.p sh.c sh.m p) 0):=by unfold Uo.step;simp only[Bool.false_eq_true,if_false,if_true,if_pos e];rfl
   rw[es]
   exact⟨rfl,_,a2,cap2,g2,rfl,fun h=>(by cases h),hL2,hS⟩
  ·refine(m_unstepM (c:=c) (n:=n) hb.m p0 l3 ⟨hj.1,by omega⟩ l2 hw hL hl hS).mono ?_
   rintro v H' ⟨rfl,a2,cap2,g2,hL2,hS⟩
   have es:Uo.step ⟨sh,c,⟨true,p,0,0,n⟩,j,false⟩ w=(⟨sh,c,⟨true,p,0,0,n⟩,j+1,false⟩,w.store c (page sh.p sh.c sh.m (p+j+1)) 0):=by unfold Uo.step;simp only[Bool.false_eq_true,if_false,if_true,if_neg e];rfl
   rw[es]
   exact⟨rfl,_,a2,cap2,g2,rfl,fun _=>rfl,hL2,hS⟩
theorem RD.rd {v:Rv} {C:Array Value} {Y X1 X2 X3 X4 X5:Hp} (h:RD v C Y X1 X2 X3 X4 X5):∃ p q,C=rsC v.bk v.fd v.dn p q:=by
 cases h with
 | sk h=>exact⟨_,_,rfl⟩
 | rn=>exact⟨_,_,rfl⟩
def rnwC (s:Sh) (c:Int) (b:Bk) (gb fb ov:Bool) (er:Int) (v1 v2 v3 v4:Value):Array Value:=
 #[.int .i64 s.p,.int .i64 s.c,.int .i64 s.m,.int .i64 c,.bool b.lg,.int .i64 b.p,.int .i64 b.i,.int .i64 b.k,.int .i64 b.n,.bool gb,.bool fb,.bool ov,.int .i64 er,v1,v2,v3,v4]
def rnwD (k:Nat) (c:Array Value):Hp:=sg k (.cells c 116 (0,0))
inductive RE (t:Re):Array Value→List Hp→Prop
 | dn (hd:t.dn=true) {b:Bk} {gb fb:Bool} {er:Int} {v1 v2 v3 v4:Value}:RE t (rnwC t.s t.c b gb fb true er v1 v2 v3 v4) []
 | rv (hd:t.dn=false) (hm:t.md=.no) (rd:t.rv.dn=false) {k1 k2:Nat} {Ct Cg:Array Value} {Y X1 X2 X3 X4 X5 FX FY:Hp} (h:RD t.rv Ct Y X1 X2 X3 X4 X5) (hg:FR t.gv Cg FX FY) (h6:Cg[6]? = some (.bool t.gv.dn)) :
   RE t (rnwC t.s t.c Bk.zero false false false 0 (.pointer (some ⟨k1,0,none⟩)) (.pointer (some ⟨k2,0,none⟩)) (.pointer none) (.pointer none)) [rsD k1 Ct,Y,X1,X2,X3,X4,X5,frB k2 Cg,FX,FY]
 | gv (hd:t.dn=false) (hm:t.md=.no) (rd:t.rv.dn=true) (rf:t.rv.fd=true) (gd:t.gv.dn=false) {k1 k2:Nat} {v v':Value} {Cg:Array Value} {gb:Bool} {FX FY:Hp} (hg:FR t.gv Cg FX FY) (h6:Cg[6]? = some (.bool t.gv.dn)) :
   RE t (rnwC t.s t.c Bk.zero gb false false 0 (.pointer (some ⟨k1,0,none⟩)) (.pointer (some ⟨k2,0,none⟩)) (.pointer none) (.pointer none)) [rsD k1 (rsC t.rv.bk true true v v'),frB k2 Cg,FX,FY]
 | uo (hd:t.dn=false) {u:Uo} (hm:t.md=.uo u) (ud:u.dn=false) (hi0:u.b.lg=false→u.i=0) {k1 k2 k3:Nat} {v v':Value} {Cg:Array Value} {gb:Bool} (h6:Cg[6]? = some (.bool true)) :
   RE t (rnwC t.s t.c Bk.zero gb false false 0 (.pointer (some ⟨k1,0,none⟩)) (.pointer (some ⟨k2,0,none⟩)) (.pointer (some ⟨k3,0,none⟩)) (.pointer none)) [rsD k1 (rsC t.rv.bk true true v v'),frB k2 Cg,unB k3 (unE u)]
 | cm (hd:t.dn=false) (hm:t.md=.cm (Cm.new t.s t.c t.rv.bk)) {k1 k2 k3:Nat} {v v':Value} {Cg:Array Value} {gb:Bool} (h6:Cg[6]? = some (.bool true)) :
   RE t (rnwC t.s t.c Bk.zero gb false false 0 (.pointer (some ⟨k1,0,none⟩)) (.pointer (some ⟨k2,0,none⟩)) (.pointer none) (.pointer (some ⟨k3,0,none⟩))) [rsD k1 (rsC t.rv.bk true true v v'),frB k2 Cg,cmD k3 (Cm.new t.s t.c t.rv.bk)]
theorem RE.rd {t:Re} {C:Array Value} {P:List Hp} (h:RE t C P):∃ b gb fb er v1 v2 v3 v4,C=rnwC t.s t.c b gb fb t.dn er v1 v2 v3 v4∧(fb=true→t.dn=true):=by
 cases h with
 | dn hd=>exact⟨_,_,_,_,_,_,_,_,by rw[hd],fun _=>hd⟩
 | rv hd=>exact⟨_,_,_,_,_,_,_,_,by rw[hd],fun g=>(by cases g)⟩
 | gv hd=>exact⟨_,_,_,_,_,_,_,_,by rw[hd],fun g=>(by cases g)⟩
 | uo hd=>exact⟨_,_,_,_,_,_,_,_,by rw[hd],fun g=>(by cases g)⟩
 | cm hd=>exact⟨_,_,_,_,_,_,_,_,by rw[hd],fun g=>(by cases g)⟩
theorem m_rdend {sh:Sh} {c:Int} {B:Bk} {gb fb ov:Bool} {er e:Int} {v1 v2 v3 v4:Value} (hS:Sep (rnwD k (rnwC sh c B gb fb ov er v1 v2 v3 v4) :: l) H) :
  CallP Tryz.prog W 78 #[.pointer (some ⟨k,0,none⟩),.int .i64 e] H fun v H'=>v=.tuple #[]∧Sep (rnwD k (rnwC sh c B gb fb true e v1 v2 v3 v4) :: l) H':=by
 refine CallP.of mixed Tryz.func78 tr78 (by show 2≤_;decide) fun W _=>?_
 have hk:=hS.look
 have r1:=fun o=>rd_of hk o
 simp only[hk,r1,rnwC,Ev.upd_upd,↓DD,UU,↓reduceIte,xA,xB,xC,xD,xE,xF,xG,xH,xI,xJ,xK,xL,xM,xN,xO,xP,xQ,ne_eq,eq_self]
 exact hS.set (.cells (rnwC sh c B gb fb true e v1 v2 v3 v4) 116 (0,0))
theorem m_rdnew {sh:Sh} {c a n f:Int} (hm:may sh.p sh.c sh.m=true) (hc:0≤c∧c<sh.c) (hk:Re.ok sh c a n=true) (hS:Sep l H) :
  CallP Tryz.prog W 41 #[.agg #[.int .i64 sh.p,.int .i64 sh.c,.int .i64 sh.m],.int .i64 c,.int .i64 a,.int .i64 n,.int .i64 f] H fun v H'=>∃ k C P,v=.pointer (some ⟨k,0,none⟩)∧RE (Re.new sh c a n f) C P∧Sep (rnwD k C :: (P ++ l)) H':=by
 refine CallP.of mixed Tryz.func41 tr41 (by show 5≤_;decide) fun W _=>?_
 have hk':=hk
 unfold Re.ok at hk'
 simp only[Bool.and_eq_true,decide_eq_true_eq]at hk'
 obtain⟨⟨hth,hfine⟩,hst⟩:=hk'
 have gn:(Gv.new sh c a).dn=false:=by
  show(!there sh.p sh.c sh.m a || decide (status sh.p sh.c sh.m c<0))=false
  rw[hth,decide_eq_false (by omega)];rfl
 have g1:decide (0≤status sh.p sh.c sh.m c)=true:=decide_eq_true hst
 simp only[↓DD,UU,↓reduceIte,xA,xB,xC,xD,xE,xF,xG,xH,xI,xJ,xK,xL,xM,xN,xO,xP,xQ,ne_eq,eq_self]
 refine newB_intro fun x hx f1 f2=>?_
 have hS:=hS.new f1 (.cells #[.int .i64 sh.p,.int .i64 sh.c,.int .i64 sh.m] 23 (0,0))
 have hx1:=hS.look
 have r1:=fun o n=>rdn_of hx1 o n
 simp only[hx1,r1,u_split,u_length,hth,hfine,↓DD,UU,↓reduceIte,xA,xB,xC,xD,xE,xF,xG,xH,xI,xJ,xK,xL,xM,xN,xO,xP,xQ,ne_eq,eq_self]
 refine draw_intro [(x,#[.int .i64 sh.p,.int .i64 sh.c,.int .i64 sh.m],[])] (by simp only[hx1,↓DD,UU,↓reduceIte,xA,xB,xC,xD,xE,xF,xG,xH,xI,xJ,xK,xL,xM,xN,xO,xP,xQ,ne_eq,eq_self]) ?_
 simp only[hx1,r1,↓DD,UU,↓reduceIte,xA,xB,xC,xD,xE,xF,xG,xH,xI,xJ,xK,xL,xM,xN,xO,xP,xQ,ne_eq,eq_self]
 refine callT_of (m_rsnew (sh:=sh) (c:=c) (n:=n) (f:=f) hfine hS) ?_
 rintro v H' ⟨k1,Ct,Y,X1,X2,X3,X4,X5,rfl,hD,hS⟩
 have hx1:=hS.lk 7 rfl
 have r1:=fun o n=>rdn_of hx1 o n
 simp only[hx1,r1,↓DD,UU,↓reduceIte,xA,xB,xC,xD,xE,xF,xG,xH,xI,xJ,xK,xL,xM,xN,xO,xP,xQ,ne_eq,eq_self]
 refine callT_of (m_frnew (sh:=sh) (c:=c) (a:=a) hS) ?_
 rintro v H' ⟨k2,rfl,hS⟩
 have hx1:=hS.lk 8 rfl
 have r1:=fun o n=>rdn_of hx1 o n
 simp only[hx1,r1,↓DD,UU,↓reduceIte,xA,xB,xC,xD,xE,xF,xG,xH,xI,xJ,xK,xL,xM,xN,xO,xP,xQ,ne_eq,eq_self]
 have hkq:H' k1=some (Obj.cells Ct 108 (0,0)):=hS.lk 1 rfl
 obtain⟨vp,vq,hCt⟩:=hD.rd
 have r6:Ev.rd H' k1 6=some (.bool (Rv.new sh c n f).dn):=by rw[rd_of hkq,hCt];rfl
 refine newB_intro fun y hy f3 f4=>?_
 have nxy:(x=y)=False:=f3 x (by rw[hx1];rfl)
 have nyx:(y=x)=False:=f4 x (by rw[hx1];rfl)
 have hS:=hS.new f3 (.cells (rnwC sh c Bk.zero false false false 0 (.pointer (some ⟨k1,0,none⟩)) (.pointer (some ⟨k2,0,none⟩)) (.pointer none) (.pointer none)) 116 (0,0))
 have hy1:=hS.look
 have r2:=fun o=>rd_of hy1 o
 have nky:=hS.neq 0 2 (by decide) rfl rfl
 have nyk:=hS.qen 0 2 (by decide) rfl rfl
 obtain⟨t,ht⟩:∃ t,Re.raw sh c a n f=t:=⟨_,rfl⟩
 have hnew:Re.new sh c a n f=t.go:=by rw[← ht];exact if_pos hk
 cases hrd:(Rv.new sh c n f).dn
 ·have e:t.go=t:=by rw[← ht];unfold Re.go Re.raw;simp only[hrd,Bool.false_eq_true,if_false]
  rw[hrd]at r6
  simp only[hx1,r1,hy1,r2,nxy,nyx,nky,nyk,r6,u_good,g1,↓DD,UU,↓reduceIte,xA,xB,xC,xD,xE,xF,xG,xH,xI,xJ,xK,xL,xM,xN,xO,xP,xQ,ne_eq,eq_self]
  have hS:=Sep.over (X:=[_,_]) (L:=[_,_,_,_,_,_,_,_,_]) (Sep.over (X:=[_]) (L:=[_,_,_,_,_,_,_,_]) hS.p1).p9.tail.nothing.nothing
  rw[hnew,e]
  have hR:RE t (rnwC t.s t.c Bk.zero false false false 0 (.pointer (some ⟨k1,0,none⟩)) (.pointer (some ⟨k2,0,none⟩)) (.pointer none) (.pointer none)) [rsD k1 Ct,Y,X1,X2,X3,X4,X5,frB k2 (frC (Gv.new sh c a) false (Gv.new sh c a).dn 0 false 0 0 0 0 false 0 pno pno),emp,emp]:=by
   subst ht
   exact RE.rv rfl rfl hrd hD (.inr (.inl ⟨rfl,by rw[gn];rfl,rfl,rfl⟩)) rfl
  refine⟨y,_,_,rfl,hR,?_⟩
  subst ht
  exact hS
 ·rw[hrd]at r6
  simp only[hx1,r1,hy1,r2,nxy,nyx,nky,nyk,r6,u_good,g1,↓DD,UU,↓reduceIte,xA,xB,xC,xD,xE,xF,xG,xH,xI,xJ,xK,xL,xM,xN,xO,xP,xQ,ne_eq,eq_self]
  refine callT_of (m_rdend (e:=3) hS) ?_
  rintro v H' ⟨rfl,hS⟩
  have hrf:(Rv.new sh c n f).fd=false:=by
   unfold Rv.new
   split
   ·exact sk_newfd sh c (cls n) f
   ·split<;>rfl
  have e:t.go=t.fin 3:=by rw[← ht];unfold Re.go Re.raw;simp only[hrd,hrf,Bool.false_eq_true,if_false,if_true]
  simp only[↓DD,UU,↓reduceIte,xA,xB,xC,xD,xE,xF,xG,xH,xI,xJ,xK,xL,xM,xN,xO,xP,xQ,ne_eq,eq_self]
  rw[hnew,e]
  refine⟨y,rnwC sh c Bk.zero false false true 3 (.pointer (some ⟨k1,0,none⟩)) (.pointer (some ⟨k2,0,none⟩)) (.pointer none) (.pointer none),[],rfl,?_,(Sep.over (X:=[_]) (L:=[_,_,_,_,_,_,_,_,_]) hS).tail.tail.tail.tail.tail.tail.tail.tail.tail⟩
  subst ht
  exact RE.dn (t:=(Re.raw sh c a n f).fin 3) rfl
set_option maxHeartbeats 2000000 in
theorem m_rdstep {t:Re} {ws0:Nat→Int} {n1 n f:Int} {C:Array Value} {P:List Hp} (hI:t.Al t.s ws0 t.c n1 n f w) (hd:t.dn=false) (hE:RE t C P) (hL:LogOk a cap w g) (hl:w.st+1≤1000000000) (hS:Sep (rnwD k C :: (P ++ mB b s a cap w :: wR s w :: g :: l)) H) :
  CallP Tryz.prog W 49 #[.pointer (some ⟨k,0,none⟩),.pointer (some ⟨b,0,none⟩)] H fun u H'=>u=.tuple #[] ∧
   ∃ C2 P2 a2 cap2 g2,RE (t.step w).1 C2 P2∧LogOk a2 cap2 (t.step w).2 g2∧Sep (rnwD k C2 :: (P2 ++ mB b s a2 cap2 (t.step w).2 :: wR s (t.step w).2 :: g2 :: l)) H':=by
 refine CallP.of mixed Tryz.func49 tr49 (by show 2≤_;decide) fun W _=>?_
 have hk:=hS.look
 have r1:=fun o=>rd_of hk o
 have hof:=hI.of
 cases hE with
 | dn hd'=>rw[hd]at hd';cases hd'
 | @rv _ hm hrd k1 k2 Ct Cg Y X1 X2 X3 X4 X5 FX FY h hg h6=>
  obtain⟨vp,vq,hCt⟩:=h.rd
  have hS:Sep (rnwD k _ :: rsD k1 Ct :: Y :: X1 :: X2 :: X3 :: X4 :: X5 :: frB k2 Cg :: FX :: FY :: mB b s a cap w :: wR s w :: g :: l) H:=hS
  have hk1:H k1=some (Obj.cells Ct 108 (0,0)):=hS.lk 1 rfl
  have r6:Ev.rd H k1 6=some (.bool false):=by rw[rd_of hk1,hCt,hrd];rfl
  have hS:=Sep.over (X:=[_,_,_]) (L:=[_,_,_,_,_,_,_]) (Sep.over (X:=[_,_,_,_,_,_,_,_,_,_,_]) (L:=[_,_,_]) (Sep.over (X:=[_]) (L:=[_,_,_,_,_,_,_]) hS))
  simp only[hk,r1,r6,rnwC,↓DD,UU,↓reduceIte,xA,xB,xC,xD,xE,xF,xG,xH,xI,xJ,xK,xL,xM,xN,xO,xP,xQ,ne_eq,eq_self]
  refine callT_of (m_rsstep hI.wf.rw hrd (rv_shp hI.wf.ro hof hrd) h hL hl hS) ?_
  rintro u H' ⟨rfl,C2,Z,Y1,Y2,Y3,Y4,Y5,a2,cap2,g2,h2,hL2,hS⟩
  have hS:=Sep.over (X:=[_,_,_,_,_,_,_]) (L:=[_]) (Sep.over (X:=[_,_,_,_]) (L:=[_,_,_,_,_,_,_]) (Sep.over (X:=[_,_,_,_,_,_,_,_,_,_]) (L:=[_,_,_,_]) hS))
  obtain⟨v',hv'⟩:∃ v',(t.rv.step w).1=v':=⟨_,rfl⟩
  have es:t.step w=(({ t with rv:=v' }:Re).go,(t.rv.step w).2):=by
   rw[← hv'];unfold Re.step Re.acc;rw[if_neg (by rw[hd];decide),if_neg (by rw[hrd];decide)]
  rw[es]
  rw[hv']at h2
  obtain⟨wp,wq,hC2⟩:=h2.rd
  have hk:=hS.look
  have r1:=fun o=>rd_of hk o
  have hk1:=hS.lk 1 rfl
  have q6:C2[6]? = some (.bool v'.dn):=by rw[hC2];rfl
  have q5:C2[5]? = some (.bool v'.fd):=by rw[hC2];rfl
  have r2:=fun o=>rd_of hk1 o
  cases hvd:v'.dn
  ·rw[hvd]at q6
   simp only[hk,r1,hk1,r2,q6,rnwC,↓DD,UU,↓reduceIte,xA,xB,xC,xD,xE,xF,xG,xH,xI,xJ,xK,xL,xM,xN,xO,xP,xQ,ne_eq,eq_self]
   have e:({ t with rv:=v' }:Re).go = { t with rv:=v' }:=by unfold Re.go;rw[hm];simp only[hvd,Bool.false_eq_true,if_false]
   rw[e]
   exact⟨_,_,a2,cap2,g2,RE.rv (t:={ t with rv:=v' }) hd hm hvd h2 hg h6,hL2,hS⟩
  rw[hvd]at q6
  cases hvf:v'.fd
  ·rw[hvf]at q5
   simp only[hk,r1,hk1,r2,q6,q5,rnwC,↓DD,UU,↓reduceIte,xA,xB,xC,xD,xE,xF,xG,xH,xI,xJ,xK,xL,xM,xN,xO,xP,xQ,ne_eq,eq_self]
   refine callT_of (m_rdend (e:=3) hS) ?_
   rintro u H' ⟨rfl,hS⟩
   have e:({ t with rv:=v' }:Re).go=({ t with rv:=v' }:Re).fin 3:=by unfold Re.go;rw[hm];simp only[hvd,hvf,Bool.false_eq_true,if_false,if_true]
   simp only[↓DD,UU,↓reduceIte,xA,xB,xC,xD,xE,xF,xG,xH,xI,xJ,xK,xL,xM,xN,xO,xP,xQ,ne_eq,eq_self]
   rw[e]
   exact⟨_,[],a2,cap2,g2,RE.dn (t:=({ t with rv:=v' }:Re).fin 3) rfl,hL2,Sep.dropF (m:=[_,_,_,_,_,_,_,_,_,_]) (Sep.over (X:=[_]) (L:=[_,_,_,_,_,_,_,_,_,_]) hS)⟩
  rw[hvf]at q5
  simp only[hk,r1,hk1,r2,q6,q5,rnwC,↓DD,UU,↓reduceIte,xA,xB,xC,xD,xE,xF,xG,xH,xI,xJ,xK,xL,xM,xN,xO,xP,xQ,ne_eq,eq_self]
  have hgd:t.gv.dn=false:=by
   cases hI.ph with
   | rv _ _ _ _ gg=>rw[gg];exact hI.gn
   | gv _ _ rd=>rw[hrd]at rd;cases rd
   | cm _ _ rd=>rw[hrd]at rd;cases rd
   | uo _ _ _ _ rd=>rw[hrd]at rd;cases rd
   | won d=>rw[hd]at d;cases d
   | lost d=>rw[hd]at d;cases d
   | none d=>rw[hd]at d;cases d
  have e:({ t with rv:=v' }:Re).go = { t with rv:=v' }:=by unfold Re.go;rw[hm];simp only[hvd,hvf,hgd,Bool.false_eq_true,if_false,if_true]
  rw[e]
  rw[hC2,hvd,hvf]at hS
  have hR:RE { t with rv:=v' } (rnwC t.s t.c Bk.zero false false false 0 (.pointer (some ⟨k1,0,none⟩)) (.pointer (some ⟨k2,0,none⟩)) (.pointer none) (.pointer none)) [rsD k1 (rsC v'.bk true true wp wq),frB k2 Cg,FX,FY]:=RE.gv (t:={ t with rv:=v' }) hd hm hvd hvf hgd hg h6
  exact⟨_,_,a2,cap2,g2,hR,hL2,Sep.dropF (m:=[_,_,_,_,_,_]) (Sep.over (X:=[_,_]) (L:=[_,_,_,_,_,_]) hS)⟩
 | @gv _ hm hrd hrf hgd k1 k2 v v' Cg gb FX FY hg h6=>
  have hS:Sep (rnwD k _ :: rsD k1 _ :: frB k2 Cg :: FX :: FY :: mB b s a cap w :: wR s w :: g :: l) H:=hS
  have hk1:=hS.lk 1 rfl
  have r2:=fun o=>rd_of hk1 o
  have hk2:H k2=some (Obj.cells Cg 113 (0,0)):=hS.lk 2 rfl
  have r6:Ev.rd H k2 6=some (.bool false):=by rw[rd_of hk2,h6,hgd]
  have hfr:t.rv.bk.Fit t.s t.c:=by
   cases hI.ph with
   | rv _ _ rd=>rw[hrd]at rd;cases rd
   | gv _ _ _ _ _ ws1 h=>exact h.res.f
   | cm _ _ _ _ gd=>rw[hgd]at gd;cases gd
   | uo _ _ _ _ _ _ gd=>rw[hgd]at gd;cases gd
   | won d=>rw[hd]at d;cases d
   | lost d=>rw[hd]at d;cases d
   | none d=>rw[hd]at d;cases d
  have hS:=Sep.over (X:=[_,_]) (L:=[_,_,_,_,_,_]) hS
  simp only[hk,r1,hk1,r2,r6,rsC,rnwC,↓DD,UU,↓reduceIte,xA,xB,xC,xD,xE,xF,xG,xH,xI,xJ,xK,xL,xM,xN,xO,xP,xQ,ne_eq,eq_self]
  refine callT_of (m_frstep hI.wf.gw hgd hg (by rw[hI.wf.gs.1];exact hof) hL hl hS) ?_
  rintro u H' ⟨rfl,c2,X2,Y2,a2,cap2,g2,hF2,i5,i6,hL2,hS⟩
  have hS:=Sep.over (X:=[_,_,_,_,_,_]) (L:=[_,_]) hS
  obtain⟨v2,hv2⟩:∃ v2,(t.gv.step w).1=v2:=⟨_,rfl⟩
  have es:t.step w=(({ t with gv:=v2 }:Re).go,(t.gv.step w).2):=by
   rw[← hv2];unfold Re.step Re.acc;rw[if_neg (by rw[hd];decide),if_pos hrd,if_neg (by rw[hgd];decide)]
  rw[es]
  rw[hv2]at hF2 i5 i6
  have hk:=hS.look
  have r1:=fun o=>rd_of hk o
  have rn:=fun o n=>rdn_of hk o n
  have hk1:=hS.lk 1 rfl
  have r2:=fun o=>rd_of hk1 o
  have r2n:=fun o n=>rdn_of hk1 o n
  have hk2:=hS.lk 2 rfl
  have r3:=fun o=>rd_of hk2 o
  have n1:=hS.neq 0 1 (by decide) rfl rfl
  have n1':=hS.qen 0 1 (by decide) rfl rfl
  have n2:=hS.neq 0 2 (by decide) rfl rfl
  have n2':=hS.qen 0 2 (by decide) rfl rfl
  have n3:=hS.neq 1 2 (by decide) rfl rfl
  have n3':=hS.qen 1 2 (by decide) rfl rfl
  cases hvd:v2.dn
  ·rw[hvd]at i6
   simp only[hk,r1,hk1,r2,hk2,r3,n1,n1',n2,n2',n3,n3',i5,i6,rsC,rnwC,↓DD,UU,↓reduceIte,xA,xB,xC,xD,xE,xF,xG,xH,xI,xJ,xK,xL,xM,xN,xO,xP,xQ,ne_eq,eq_self]
   have e:({ t with gv:=v2 }:Re).go = { t with gv:=v2 }:=by unfold Re.go;rw[hm];simp only[hrd,hrf,hvd,Bool.false_eq_true,if_false,if_true]
   rw[e]
   have hR:RE { t with gv:=v2 } (rnwC t.s t.c Bk.zero v2.gv false false 0 (.pointer (some ⟨k1,0,none⟩)) (.pointer (some ⟨k2,0,none⟩)) (.pointer none) (.pointer none)) [rsD k1 (rsC t.rv.bk true true v v'),frB k2 c2,X2,Y2]:=RE.gv (t:={ t with gv:=v2 }) hd hm hrd hrf hvd hF2 (by rw[i6];exact congrArg (fun x=>some (Value.bool x)) hvd.symm)
   exact⟨_,_,a2,cap2,g2,hR,hL2,hS.set (.cells (rnwC t.s t.c Bk.zero v2.gv false false 0 (.pointer (some ⟨k1,0,none⟩)) (.pointer (some ⟨k2,0,none⟩)) (.pointer none) (.pointer none)) 116 (0,0))⟩
  rw[hvd]at i6
  cases hvf:v2.gv
  ·rw[hvf]at i5
   simp only[hk,r1,hk1,r2,hk2,r3,n1,n1',n2,n2',n3,n3',i5,i6,rsC,rnwC,Ev.upd_upd,↓DD,UU,↓reduceIte,xA,xB,xC,xD,xE,xF,xG,xH,xI,xJ,xK,xL,xM,xN,xO,xP,xQ,ne_eq,eq_self]
   have hS:=hS.set (.cells (rnwC t.s t.c Bk.zero false false false 0 (.pointer (some ⟨k1,0,none⟩)) (.pointer (some ⟨k2,0,none⟩)) (.pointer none) (.pointer none)) 116 (0,0))
   unfold rnwC at hS
   refine draw_intro [(k,rnwC t.s t.c Bk.zero false false false 0 (.pointer (some ⟨k1,0,none⟩)) (.pointer (some ⟨k2,0,none⟩)) (.pointer none) (.pointer none),[]),(k1,rsC t.rv.bk true true v v',[])] (by simp only[hk1,n1,n1',rsC,rnwC,↓DD,UU,↓reduceIte,xA,xB,xC,xD,xE,xF,xG,xH,xI,xJ,xK,xL,xM,xN,xO,xP,xQ,ne_eq,eq_self]) ?_
   simp only[hk1,r2n,n1,n1',rsC,rnwC,↓DD,UU,↓reduceIte,xA,xB,xC,xD,xE,xF,xG,xH,xI,xJ,xK,xL,xM,xN,xO,xP,xQ,ne_eq,eq_self]
   refine callT_of (m_unnewD (sh:=t.s) (c:=t.c) hfr (Rv.bk00 _) hS) ?_
   rintro u H' ⟨k3,rfl,hS⟩
   have hk:=hS.lk 1 rfl
   have hk1:=hS.lk 2 rfl
   simp only[hk,hk1,n1,n1',rsC,rnwC,Ev.upd_upd,↓DD,UU,↓reduceIte,xA,xB,xC,xD,xE,xF,xG,xH,xI,xJ,xK,xL,xM,xN,xO,xP,xQ,ne_eq,eq_self]
   have e:({ t with gv:=v2 }:Re).go = { t with gv:=v2,md:=.uo (Uo.new t.s t.c t.rv.bk) }:=by unfold Re.go;rw[hm];simp only[hrd,hrf,hvd,hvf,Bool.false_eq_true,if_false,if_true]
   have hud:(Uo.new t.s t.c t.rv.bk).dn=false:=by show(!t.rv.bk.fits t.s t.c)=false;rw[Bk.of_fits hfr];rfl
   have hR:RE { t with gv:=v2,md:=.uo (Uo.new t.s t.c t.rv.bk) } (rnwC t.s t.c Bk.zero false false false 0 (.pointer (some ⟨k1,0,none⟩)) (.pointer (some ⟨k2,0,none⟩)) (.pointer (some ⟨k3,0,none⟩)) (.pointer none)) [rsD k1 (rsC t.rv.bk true true v v'),frB k2 c2,unB k3 (unE (Uo.new t.s t.c t.rv.bk))]:=RE.uo (t:={ t with gv:=v2,md:=.uo (Uo.new t.s t.c t.rv.bk) }) hd rfl hud (fun _=>rfl) i6
   rw[e]
   exact⟨_,_,a2,cap2,g2,hR,hL2,(hS.p1.set (.cells (rnwC t.s t.c Bk.zero false false false 0 (.pointer (some ⟨k1,0,none⟩)) (.pointer (some ⟨k2,0,none⟩)) (.pointer (some ⟨k3,0,none⟩)) (.pointer none)) 116 (0,0))).p5.tail.p4.tail.p1.r3⟩
  rw[hvf]at i5
  simp only[hk,r1,hk1,r2,hk2,r3,n1,n1',n2,n2',n3,n3',i5,i6,rsC,rnwC,Ev.upd_upd,↓DD,UU,↓reduceIte,xA,xB,xC,xD,xE,xF,xG,xH,xI,xJ,xK,xL,xM,xN,xO,xP,xQ,ne_eq,eq_self]
  have hS:=hS.set (.cells (rnwC t.s t.c Bk.zero true false false 0 (.pointer (some ⟨k1,0,none⟩)) (.pointer (some ⟨k2,0,none⟩)) (.pointer none) (.pointer none)) 116 (0,0))
  unfold rnwC at hS
  refine draw_intro [(k,rnwC t.s t.c Bk.zero true false false 0 (.pointer (some ⟨k1,0,none⟩)) (.pointer (some ⟨k2,0,none⟩)) (.pointer none) (.pointer none),[]),(k1,rsC t.rv.bk true true v v',[])] (by simp only[hk1,n1,n1',rsC,rnwC,↓DD,UU,↓reduceIte,xA,xB,xC,xD,xE,xF,xG,xH,xI,xJ,xK,xL,xM,xN,xO,xP,xQ,ne_eq,eq_self]) ?_
  simp only[hk1,r2n,n1,n1',rsC,rnwC,↓DD,UU,↓reduceIte,xA,xB,xC,xD,xE,xF,xG,xH,xI,xJ,xK,xL,xM,xN,xO,xP,xQ,ne_eq,eq_self]
  refine callT_of (m_cmnew (sh:=t.s) (c:=t.c) hfr (Rv.bk00 _) hS) ?_
  rintro u H' ⟨k3,rfl,hS⟩
  have hk:=hS.lk 1 rfl
  have hk1:=hS.lk 2 rfl
  simp only[hk,hk1,n1,n1',rsC,rnwC,Ev.upd_upd,↓DD,UU,↓reduceIte,xA,xB,xC,xD,xE,xF,xG,xH,xI,xJ,xK,xL,xM,xN,xO,xP,xQ,ne_eq,eq_self]
  have e:({ t with gv:=v2 }:Re).go = { t with gv:=v2,md:=.cm (Cm.new t.s t.c t.rv.bk) }:=by unfold Re.go;rw[hm];simp only[hrd,hrf,hvd,hvf,if_true]
  have hR:RE { t with gv:=v2,md:=.cm (Cm.new t.s t.c t.rv.bk) } (rnwC t.s t.c Bk.zero true false false 0 (.pointer (some ⟨k1,0,none⟩)) (.pointer (some ⟨k2,0,none⟩)) (.pointer none) (.pointer (some ⟨k3,0,none⟩))) [rsD k1 (rsC t.rv.bk true true v v'),frB k2 c2,cmD k3 (Cm.new t.s t.c t.rv.bk)]:=RE.cm (t:={ t with gv:=v2,md:=.cm (Cm.new t.s t.c t.rv.bk) }) hd rfl i6
  rw[e]
  exact⟨_,_,a2,cap2,g2,hR,hL2,(hS.p1.set (.cells (rnwC t.s t.c Bk.zero true false false 0 (.pointer (some ⟨k1,0,none⟩)) (.pointer (some ⟨k2,0,none⟩)) (.pointer none) (.pointer (some ⟨k3,0,none⟩))) 116 (0,0))).p5.tail.p4.tail.p1.r3⟩
 | @uo _ u hm hud hi0 k1 k2 k3 v v' Cg gb h6=>
  obtain⟨uw,us,uc,hrd,hrf,hgd,hgg⟩:=hI.wf.uo u hm
  have hub:u.b=t.rv.bk:=by
   cases hI.ph with
   | rv h=>rw[hm]at h;cases h
   | gv h=>rw[hm]at h;cases h
   | cm h=>rw[hm]at h;cases h
   | uo u' h _ _ _ _ _ _ _ _ e=>rw[hm]at h;injection h with h;rw[h];exact e.2
   | won d=>rw[hd]at d;cases d
   | lost d=>rw[hd]at d;cases d
   | none d=>rw[hd]at d;cases d
  obtain⟨hfr,hib⟩:=uw hud
  have hS:Sep (rnwD k _ :: rsD k1 _ :: frB k2 Cg :: unB k3 (unE u) :: mB b s a cap w :: wR s w :: g :: l) H:=hS
  have hk1:=hS.lk 1 rfl
  have r2:=fun o=>rd_of hk1 o
  have hk2:H k2=some (Obj.cells Cg 113 (0,0)):=hS.lk 2 rfl
  have r6:Ev.rd H k2 6=some (.bool true):=by rw[rd_of hk2,h6]
  have hS:=Sep.over (X:=[_,_,_]) (L:=[_,_,_,_]) hS
  simp only[hk,r1,hk1,r2,r6,rsC,rnwC,↓DD,UU,↓reduceIte,xA,xB,xC,xD,xE,xF,xG,xH,xI,xJ,xK,xL,xM,xN,xO,xP,xQ,ne_eq,eq_self]
  refine callT_of (m_unstepD hud hfr (by rw[hub];exact Rv.bk00 _) hib hi0 (by rw[us];exact hof) hL hl hS) ?_
  rintro x H' ⟨rfl,C2,a2,cap2,g2,i10,hC2,hL2,hS⟩
  have hS:=Sep.over (X:=[_,_,_,_]) (L:=[_,_,_]) hS
  obtain⟨u2,hu2⟩:∃ u2,(u.step w).1=u2:=⟨_,rfl⟩
  have es:t.step w=(({ t with md:=.uo u2 }:Re).go,(u.step w).2):=by
   rw[← hu2];unfold Re.step Re.acc;rw[if_neg (by rw[hd];decide),if_pos hrd,if_pos hgd,hm]
  rw[es]
  rw[hu2]at i10 hC2
  have hk:=hS.look
  have r1:=fun o=>rd_of hk o
  have hk3:H' k3=some (Obj.cells C2 157 (0,0)):=hS.lk 3 rfl
  have r3:=fun o=>rd_of hk3 o
  cases hvd:u2.dn
  ·rw[hvd]at i10
   have e:({ t with md:=.uo u2 }:Re).go = { t with md:=.uo u2 }:=by unfold Re.go;simp only[hvd,Bool.false_eq_true,if_false]
   have hlg:u2.b.lg=false→u2.i=0:=fun e=>by
    rw[← hu2,Uo.step_sb.2.2]at e
    have:u2.dn=true:=by rw[← hu2];unfold Uo.step;rw[if_neg (by rw[hud];decide),if_neg (by rw[e];decide)]
    rw[hvd]at this;cases this
   have hR:RE { t with md:=.uo u2 } (rnwC t.s t.c Bk.zero gb false false 0 (.pointer (some ⟨k1,0,none⟩)) (.pointer (some ⟨k2,0,none⟩)) (.pointer (some ⟨k3,0,none⟩)) (.pointer none)) [rsD k1 (rsC t.rv.bk true true v v'),frB k2 Cg,unB k3 (unE u2)]:=RE.uo (t:={ t with md:=.uo u2 }) hd rfl hvd hlg h6
   simp only[hk,r1,hk3,r3,i10,rnwC,↓DD,UU,↓reduceIte,xA,xB,xC,xD,xE,xF,xG,xH,xI,xJ,xK,xL,xM,xN,xO,xP,xQ,ne_eq,eq_self]
   rw[e]
   rw[hC2 hvd]at hS
   exact⟨_,_,a2,cap2,g2,hR,hL2,hS⟩
  ·rw[hvd]at i10
   have e:({ t with md:=.uo u2 }:Re).go=({ t with md:=.uo u2 }:Re).fin 1:=by unfold Re.go;simp only[hvd,if_true]
   simp only[hk,r1,hk3,r3,i10,rnwC,↓DD,UU,↓reduceIte,xA,xB,xC,xD,xE,xF,xG,xH,xI,xJ,xK,xL,xM,xN,xO,xP,xQ,ne_eq,eq_self]
   refine callT_of (m_rdend (e:=1) hS) ?_
   rintro x H' ⟨rfl,hS⟩
   simp only[↓DD,UU,↓reduceIte,xA,xB,xC,xD,xE,xF,xG,xH,xI,xJ,xK,xL,xM,xN,xO,xP,xQ,ne_eq,eq_self]
   rw[e]
   exact⟨_,[],a2,cap2,g2,RE.dn (t:=({ t with md:=.uo u2 }:Re).fin 1) rfl,hL2,Sep.dropF (m:=[_,_,_]) (Sep.over (X:=[_]) (L:=[_,_,_]) hS)⟩
 | @cm _ hm k1 k2 k3 v v' Cg gb h6=>
  obtain⟨mw,ms,mc,hrd,hrf,hgd,hgg⟩:=hI.wf.cm _ hm
  have hfr:t.rv.bk.Fit t.s t.c:=by
   cases hI.ph with
   | rv h=>rw[hm]at h;cases h
   | gv h=>rw[hm]at h;cases h
   | cm _ _ _ _ _ _ ws1 h=>exact h.got.res.f
   | uo u' h=>rw[hm]at h;cases h
   | won d=>rw[hd]at d;cases d
   | lost d=>rw[hd]at d;cases d
   | none d=>rw[hd]at d;cases d
  have hcd:(Cm.new t.s t.c t.rv.bk).dn=false:=by show(!t.rv.bk.fits t.s t.c)=false;rw[Bk.of_fits hfr];rfl
  have hS:Sep (rnwD k _ :: rsD k1 _ :: frB k2 Cg :: cmD k3 (Cm.new t.s t.c t.rv.bk) :: mB b s a cap w :: wR s w :: g :: l) H:=hS
  have hk1:=hS.lk 1 rfl
  have r2:=fun o=>rd_of hk1 o
  have hk2:H k2=some (Obj.cells Cg 113 (0,0)):=hS.lk 2 rfl
  have r6:Ev.rd H k2 6=some (.bool true):=by rw[rd_of hk2,h6]
  have hS:=Sep.over (X:=[_,_,_]) (L:=[_,_,_,_]) hS
  simp only[hk,r1,hk1,r2,r6,rsC,rnwC,↓DD,UU,↓reduceIte,xA,xB,xC,xD,xE,xF,xG,xH,xI,xJ,xK,xL,xM,xN,xO,xP,xQ,ne_eq,eq_self]
  refine callT_of (m_cmstep hfr hof hL hl hS) ?_
  rintro x H' ⟨rfl,a2,cap2,g2,hL2,hS⟩
  have hS:=Sep.over (X:=[_,_,_,_]) (L:=[_,_,_]) hS
  have es:t.step w=(({ t with md:=.cm ((Cm.new t.s t.c t.rv.bk).step w).1 }:Re).go,((Cm.new t.s t.c t.rv.bk).step w).2):=by
   unfold Re.step Re.acc;rw[if_neg (by rw[hd];decide),if_pos hrd,if_pos hgd,hm]
  have hcd2:((Cm.new t.s t.c t.rv.bk).step w).1.dn=true:=by
   unfold Cm.step;rw[if_neg (by rw[hcd];decide)]
   split<;>rfl
  rw[es]
  have e:({ t with md:=.cm ((Cm.new t.s t.c t.rv.bk).step w).1 }:Re).go=({ t with md:=.cm ((Cm.new t.s t.c t.rv.bk).step w).1 }:Re).fin 0:=by unfold Re.go;simp only[hcd2,if_true]
  have hk:=hS.look
  have r1:=fun o=>rd_of hk o
  have hk1:=hS.lk 1 rfl
  have r2:=fun o n=>rdn_of hk1 o n
  have n1:=hS.neq 0 1 (by decide) rfl rfl
  have n1':=hS.qen 0 1 (by decide) rfl rfl
  simp only[hk,r1,hk1,r2,n1,n1',rsC,rnwC,Ev.upd_upd,↓DD,UU,↓reduceIte,xA,xB,xC,xD,xE,xF,xG,xH,xI,xJ,xK,xL,xM,xN,xO,xP,xQ,ne_eq,eq_self]
  have hS:=hS.set (.cells (rnwC t.s t.c t.rv.bk gb true false 0 (.pointer (some ⟨k1,0,none⟩)) (.pointer (some ⟨k2,0,none⟩)) (.pointer none) (.pointer (some ⟨k3,0,none⟩))) 116 (0,0))
  refine callT_of (m_rdend (e:=0) hS) ?_
  rintro x H' ⟨rfl,hS⟩
  simp only[↓DD,UU,↓reduceIte,xA,xB,xC,xD,xE,xF,xG,xH,xI,xJ,xK,xL,xM,xN,xO,xP,xQ,ne_eq,eq_self]
  rw[e]
  exact⟨_,[],a2,cap2,g2,RE.dn (t:=({ t with md:=.cm ((Cm.new t.s t.c t.rv.bk).step w).1 }:Re).fin 0) rfl,hL2,Sep.dropF (m:=[_,_,_]) (Sep.over (X:=[_]) (L:=[_,_,_]) hS)⟩
end
end Go.Proofs.YtbcdaglbdnkocaaGreat
