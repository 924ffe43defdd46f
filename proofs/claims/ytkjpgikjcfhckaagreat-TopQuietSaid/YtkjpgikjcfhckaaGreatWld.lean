/-
 The program's world: its parts, and what it does with a choice. Conditions: none.
-/
import Derived.Test.YtkjpgikjcfhckaaGreatCodeX
import Derived.Test.YtkjpgikjcfhckaaGreatCl
import Derived.Test.YtkjpgikjcfhckaaGreatStat
open Nat renaming reduceAdd→xA,reduceMul→xB,reduceSub→xC,reduceEqDiff→xD,reduceBEq→xE,reduceLeDiff→xF,reduceLT→xG
open Int renaming reduceAdd→xH,reduceMul→xI,reduceSub→xJ,reduceLT→xK,reduceLE→xL,reduceToNat→xM,reduceEq→xN,reduceNe→xO,reduceBEq→xP,reduceBNe→xQ
set_option linter.unusedVariables false
set_option linter.unusedSectionVars false
set_option linter.unusedSimpArgs false
set_option maxRecDepth 8000
namespace Go.Proofs.YtkjpgikjcfhckaaGreat
open Go Go.Ev Go.Pl Go.Ma
def acV (a:Acs):List Value:=[.int .i64 a.c,.int .i64 a.k,.int .i64 a.at',.int .u64 a.was,.int .u64 a.pt,.bool a.ok]
def AcR (a:Option Addr) (cap:Nat) (l:List Acs) (g:Hp):Prop:=Rw 52 6 a l.length cap (l.flatMap acV) g
def woC (sh:Sh) (b kc C:Nat) (ta:Option Addr) (tn tc:Nat) (sa:Option Addr) (sn sc:Nat):Array Value:=#[.int .i64 sh.p,.int .i64 sh.c,.int .i64 sh.m,.pointer (some ⟨b,0,none⟩),.slice (some ⟨kc,0,none⟩) C C,.slice ta tn tc,.slice sa sn sc]
def woB (k:Nat) (c:Array Value):Hp:=sg k (.cells c 96 (0,0))
inductive KlP:Option Cl→Value→List Hp→Prop
 | no:KlP none (.pointer none) []
 | yes (k:Nat) (x:Cl) (P:List Hp) (h:ClP k x P):KlP (some x) (.pointer (some ⟨k,0,none⟩)) P
def kcB (kc C:Nat) (pv:Nat→Value):Hp:=sg kc (.cells (vrow C pv) 97 (0,0))
inductive WoP (k:Nat) (pv:Nat→Value) (X:Wo):List Hp→Prop
 |mk (b s kc C:Nat) (ta:Option Addr) (tc:Nat) (tg:Hp) (sa:Option Addr) (sc:Nat) (sg':Hp) (g:Nat→List Hp) (hC:(C:Int)=X.s.c) (ht:EvR ta tc X.tr tg) (hs:AcR sa sc X.sp sg') (hk:∀ d,d<C→KlP (X.k d) (pv d) (g d)) :
  WoP k pv X (woB k (woC X.s b kc C ta X.tr.length tc sa X.sp.length sc) :: wB b s X.w :: wR s X.w :: kcB kc C pv :: tg :: sg' :: famL C g)
section
variable {W:World} {H tg g:Hp} {l:List Hp} {k b s kc C tc sc cap n:Nat} {ta sa a:Option Addr} {sh:Sh} {sn:Nat} {tr evs:List Evt} {w:Wd} {c:Int}
theorem ev_app {Q:Value→Hp→Prop} (hG:EvR ta tc tr tg) (hE:EvR a cap evs g) (hn:evs.length=n) (hb:tr.length+n≤1000000000) (hS:Sep (tg :: g :: l) H)
  (hQ:∀ a' cap' g' H',EvR a' cap' (tr ++ evs) g'→Sep (g' :: g :: l) H'→Q (.slice a' (tr.length+n) cap') H') :
  onSome (rds H a (n*8)) fun new=>if tr.length+n≤tc then stow H ta (tr.length*8) new fun H'=>Q (.slice ta (tr.length+n) tc) H'
  else Builtin.nextslicecap (tr.length+n) tc*64≤281474976710656∧tr.length+n≤9223372036854775807∧onSome (rds H ta (tr.length*8)) fun old=>allCap (tr.length+n) fun cap=>newB W H fun b=>Q (.slice (some ⟨b,0,none⟩) (tr.length+n) cap) (upd H b (.cells (old ++ new ++ Builtin.zeroCells #[.int .i64 0,.int .i64 0,.int .i64 0,.int .i64 0,.int .i64 0,.int .i64 0,.int .i64 0,.int .i64 0] (cap - (tr.length+n))) 58 (0,0))):=by
 subst hn
 have hr:=Rw.rds hE hS.p1.head
 rw[hr,onSome_mk]
 exact growN hG (by simpa using hE.1) (by simp [evV,Value.oneCell']) rfl hb (by decide) hS fun a' cap' g' H' h1 h2=>hQ a' cap' g' H' ⟨by have:=h1.1;simpa using this,by have:=h1.2;simpa [EvR] using this⟩ h2
theorem c_wtell (hG:EvR ta tc tr tg) (hE:EvR a cap evs g) (hn:evs.length=n) (hb:tr.length+n≤1000000000) (hS:Sep (woB k (woC sh b kc C ta tr.length tc sa sn sc) :: tg :: g :: l) H) :
  CallP Tryz.prog W 44 #[.pointer (some ⟨k,0,none⟩),.slice a n cap] H fun v H'=>v=.tuple #[]∧∃ ta' tc' tg',EvR ta' tc' (tr ++ evs) tg'∧Sep (woB k (woC sh b kc C ta' (tr ++ evs).length tc' sa sn sc) :: tg' :: g :: l) H':=by
 refine CallP.of mixed Tryz.func44 tr44 (by show 2≤_;decide) fun W _=>?_
 have hk:=hS.look
 have r0:=fun o=>rd_of hk o
 simp only[r0,woC,↓DD,UU,xA,xE]
 refine ev_app (Q:=fun v H'=>rwp _ _ _ _ (putD _ _ v) H') hG hE hn hb (hS.sel 3 [1,2,0] (by decide) (by decide)) ?_
 intro a' cap' g' H' hG' hS
 have hS:=hS.sel 3 [2,0,1] (by decide) (by decide)
 have hk:=hS.look
 have r0:=fun o=>rd_of hk o
 simp only[hk,woC,↓DD,UU,xA,xE,xG]
 have hl:(tr ++ evs).length=tr.length+n:=by rw[List.length_append,hn]
 rw[hl]
 exact⟨a',cap',g',hG',hS.set _⟩
theorem c_wstatus {kd:Int} (c0:0≤status sh.p sh.c sh.m c) (c1:status sh.p sh.c sh.m c<w.n) (hS:Sep (woB k (woC sh b kc C ta n tc sa sn sc) :: wB b s w :: wR s w :: l) H) :
  CallP Tryz.prog W 45 #[.pointer (some ⟨k,0,none⟩),.int .i64 c,.int .i64 kd] H fun v H'=>v=.tuple #[]∧Sep (woB k (woC sh b kc C ta n tc sa sn sc) :: wB b s (w.put (status sh.p sh.c sh.m c) (putSt kd 0)) :: wR s (w.put (status sh.p sh.c sh.m c) (putSt kd 0)) :: l) H':=by
 refine CallP.of mixed Tryz.func45 tr45 (by show 3≤_;decide) fun W _=>?_
 have hk:=hS.look
 have r0:=fun o=>rd_of hk o
 have r1:=fun o n=>rdn_of hk o n
 refine draw_intro [(k,woC sh b kc C ta n tc sa sn sc,[])] (by simp only[hk,↓DD,UU]) ?_
 simp only[hk,r0,r1,v_status,v_putst,woC,↓DD,UU,↓reduceIte,xA,xC,xE,xF]
 refine callT_of (c_put _ _ c0 c1 (hS.sel 3 [1,2,0] (by decide) (by decide))) ?_
 rintro v H' ⟨rfl,hS⟩
 have hk:=hS.lk 2 rfl
 simp only[↓DD,UU]
 exact hS.sel 3 [2,0,1] (by decide) (by decide)
theorem c_wstat (hw:w.of sh) (c1:status sh.p sh.c sh.m c<w.n) (hS:Sep (woB k (woC sh b kc C ta n tc sa sn sc) :: wB b s w :: wR s w :: l) H) :
  CallP Tryz.prog W 36 #[.pointer (some ⟨k,0,none⟩),.int .i64 c] H fun v H'=>v=.int .i64 (if status sh.p sh.c sh.m c<0 then 0 else stK (w.get (status sh.p sh.c sh.m c)))∧Sep (woB k (woC sh b kc C ta n tc sa sn sc) :: wB b s w :: wR s w :: l) H':=by
 refine CallP.of mixed Tryz.func36 tr36 (by show 2≤_;decide) fun W _=>?_
 have hk:=hS.look
 have r0:=fun o=>rd_of hk o
 have r1:=fun o n=>rdn_of hk o n
 by_cases h:status sh.p sh.c sh.m c<0
 ·rw[if_pos h]
  have g:=decide_eq_true h
  simp only[r1,v_status,g,woC,↓DD,UU,↓reduceIte,xA,xC,xE,xF]
  exact hS
 ·rw[if_neg h]
  have g:=decide_eq_false h
  simp only[r1,v_status,g,woC,↓DD,UU,↓reduceIte,xA,xC,xE,xF]
  refine draw_intro [(k,woC sh b kc C ta n tc sa sn sc,[])] (by simp only[hk,woC,↓DD,UU]) ?_
  simp only[hk,r0,r1,v_status,woC,↓DD,UU,↓reduceIte,xA,xC,xE,xF]
  refine callT_of (c_look _ (by omega) c1 (hS.sel 3 [1,2,0] (by decide) (by decide))) ?_
  rintro v H' ⟨rfl,hS⟩
  have hS:=hS.sel 3 [2,0,1] (by decide) (by decide)
  have hk:=hS.look
  simp only[hk,v_readst (Wd.U_get hw _),woC,↓DD,UU,xE]
  first | exact hS | exact⟨rfl,hS⟩
theorem fam_put {pre P:List Hp} {g:Nat→List Hp} {i:Nat} (hi:i<C) (h:Sep (pre ++ (P ++ (famL C g ++ l))) H):Sep (pre ++ (famL C (fun d=>if d=i then P else g d) ++ l)) H:=by
 rw[← List.append_assoc]at h
 have h1:=(Sep.pickF (pre ++ P) h hi).dropF
 rw[List.append_assoc]at h1
 exact Sep.backF pre (Sep.over h1) hi (if_pos rfl) fun d hd=>if_neg hd
theorem fam_set {X:Wo} {pv:Nat→Value} {g:Nat→List Hp} {x:Option Cl} {v:Value} {P:List Hp} (hk:∀ d,d<C→KlP (X.k d) (pv d) (g d)) (hx:KlP x v P):∀ d,d<C→KlP (X.put c x d) (if d=c.toNat then v else pv d) (if d=c.toNat then P else g d):=by
 intro d hd
 show KlP (if d=c.toNat then x else X.k d) _ _
 by_cases h:d=c.toNat
 ·rw[if_pos h,if_pos h,if_pos h];exact hx
 ·rw[if_neg h,if_neg h,if_neg h];exact hk d hd
theorem c_wstart {X:Wo} {pv:Nat→Value} {P:List Hp} {x:Ch} {bias:Nat} (hX:X.wf) (hP:WoP k pv X P) (hc:¬ X.sat x.c<0) (hb:x.b=shrv bias X.s.p) (hl:X.tr.length+1≤1000000000) (hS:Sep (P ++ l) H) :
  CallP Tryz.prog W 41 #[.pointer (some ⟨k,0,none⟩),.agg #[.int .i64 x.k,.int .i64 x.c,.int .i64 x.o.k,.int .i64 x.o.a,.int .i64 x.o.n,.float .f64 bias]] H fun v H'=>v=.int .i64 (X.start x).2∧∃ pv' P',WoP k pv' (X.start x).1 P'∧Sep (P' ++ l) H':=by
 refine CallP.of mixed Tryz.func41 tr41 (by show 2≤_;decide) fun W _=>?_
 obtain⟨b,s,kc,C,ta,tc,tg,sa,sc,sg',g,hC,ht,hs,hk⟩:=hP
 obtain⟨c0,c1,c2,c3⟩:=Wo.sat_in hX hc
 have hpb:=(may_iff _ _ _).1 hX.m
 unfold Wo.sat at hc c2
 have hS:Ev.Sep (woB k (woC X.s b kc C ta X.tr.length tc sa X.sp.length sc) :: wB b s X.w :: wR s X.w :: kcB kc C pv :: tg :: sg' :: (famL C g ++ l)) H:=hS
 unfold Wo.start
 simp only[↓DD,UU,xA,xE,ne_eq]
 refine newB_intro fun y hy f1 f2=>?_
 have hS:=hS.new f1 (.cells #[.int .i64 x.k,.int .i64 x.c,.int .i64 x.o.k,.int .i64 x.o.a,.int .i64 x.o.n,.float .f64 bias] 37 (0,0))
 have hy1:=hS.look
 have ry:=fun o=>rd_of hy1 o
 simp only[ry,↓DD,UU,xA,xE]
 refine callT_of (c_wstat (c:=x.c) hX.w (by rw[c2];omega) (hS.sel 4 [1,2,3,0] (by decide) (by decide))) ?_
 rintro v H' ⟨rfl,hS⟩
 have est:X.stk x.c=if status X.s.p X.s.c X.s.m x.c<0 then 0 else stK (X.w.get (status X.s.p X.s.c X.s.m x.c)):=rfl
 rw[est]
 generalize (if status X.s.p X.s.c X.s.m x.c<0 then(0:Int) else stK (X.w.get (status X.s.p X.s.c X.s.m x.c)))=q
 by_cases hq:q=0
 rotate_left
 ·rw[if_pos hq]
  have hq':(q != 0)=true:=by simpa using hq
  simp only[hq',↓DD,UU,xA]
  exact⟨_,_,.mk b s kc C ta tc tg sa sc sg' g hC ht hs hk,hS.sel 4 [0,1,2] (by decide) (by decide)⟩
 rw[if_neg (by simpa using hq)]
 have hq':(q != 0)=false:=by simpa using hq
 have hk1:=hS.look
 have hy1:=hS.lk 3 rfl
 have r0:=fun o=>rd_of hk1 o
 have r1:=fun o n=>rdn_of hk1 o n
 have ry:=fun o=>rd_of hy1 o
 have nky:(k=y)=False:=hS.neq 0 3 (by decide) rfl rfl
 have nyk:(y=k)=False:=hS.qen 0 3 (by decide) rfl rfl
 simp only[hq',↓DD,UU,xA]
 refine draw_intro [(k,woC X.s b kc C ta X.tr.length tc sa X.sp.length sc,[]),(y,#[.int .i64 x.k,.int .i64 x.c,.int .i64 x.o.k,.int .i64 x.o.a,.int .i64 x.o.n,.float .f64 bias],[])] (by simp only[hk1,hy1,woC,↓DD,UU]) ?_
 simp only[r0,r1,ry,nyk,woC,↓DD,UU,↓reduceIte,xA,xC,xE,xF]
 refine callT_of (c_clnew (sh:=X.s) (c:=x.c) (bias:=bias) hX.m c0 c1 hS) ?_
 rintro v H' ⟨kk,P',rfl,hcl,hS⟩
 have hS:=Sep.over (X:=P') (L:=[_,_,_,_,_,_,_]) hS
 have hk1:=hS.look
 have hy1:=hS.lk 3 rfl
 have hkc:=hS.lk 4 rfl
 have g1:x.c<(C:Int):=by omega
 have g2:x.c.toNat<C:=by omega
 have ry:=fun o=>rd_of hy1 o
 have nyc:(y=kc)=False:=hS.neq 3 4 (by decide) rfl rfl
 simp only[hk1,hy1,hkc,ry,c0,g1,vrow_size,vrow_set,g2,nyc,woC,↓DD,UU,↓reduceIte,xE]
 have hS:=hS.p4.set (.cells (vrow C fun j=>if j=x.c.toNat then .pointer (some ⟨kk,0,none⟩) else pv j) 97 (0,0))
 refine callT_of (c_wstatus (c:=x.c) (kd:=1) (by rw[c2];exact c0) (by rw[c2];exact c3) (hS.sel 7 [1,2,3,4,0,5,6] (by decide) (by decide))) ?_
 rintro v H' ⟨rfl,hS⟩
 have hy1:=hS.lk 3 rfl
 have ry:=fun o=>rd_of hy1 o
 simp only[ry,↓DD,UU,xA,xB,xE]
 refine newB_intro fun e he f3 f4=>?_
 have hS:=hS.new f3 (.cells (evV ⟨0,x.c,Op.zero,0,0,0⟩).toArray 58 (0,0))
 simp only[↓DD,UU,xE]
 refine callT_of (c_wtell (evs:=[⟨0,x.c,Op.zero,0,0,0⟩]) ht (ev_one e _) rfl (by omega) (hS.sel 8 [1,6,0,2,3,5,7] (by decide) (by decide))) ?_
 rintro v H' ⟨rfl,ta',tc',tg',ht',hS⟩
 simp only[↓DD,UU]
 have hS:Ev.Sep ([_,_,_,_,_,_] ++ (P' ++ (famL C g ++ l))) H':=hS.sel 7 [0,3,4,5,1,6] (by decide) (by decide)
 have hx:Cl.new X.s x.c x.b=Cl.new X.s x.c (shrv bias X.s.p):=by rw[hb]
 rw[hx]
 exact⟨_,_,.mk b s kc C ta' tc' tg' sa sc sg' _ hC ht' hs (fam_set hk (.yes kk _ P' hcl)),fam_put g2 hS⟩
theorem ac_app {Q:Value→Hp→Prop} {sp:List Acs} {e:Acs} {sg':Hp} (hG:AcR sa sc sp sg') (hb:sp.length+1≤1000000000) (hS:Sep (sg' :: l) H)
  (hQ:∀ a' cap' g' H',AcR a' cap' (sp ++ [e]) g'→Sep (g' :: l) H'→Q (.slice a' (sp.length+1) cap') H') :
  if sp.length+1≤sc then stow H sa (sp.length*6) (acV e).toArray fun H'=>Q (.slice sa (sp.length+1) sc) H'
  else Builtin.nextslicecap (sp.length+1) sc*48≤281474976710656∧sp.length+1≤9223372036854775807∧onSome (rds H sa (sp.length*6)) fun old=>allCap (sp.length+1) fun cap=>newB W H fun b=>Q (.slice (some ⟨b,0,none⟩) (sp.length+1) cap) (upd H b (.cells (old ++ (acV e).toArray ++ Builtin.zeroCells #[.int .i64 0,.int .i64 0,.int .i64 0,.int .u64 0,.int .u64 0,.bool false] (cap - (sp.length+1))) 52 (0,0))):=
 growN (m:=1) hG (new:=(acV e).toArray) rfl (by simp [acV,Value.oneCell']) rfl hb (by decide) hS fun a' cap' g' H' h1 h2=>hQ a' cap' g' H' ⟨by have:=h1.1;simpa using this,by have:=h1.2;simpa [AcR] using this⟩ h2
theorem c_wstep {X:Wo} {cl:Cl} {kk:Nat} {Pk:List Hp} {sg':Hp} (hX:X.wf) (e:X.k c.toNat=some cl) (hcl:ClP kk cl Pk) (ht:EvR ta tc X.tr tg) (hs:AcR sa sc X.sp sg') (hl:X.tr.length+4≤1000000000) (hl2:X.sp.length+1≤1000000000)
  (hS:Sep (woB k (woC X.s b kc C ta X.tr.length tc sa X.sp.length sc) :: wB b s X.w :: wR s X.w :: tg :: sg' :: (Pk ++ l)) H) :
  CallP Tryz.prog W 42 #[.pointer (some ⟨k,0,none⟩),.pointer (some ⟨kk,0,none⟩)] H fun v H'=>v=.int .i64 (X.step c cl).2∧∃ ta' tc' tg' sa' sc' sg'' P',EvR ta' tc' (X.step c cl).1.tr tg'∧AcR sa' sc' (X.step c cl).1.sp sg''∧ClP kk (cl.step X.w).1 P' ∧
   Sep (woB k (woC X.s b kc C ta' (X.step c cl).1.tr.length tc' sa' (X.step c cl).1.sp.length sc') :: wB b s (X.step c cl).1.w :: wR s (X.step c cl).1.w :: tg' :: sg'' :: (P' ++ l)) H':=by
 refine CallP.of mixed Tryz.func42 tr42 (by show 2≤_;decide) fun W _=>?_
 obtain⟨h1,h2,h3⟩:=hX.k _ _ e
 have hk:=hS.look
 have r0:=fun o=>rd_of hk o
 simp only[r0,woC,↓DD,UU,xA,xE]
 refine callT_of (c_steps (hS.sel 5 [1,0,2,3,4] (by decide) (by decide))) ?_
 rintro v H' ⟨rfl,hS⟩
 have hk:=hS.lk 1 rfl
 have r0:=fun o=>rd_of hk o
 simp only[r0,woC,↓DD,UU,xA,xE]
 have hS:=hS.sel 5 [1,0,2,3,4] (by decide) (by decide)
 have hS:Ev.Sep (Pk ++ ([wB b s X.w,wR s X.w,woB k (woC X.s b kc C ta X.tr.length tc sa X.sp.length sc),tg,sg'] ++ l)) H':=Sep.over (X:=[_,_,_,_,_]) (L:=Pk) (hS.sel 5 [1,2,0,3,4] (by decide) (by decide))
 refine callT_of (c_clstep h1 hcl (by rw[h2];exact hX.w) hS) ?_
 rintro v H' ⟨ea,ec,eg,P',rfl,hE,hcl',hS⟩
 have hS:Ev.Sep ([_,_,_,_,_] ++ ((eg :: P') ++ l)) H':=Sep.over (X:=eg :: P') (L:=[_,_,_,_,_]) hS
 have hk:=hS.lk 2 rfl
 have r0:=fun o=>rd_of hk o
 simp only[r0,woC,↓DD,UU,xA,xE]
 refine callT_of (c_steps hS) ?_
 rintro v H' ⟨rfl,hS⟩
 unfold Wo.step
 have hk:=hS.lk 2 rfl
 have r0:=fun o=>rd_of hk o
 have hev:(cl.step X.w).2.2.1.length≤3:=Cl.step_evs
 by_cases hst:X.w.st<(cl.step X.w).2.1.st
 rotate_left
 ·have g:=decide_eq_false hst
  simp only[g,↓DD,UU,xA,xE]
  refine callT_of (c_wtell ht hE rfl (by omega) (hS.sel 6 [2,3,5,0,1,4] (by decide) (by decide))) ?_
  rintro v H' ⟨rfl,ta',tc',tg',ht',hS⟩
  simp only[↓DD,UU,xA,xE]
  have hS:Ev.Sep _ H':=hS.sel 6 [0,3,4,1,5] (by decide) (by decide)
  rw[if_neg hst]
  exact⟨ta',tc',tg',sa,sc,sg',P',ht',hs,hcl',hS⟩
 rw[if_pos hst]
 have g:=decide_eq_true hst
 simp only[g,↓DD,UU,xA,xE]
 refine draw_intro [(k,woC X.s b kc C ta X.tr.length tc sa X.sp.length sc,[])] (by simp only[hk,woC,↓DD,UU]) ?_
 simp only[r0,woC,↓DD,UU,↓reduceIte,xE]
 refine callT_of (c_last hS) ?_
 rintro v H' ⟨rfl,hS⟩
 have hk:=hS.lk 2 rfl
 simp only[hk,wlast,woC,↓DD,UU,xA,xB]
 refine newB_intro fun z hz f1 f2=>?_
 have nkz:(k=z)=False:=f1 k (by rw[hk];rfl)
 have hS:=hS.new f1 (.cells (acV (cl.step X.w).2.1.last).toArray 52 (0,0))
 have hz1:=hS.look
 have hr2:rds _ (some ⟨z,0,none⟩) 6=some (acV (cl.step X.w).2.1.last).toArray:=(show rdn _ z 0 6=some _ by rw[rdn_of hz1];rfl)
 simp only[hk,nkz,woC,↓DD,UU,↓reduceIte,xE]
 show onSome (rds (upd H' z (.cells (acV (cl.step X.w).2.1.last).toArray 52 (0,0))) (some ⟨z,0,none⟩) 6) _
 rw[hr2,onSome_mk]
 refine ac_app (Q:=fun v H'=>hold _ H'∧dwp _ _ _ _ _ (putD _ _ v) H') hs (by omega) (hS.sel 7 [5,3,4,1,2,6] (by decide) (by decide)) ?_
 intro sa' sc' sg'' H' hs' hS
 have hk:=hS.lk 1 rfl
 refine⟨by simp only[hk,woC,↓DD,UU],?_⟩
 have hln:(X.sp ++ [(cl.step X.w).2.1.last]).length=X.sp.length+1:=by rw[List.length_append];rfl
 rw[hln]
 simp only[hk,woC,↓DD,UU,xA,xE,xG]
 have hS:=hS.p1.set (.cells (woC X.s b kc C ta X.tr.length tc sa' (X.sp.length+1) sc') 96 (0,0))
 refine callT_of (c_wtell ht hE rfl (by omega) (hS.sel 6 [0,2,5,3,4,1] (by decide) (by decide))) ?_
 rintro v H' ⟨rfl,ta',tc',tg',ht',hS⟩
 simp only[↓DD,UU,xE]
 have hS:Ev.Sep _ H':=hS.sel 6 [0,3,4,1,5] (by decide) (by decide)
 exact⟨ta',tc',tg',sa',sc',sg'',P',ht',hs',hcl',hS⟩
theorem c_smay {x:Ch} {bias:Nat} (hS:Sep l H):CallP Tryz.prog W 39 #[.agg #[.int .i64 x.k,.int .i64 x.c,.int .i64 x.o.k,.int .i64 x.o.a,.int .i64 x.o.n,.float .f64 bias]] H fun v H'=>v=.bool (decide (1≤x.k) && decide (x.k≤4))∧Sep l H':=by
 refine CallP.of mixed Tryz.func39 tr39 (by show 1≤_;decide) fun W _=>?_
 simp only[↓DD,UU]
 refine newB_intro fun y hy f1 f2=>?_
 have hS:=hS.new f1 (.cells #[.int .i64 x.k,.int .i64 x.c,.int .i64 x.o.k,.int .i64 x.o.a,.int .i64 x.o.n,.float .f64 bias] 37 (0,0))
 have hy1:=hS.look
 have ry:=fun o=>rd_of hy1 o
 cases h1:decide (1≤x.k)
 ·simp only[ry,h1,↓DD,UU,xE]
  exact⟨rfl,hS.tail⟩
 ·simp only[ry,h1,↓DD,UU,xE]
  first | exact hS.tail | exact⟨rfl,hS.tail⟩
theorem c_wdo {X:Wo} {pv:Nat→Value} {P:List Hp} {x:Ch} {bias:Nat} (hX:X.wf) (hP:WoP k pv X P) (hb:x.b=shrv bias X.s.p) (hl:X.tr.length+4≤1000000000) (hl2:X.sp.length+1≤1000000000) (hS:Sep (P ++ l) H) :
  CallP Tryz.prog W 13 #[.pointer (some ⟨k,0,none⟩),.agg #[.int .i64 x.k,.int .i64 x.c,.int .i64 x.o.k,.int .i64 x.o.a,.int .i64 x.o.n,.float .f64 bias]] H fun v H'=>v=.int .i64 (X.act x).2∧∃ pv' P',WoP k pv' (X.act x).1 P'∧(x.k=3∨x.k=2→pv'=pv)∧Sep (P' ++ l) H':=by
 refine CallP.of mixed Tryz.func13 tr13 (by show 2≤_;decide) fun W _=>?_
 have hP0:=hP
 obtain⟨b,s,kc,C,ta,tc,tg,sa,sc,sg',g,hC,ht,hs,hk⟩:=hP
 have hS:Ev.Sep (woB k (woC X.s b kc C ta X.tr.length tc sa X.sp.length sc) :: wB b s X.w :: wR s X.w :: kcB kc C pv :: tg :: sg' :: (famL C g ++ l)) H:=hS
 unfold Wo.act
 simp only[↓DD,UU,xA,xE]
 refine newB_intro fun y hy f1 f2=>?_
 have hS:=hS.new f1 (.cells #[.int .i64 x.k,.int .i64 x.c,.int .i64 x.o.k,.int .i64 x.o.a,.int .i64 x.o.n,.float .f64 bias] 37 (0,0))
 have hy1:=hS.look
 have ry:=fun o=>rd_of hy1 o
 have rz:=fun o n=>rdn_of hy1 o n
 have hk1:=hS.lk 1 rfl
 have nky:(k=y)=False:=hS.qen 0 1 (by decide) rfl rfl
 have nyk:(y=k)=False:=hS.neq 0 1 (by decide) rfl rfl
 simp only[↓DD,UU,xA]
 refine draw_intro [(y,#[.int .i64 x.k,.int .i64 x.c,.int .i64 x.o.k,.int .i64 x.o.a,.int .i64 x.o.n,.float .f64 bias],[]),(k,woC X.s b kc C ta X.tr.length tc sa X.sp.length sc,[])] (by simp only[hk1,hy1,woC,↓DD,UU]) ?_
 simp only[rz,woC,↓DD,UU,↓reduceIte,xA,xC,xE,xF]
 refine callT_of (c_smay (x:=x) (bias:=bias) hS) ?_
 rintro v H' ⟨rfl,hS⟩
 have hy1:=hS.look
 have ry:=fun o=>rd_of hy1 o
 have rz:=fun o n=>rdn_of hy1 o n
 have hk1:=hS.lk 1 rfl
 have r0:=fun o=>rd_of hk1 o
 have r1:=fun o n=>rdn_of hk1 o n
 have es:X.sat x.c=status X.s.p X.s.c X.s.m x.c:=rfl
 by_cases h0:x.k<1∨4<x.k
 ·rw[if_pos (show x.k<1∨4<x.k∨X.sat x.c<0 by omega)]
  have g1:(decide (1≤x.k) && decide (x.k≤4))=false:=by
   rcases h0 with h | h
   ·rw[decide_eq_false (by omega)];rfl
   ·rw[decide_eq_false (show ¬ x.k≤4 by omega)];simp
  simp only[g1,hk1,hy1,woC,↓DD,UU,xE]
  exact⟨_,_,hP0,fun _=>rfl,hS.tail⟩
 have g1:(decide (1≤x.k) && decide (x.k≤4))=true:=by rw[decide_eq_true (by omega),decide_eq_true (by omega)];rfl
 by_cases h1:X.sat x.c<0
 ·rw[if_pos (.inr (.inr h1))]
  have g2:decide (status X.s.p X.s.c X.s.m x.c<0)=true:=decide_eq_true h1
  simp only[g1,g2,hk1,hy1,ry,r1,v_status,nky,woC,↓DD,UU,↓reduceIte,xA,xC,xE,xF]
  exact⟨_,_,hP0,fun _=>rfl,hS.tail⟩
 rw[if_neg (by omega)]
 have g2:decide (status X.s.p X.s.c X.s.m x.c<0)=false:=decide_eq_false h1
 obtain⟨c0,c1,c2,c3⟩:=Wo.sat_in hX h1
 have gc:x.c<(C:Int):=by omega
 have gd:x.c.toNat<C:=by omega
 have hkc:=hS.lk 4 rfl
 have rk:=fun o=>rd_of hkc o
 have nyc:(y=kc)=False:=hS.neq 0 4 (by decide) rfl rfl
 have va:=vrow_at (f:=pv) gd
 by_cases h2:x.k=1
 ·rw[if_pos h2]
  have g3:(x.k == 1)=true:=by rw[h2];rfl
  simp only[g1,g2,g3,hk1,hy1,ry,rz,r0,r1,rk,c0,gc,va,v_status,nky,woC,↓DD,UU,↓reduceIte,xA,xC,xE,xF]
  refine callT_of (c_wstart hX hP0 h1 hb (by omega) hS.tail) ?_
  rintro v H' ⟨rfl,pv',P',hP',hS⟩
  simp only[↓DD,UU]
  have hq:x.k=3∨x.k=2→pv'=pv:=fun q=>by omega
  first | exact⟨pv',P',hP',hq,hS⟩| exact⟨rfl,pv',P',hP',hq,hS⟩
 rw[if_neg h2]
 have g3:(x.k == 1)=false:=by simpa using h2
 have ho:=hk _ gd
 generalize hpv:pv x.c.toNat=pc at ho va
 generalize hgc:g x.c.toNat=Pc at ho
 generalize he:X.k x.c.toNat=oc at ho
 have hpick:=Sep.over (Sep.pickF [_,_,_,_,_,_,_] hS gd)
 rw[hgc]at hpick
 cases ho with
 |no=>
  simp only[g1,g2,g3,hk1,hy1,ry,r0,r1,rk,c0,gc,va,v_status,nky,woC,↓DD,UU,↓reduceIte,xA,xC,xE,xF]
  exact⟨_,_,hP0,fun _=>rfl,hS.tail⟩
 |yes kk cl Pk hcl=>
  have hpe:∀ d,(if d=x.c.toNat then Value.pointer (some ⟨kk,0,none⟩) else pv d)=pv d:=fun d=>by
   split
   ·rename_i e;rw[e,hpv]
   ·rfl
  dsimp only
  by_cases h3:x.k=3
  ·rw[if_pos h3]
   have g4:(x.k == 3)=true:=by rw[h3];rfl
   simp only[g1,g2,g3,g4,hk1,hy1,ry,r0,r1,rk,c0,gc,va,v_status,nky,woC,↓DD,UU,↓reduceIte,xA,xC,xE,xF]
   have hS:Ev.Sep ([woB k (woC X.s b kc C ta X.tr.length tc sa X.sp.length sc),wB b s X.w,wR s X.w,tg,sg'] ++ (Pc ++ ([sg y _,kcB kc C pv] ++ (famLB C x.c.toNat g ++ l)))) H':=Sep.ino (X:=[_,_,_,_,_]) (A:=[_,_]) (hpick.sel 7 [1,2,3,5,6,0,4] (by decide) (by decide))
   refine callT_of (c_wstep hX he hcl ht hs hl hl2 hS) ?_
   rintro v H' ⟨rfl,ta',tc',tg',sa',sc',sg'',P',ht',hs',hcl',hS⟩
   have hS:=Sep.ino (X:=[_,_,_,_,_]) (B:=[_,_]) hS
   have hS:Ev.Sep ([woB k _,wB b s _,wR s _,kcB kc C pv,tg',sg''] ++ (P' ++ (famLB C x.c.toNat g ++ l))) H':=hS.sel 7 [0,1,2,6,3,4] (by decide) (by decide)
   have hS:=Sep.over hS
   have hS:=Sep.backF (g':=fun d=>if d=x.c.toNat then P' else g d) [_,_,_,_,_,_] hS gd (if_pos rfl) fun d hd=>if_neg hd
   have hf:=fun d hd=>(hpe d) ▸ fam_set (c:=x.c) hk (.yes kk _ P' hcl') d hd
   simp only[↓DD,UU]
   exact⟨pv,_,.mk b s kc C ta' tc' tg' sa' sc' sg'' _ hC ht' hs' hf,fun _=>rfl,hS⟩
  rw[if_neg h3]
  have g4:(x.k == 3)=false:=by simpa using h3
  by_cases h4:x.k=2
  ·rw[if_pos h4]
   have g5:(x.k == 2)=true:=by rw[h4];rfl
   simp only[g1,g2,g3,g4,g5,hk1,hy1,ry,rz,r0,r1,rk,c0,gc,va,v_status,nky,woC,↓DD,UU,↓reduceIte,xA,xC,xE,xF]
   refine callT_of (c_invoke (o:=x.o) (hX.k _ _ he).1 hcl hpick.over) ?_
   rintro v H' ⟨ea,ec,eg,P',rfl,hE,hcl',hS⟩
   have hS:Ev.Sep ([_,_,_,_,_,_,_] ++ ((eg :: P') ++ _)) H':=Sep.over (X:=eg :: P') (L:=[_,_,_,_,_,_,_]) hS
   have hev:(cl.invoke x.o).2.1.length≤2:=Cl.invoke_evs
   simp only[↓DD,UU,xE]
   refine callT_of (c_wtell ht hE rfl (by omega) (hS.sel 8 [1,5,7,2,3,4,6] (by decide) (by decide))) ?_
   rintro v H' ⟨rfl,ta',tc',tg',ht',hS⟩
   have hS:Ev.Sep ([woB k _,wB b s X.w,wR s X.w,kcB kc C pv,tg',sg'] ++ (P' ++ (famLB C x.c.toNat g ++ l))) H':=hS.sel 7 [0,3,4,5,1,6] (by decide) (by decide)
   have hS:=Sep.over hS
   have hS:=Sep.backF (g':=fun d=>if d=x.c.toNat then P' else g d) [_,_,_,_,_,_] hS gd (if_pos rfl) fun d hd=>if_neg hd
   have hf:=fun d hd=>(hpe d) ▸ fam_set (c:=x.c) hk (.yes kk _ P' hcl') d hd
   simp only[↓DD,UU,xE]
   exact⟨rfl,pv,_,.mk b s kc C ta' tc' tg' sa sc sg' _ hC ht' hs hf,fun _=>rfl,hS⟩
  rw[if_neg h4]
  have g5:(x.k == 2)=false:=by simpa using h4
  simp only[g1,g2,g3,g4,g5,hk1,hy1,ry,r0,r1,rk,c0,gc,va,v_status,nky,woC,↓DD,UU,↓reduceIte,xA,xC,xE,xF]
  refine draw_intro [(k,woC X.s b kc C ta X.tr.length tc sa X.sp.length sc,[]),(y,#[.int .i64 x.k,.int .i64 x.c,.int .i64 x.o.k,.int .i64 x.o.a,.int .i64 x.o.n,.float .f64 bias],[])] (by simp only[hk1,hy1,woC,↓DD,UU]) ?_
  simp only[hkc,ry,r0,c0,gc,gd,vrow_size,vrow_set,nyk,nyc,woC,↓DD,UU,↓reduceIte,xE]
  have hS:=hS.p4.set (.cells (vrow C fun j=>if j=x.c.toNat then .pointer none else pv j) 97 (0,0))
  unfold Wo.sat at c2
  refine callT_of (c_wstatus (c:=x.c) (kd:=2) (by rw[c2];exact c0) (by rw[c2];exact c3) (hS.sel 7 [2,3,4,0,1,5,6] (by decide) (by decide))) ?_
  rintro v H' ⟨rfl,hS⟩
  have hy1:=hS.lk 4 rfl
  have ry:=fun o=>rd_of hy1 o
  simp only[ry,↓DD,UU,xA,xB,xE]
  refine newB_intro fun e he f3 f4=>?_
  have hS:=hS.new f3 (.cells (evV ⟨1,x.c,Op.zero,0,0,0⟩).toArray 58 (0,0))
  simp only[↓DD,UU,xE]
  refine callT_of (c_wtell (evs:=[⟨1,x.c,Op.zero,0,0,0⟩]) ht (ev_one e _) rfl (by omega) (hS.sel 8 [1,6,0,2,3,4,7] (by decide) (by decide))) ?_
  rintro v H' ⟨rfl,ta',tc',tg',ht',hS⟩
  have hS:Ev.Sep ([_,_,_,_,_,_] ++ ([] ++ (famL C g ++ l))) H':=hS.sel 7 [0,3,4,5,1,6] (by decide) (by decide)
  simp only[↓DD,UU]
  unfold Wo.kill
  exact⟨rfl,_,_,.mk b s kc C ta' tc' tg' sa sc sg' _ hC ht' hs (fam_set hk .no),fun q=>by omega,fam_put gd hS⟩
end
end Go.Proofs.YtkjpgikjcfhckaaGreat
