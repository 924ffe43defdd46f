/-
 The program's world: made, and looked at; one asks alone. Conditions: none.
-/
import Derived.Test.YtkjpgikjcfhckaaGreatCodeX
import Derived.Test.YtkjpgikjcfhckaaGreatWld
import Derived.Test.YtkjpgikjcfhckaaGreatMaW
import Derived.Test.YtkjpgikjcfhckaaGreatRefPlan
import Derived.Test.YtkjpgikjcfhckaaGreatAlt
open Nat renaming reduceAdd→xA,reduceMul→xB,reduceSub→xC,reduceEqDiff→xD,reduceBEq→xE,reduceLeDiff→xF,reduceLT→xG
open Int renaming reduceAdd→xH,reduceMul→xI,reduceSub→xJ,reduceLT→xK,reduceLE→xL,reduceToNat→xM,reduceEq→xN,reduceNe→xO,reduceBEq→xP,reduceBNe→xQ
set_option linter.unusedVariables false
set_option linter.unusedSectionVars false
set_option linter.unusedSimpArgs false
set_option maxRecDepth 8000
namespace Go.Proofs.YtkjpgikjcfhckaaGreat
open Go Go.Ev Go.Pl Go.Ma
section
variable {W:World} {H g:Hp} {l P:List Hp} {k cap n b:Nat} {a:Option Addr} {sh:Sh} {X:Wo} {pv:Nat→Value} {c:Int}
theorem cloneN {T:TypeId} {K bytes:Nat} {vs:List Value} {z0:Array Value} (Q:Value→Hp→Prop) (hG:Rw T K a n cap vs g) (h1:∀ v∈vs,v.oneCell'=true) (hz0:z0.size=K) (hn:n≤1000000000) (hb:bytes≤128) (hS:Sep (sg b (.cells #[] T (0,0)) :: g :: l) H)
  (hQ:∀ a' cap' g' H',Rw T K a' n cap' vs g'→Sep (g' :: g :: l) H'→Q (.slice a' (0+n) cap') H') :
  onSome (rds H a (n*K)) fun new=>if 0+n≤0 then stow H (some ⟨b,0,none⟩) 0 new fun H'=>Q (.slice (some ⟨b,0,none⟩) (0+n) 0) H'
  else Builtin.nextslicecap (0+n) 0*bytes≤281474976710656∧0+n≤9223372036854775807∧onSome (rds H (some ⟨b,0,none⟩) 0) fun old=>allCap (0+n) fun cap=>newB W H fun b=>Q (.slice (some ⟨b,0,none⟩) (0+n) cap) (upd H b (.cells (old ++ new ++ Builtin.zeroCells z0 (cap - (0+n))) T (0,0))):=by
 rw[Rw.rds hG hS.p1.head,onSome_mk]
 have h0:Rw T K (some ⟨b,0,none⟩) 0 0 [] (sg b (.cells #[] T (0,0))):=⟨by simp,.inr ⟨b,#[],rfl,rfl,by simp,by simp,by simp⟩⟩
 have:=growN (W:=W) (m:=n) (bytes:=bytes) (z0:=z0) (Q:=Q) h0 (new:=vs.toArray) (by simpa using hG.1) (by rw[Array.all_eq_true_iff_forall_mem];intro v hv;exact h1 v (by simpa using hv)) hz0 (by omega) hb hS fun a' cap' g' H' h1 h2=>hQ a' cap' g' H' (by rw[Nat.zero_add]at h1;simpa using h1) h2
 rw[Nat.zero_mul]at this
 exact this
theorem ev_cells {l:List Evt}:∀ v∈l.flatMap evV,v.oneCell'=true:=by
 intro v hv
 obtain⟨e,-,he⟩:=List.mem_flatMap.1 hv
 simp [evV]at he
 rcases he with rfl | rfl | rfl | rfl | rfl | rfl | rfl | rfl<;>rfl
theorem c_clonee {tr:List Evt} (hE:EvR a cap tr g) (hn:tr.length≤1000000000) (hS:Sep (g :: l) H) :
  CallP Tryz.prog W 60 #[.slice a tr.length cap] H fun v H'=>∃ a' cap' g',v=.slice a' tr.length cap'∧EvR a' cap' tr g'∧Sep (g' :: g :: l) H':=by
 refine CallP.of mixed Tryz.func60 tr60 (by show 1≤_;decide) fun W _=>?_
 have hE0:=hE
 obtain⟨hl,⟨rfl,h0,rfl,rfl⟩|⟨z,c,rfl,rfl,h4,h5,h3⟩⟩:=hE
 ·have:tr = []:=List.eq_nil_of_length_eq_zero h0
  subst this
  simp only[↓DD,UU,↓reduceIte,xE]
  exact⟨none,0,_,rfl,hE0,hS.nothing⟩
 ·simp only[↓DD,UU,↓reduceIte,xE]
  refine newB_intro fun b hb f1 f2=>?_
  have hS:=hS.new f1 (.cells #[] 58 (0,0))
  simp only[↓DD,UU,xB,xE]
  refine cloneN (bytes:=64) (z0:=#[.int .i64 0,.int .i64 0,.int .i64 0,.int .i64 0,.int .i64 0,.int .i64 0,.int .i64 0,.int .i64 0]) (fun v H'=>rwp _ _ _ _ (putD _ _ v) H') hE0 ev_cells rfl hn (by decide) hS ?_
  intro a' cap' g' H' h1 hS
  simp only[↓DD,UU]
  exact⟨a',cap',g',rfl,h1,hS⟩
theorem c_trace (hn:X.tr.length≤1000000000) (hP:WoP k pv X P) (hS:Sep (P ++ l) H) :
  CallP Tryz.prog W 20 #[.pointer (some ⟨k,0,none⟩)] H fun v H'=>∃ a cap g,v=.slice a X.tr.length cap∧EvR a cap X.tr g∧Sep (g :: (P ++ l)) H':=by
 refine CallP.of mixed Tryz.func20 tr20 (by show 1≤_;decide) fun W _=>?_
 obtain⟨b,s,kc,C,ta,tc,tg,sa,sc,sg',g,hC,ht,hs,hk⟩:=hP
 have hS:Ev.Sep (woB k (woC X.s b kc C ta X.tr.length tc sa X.sp.length sc) :: wB b s X.w :: wR s X.w :: kcB kc C pv :: tg :: sg' :: (famL C g ++ l)) H:=hS
 have hk1:=hS.look
 have r0:=fun o=>rd_of hk1 o
 simp only[r0,woC,↓DD,UU,↓reduceIte,xE]
 refine callT_of (c_clonee ht hn (hS.sel 5 [4,0,1,2,3] (by decide) (by decide))) ?_
 rintro v H' ⟨a,cap,g',rfl,hE,hS⟩
 simp only[↓DD,UU]
 exact⟨a,cap,g',rfl,hE,hS.sel 6 [0,2,3,4,5,1] (by decide) (by decide)⟩
theorem c_wordsW (hX:X.wf) (hP:WoP k pv X P) (hS:Sep (P ++ l) H) :
  CallP Tryz.prog W 16 #[.pointer (some ⟨k,0,none⟩)] H fun v H'=>∃ a cap g,v=.slice a X.w.n cap∧RowU g a X.w.n X.w.ws∧Sep (g :: (P ++ l)) H':=by
 refine CallP.of mixed Tryz.func16 tr16 (by show 1≤_;decide) fun W _=>?_
 obtain⟨b,s,kc,C,ta,tc,tg,sa,sc,sg',g,hC,ht,hs,hk⟩:=hP
 have hS:Ev.Sep (woB k (woC X.s b kc C ta X.tr.length tc sa X.sp.length sc) :: wB b s X.w :: wR s X.w :: kcB kc C pv :: tg :: sg' :: (famL C g ++ l)) H:=hS
 have hk1:=hS.look
 have r0:=fun o=>rd_of hk1 o
 have hn:=X.n_le hX
 simp only[r0,woC,↓DD,UU,↓reduceIte,xE]
 refine callT_of (c_all hn (hS.sel 3 [1,2,0] (by decide) (by decide))) ?_
 rintro v H' ⟨a,cap,g',rfl,hE,hS⟩
 simp only[↓DD,UU]
 exact⟨a,cap,g',rfl,hE,hS.sel 4 [0,3,1,2] (by decide) (by decide)⟩
theorem c_wclient (hP:WoP k pv X P) (hS:Sep (P ++ l) H) :
  CallP Tryz.prog W 65 #[.pointer (some ⟨k,0,none⟩),.int .i64 c] H fun v H'=>v=(if 0≤c∧c<X.s.c then pv c.toNat else .pointer none)∧Sep (P ++ l) H':=by
 refine CallP.of mixed Tryz.func65 tr65 (by show 2≤_;decide) fun W _=>?_
 have hP0:=hP
 obtain⟨b,s,kc,C,ta,tc,tg,sa,sc,sg',g,hC,ht,hs,hk⟩:=hP
 have hS0:=hS
 have hS:Ev.Sep (woB k (woC X.s b kc C ta X.tr.length tc sa X.sp.length sc) :: wB b s X.w :: wR s X.w :: kcB kc C pv :: tg :: sg' :: (famL C g ++ l)) H:=hS
 have hk1:=hS.look
 have r0:=fun o=>rd_of hk1 o
 have hkc:=hS.lk 3 rfl
 have rk:=fun o=>rd_of hkc o
 by_cases h0:c<0
 ·rw[if_neg (by omega)]
  have g0:=decide_eq_true h0
  simp only[g0,woC,↓DD,UU,↓reduceIte,xA,xE]
  first | exact hS0 | exact⟨rfl,hS0⟩
 have g0:=decide_eq_false h0
 by_cases h1:c<X.s.c
 ·rw[if_pos ⟨by omega,h1⟩]
  have g1:decide ((C:Int)≤c)=false:=decide_eq_false (by omega)
  have va:=vrow_at (f:=pv) (n:=C) (i:=c.toNat) (by omega)
  have c0:0≤c:=by omega
  have c1:c<(C:Int):=by omega
  simp only[r0,g0,g1,rk,va,c0,c1,woC,↓DD,UU,↓reduceIte,xA,xE]
  first | exact hS0 | exact⟨rfl,hS0⟩
 ·rw[if_neg (by omega)]
  have g1:decide ((C:Int)≤c)=true:=decide_eq_true (by omega)
  simp only[r0,g0,g1,woC,↓DD,UU,↓reduceIte,xA,xE]
  first | exact hS0 | exact⟨rfl,hS0⟩
theorem c_wworld (hm:may sh.p sh.c sh.m=true) (hn:(n:Int)=words sh.p sh.c sh.m) (hS:Sep l H) :
  CallP Tryz.prog W 37 #[.agg #[.int .i64 sh.p,.int .i64 sh.c,.int .i64 sh.m]] H fun v H'=>∃ k pv P,v=.tuple #[.pointer (some ⟨k,0,none⟩),.int .i64 0]∧WoP k pv (Wo.new sh (Wd.zero n)) P∧Sep (P ++ l) H':=by
 refine CallP.of mixed Tryz.func37 tr37 (by show 1≤_;decide) fun W _=>?_
 have hb:=(may_iff _ _ _).1 hm
 have hml:=mul_bd sh.c sh.m (by omega) hb.2.2.2.1 hb.2.2.2.2.1 hb.2.2.2.2.2
 have hn2:n≤2000:=by unfold words at hn;rw[if_pos hm]at hn;omega
 simp only[↓DD,UU]
 refine newB_intro fun x hx f1 f2=>?_
 have hS:=(hS.new f1 (.cells #[.int .i64 sh.p,.int .i64 sh.c,.int .i64 sh.m] 23 (0,0)))
 have hx1:=hS.look
 have r0:=fun o=>rd_of hx1 o
 have r1:=fun o n=>rdn_of hx1 o n
 simp only[r1,v_may,hm,↓DD,UU,↓reduceIte,xA,xC,xE,xF]
 refine draw_intro [(x,#[.int .i64 sh.p,.int .i64 sh.c,.int .i64 sh.m],[])] (by simp only[hx1,↓DD,UU]) ?_
 have c0:(0:Int)≤sh.c:=by omega
 have c1:(8:Int)*sh.c≤281474976710656:=by omega
 have c2:sh.c≤9223372036854775807:=by omega
 simp only[hx1,r0,r1,v_words,← hn,c0,c1,c2,Int.le_refl,↓e_dalt2,↓DD,UU,↓reduceIte,xA,xC,xE,xF]
 have hC:((sh.c.toNat:Nat):Int)=sh.c:=by omega
 have fin:∀ (y b s kc:Nat) (H2:Hp),Sep (woB y (woC sh b kc sh.c.toNat none 0 0 none 0 0) :: wB b s (Wd.zero n) :: wR s (Wd.zero n) :: sg kc (.cells (Array.replicate sh.c.toNat (.pointer none)) 97 (0,0)) :: l) H2 →
   ∃ k pv P,Value.tuple #[.pointer (some ⟨y,0,none⟩),.int .i64 0] = .tuple #[.pointer (some ⟨k,0,none⟩),.int .i64 0]∧WoP k pv (Wo.new sh (Wd.zero n)) P∧Sep (P ++ l) H2:=fun y b s kc H2 hS=>by
  rw[vrow_same]at hS
  refine⟨y,fun _=>.pointer none,_,rfl,.mk b s kc sh.c.toNat none 0 _ none 0 _ (fun _=>[]) hC (Rw.none _ _) (Rw.none _ _) (fun d hd=>.no),?_⟩
  have e:famL sh.c.toNat (fun _=>([]:List Hp)) = []:=by unfold famL;simp
  rw[e]
  exact hS.nothing.nothing.sel 6 [2,3,4,5,0,1] (by decide) (by decide)
 refine⟨⟨?_,?_⟩,?_⟩
 ·refine callT_of (c_wnew n hn2 hS) ?_
  rintro v H' ⟨b,s,rfl,hS⟩
  have hx1:=hS.lk 2 rfl
  simp only[hx1,c0,c1,c2,Int.le_refl,↓DD,UU,xE]
  refine newB_intro fun kc hkc f3 f4=>?_
  have nxc:(x=kc)=False:=f3 x (by rw[hx1];rfl)
  have hS:=hS.new f3 (.cells (Array.replicate sh.c.toNat (.pointer none)) 97 (0,0))
  simp only[hx1,nxc,↓DD,UU,↓reduceIte,xA,xE]
  refine newB_intro fun y hy f5 f6=>?_
  have hx1:=hS.lk 3 rfl
  have nxy:(x=y)=False:=f5 x (by rw[hx1];rfl)
  have hS:=hS.new f5 (.cells (woC sh b kc sh.c.toNat none 0 0 none 0 0) 96 (0,0))
  simp only[hx1,nxy,↓DD,UU,↓reduceIte,xE]
  exact fin y b s kc _ (hS.sel 5 [0,2,3,1] (by decide) (by decide))
 ·refine newB_intro fun kc hkc f3 f4=>?_
  have hx1:=hS.look
  have nxc:(x=kc)=False:=f3 x (by rw[hx1];rfl)
  have hS:=hS.new f3 (.cells (Array.replicate sh.c.toNat (.pointer none)) 97 (0,0))
  simp only[hx1,nxc,↓DD,UU,↓reduceIte,xE]
  refine callT_of (c_wnew n hn2 hS) ?_
  rintro v H' ⟨b,s,rfl,hS⟩
  have hx1:=hS.lk 3 rfl
  simp only[hx1,↓DD,UU,xA,xE]
  refine newB_intro fun y hy f5 f6=>?_
  have nxy:(x=y)=False:=f5 x (by rw[hx1];rfl)
  have hS:=hS.new f5 (.cells (woC sh b kc sh.c.toNat none 0 0 none 0 0) 96 (0,0))
  simp only[hx1,nxy,↓DD,UU,↓reduceIte,xE]
  exact fin y b s kc _ (hS.sel 5 [0,1,2,3] (by decide) (by decide))
 ·refine newB_intro fun kc hkc f3 f4=>?_
  have hx1:=hS.look
  have nxc:(x=kc)=False:=f3 x (by rw[hx1];rfl)
  have hS:=hS.new f3 (.cells (Array.replicate sh.c.toNat (.pointer none)) 97 (0,0))
  simp only[hx1,nxc,v_words,← hn,↓DD,UU,↓reduceIte,xE]
  refine callT_of (c_wnew n hn2 hS) ?_
  rintro v H' ⟨b,s,rfl,hS⟩
  have hx1:=hS.lk 3 rfl
  simp only[hx1,↓DD,UU,xA,xE]
  refine newB_intro fun y hy f5 f6=>?_
  have nxy:(x=y)=False:=f5 x (by rw[hx1];rfl)
  have hS:=hS.new f5 (.cells (woC sh b kc sh.c.toNat none 0 0 none 0 0) 96 (0,0))
  simp only[hx1,nxy,↓DD,UU,↓reduceIte,xE]
  exact fin y b s kc _ (hS.sel 5 [0,1,2,3] (by decide) (by decide))
theorem c_mdnew {m:Int} (h0:0≤m) (h1:m≤2000) (hS:Sep l H):CallP Tryz.prog W 79 #[.int .i64 m] H fun v H'=>∃ b,v=.pointer (some ⟨b,0,none⟩)∧Sep l H':=by
 refine CallP.of mixed Tryz.func79 tr79 (by show 1≤_;decide) fun W _=>?_
 have g1:decide (m<0)=false:=decide_eq_false (by omega)
 have g2:decide ((2000:Int)<m)=false:=decide_eq_false (by omega)
 have a2:(8:Int)*m≤281474976710656:=by omega
 have a3:m≤9223372036854775807:=by omega
 simp only[g1,g2,h0,a2,a3,Int.le_refl,↓DD,UU,xE]
 refine newB_intro fun x hx f1 f2=>?_
 have hS:=hS.new f1 (.cells (Array.replicate m.toNat (.int .u64 0)) 50 (0,0))
 simp only[↓DD,UU]
 refine newB_intro fun y hy f3 f4=>?_
 have hS:=hS.new f3 (.cells #[.slice (some ⟨x,0,none⟩) m.toNat m.toNat,.int .i64 0,.int .i64 0,.int .i64 0,.int .i64 0,.int .u64 0,.int .u64 0,.bool false,.slice none 0 0] 166 (0,0))
 simp only[↓DD,UU]
 exact⟨y,rfl,hS.tail.tail⟩
theorem c_refworld (hm:may sh.p sh.c sh.m=true) (hS:Sep l H) :
  CallP Tryz.prog W 38 #[.agg #[.int .i64 sh.p,.int .i64 sh.c,.int .i64 sh.m]] H fun v H'=>∃ k,v=.tuple #[.pointer (some ⟨k,0,none⟩),.int .i64 0]∧Sep l H':=by
 refine CallP.of mixed Tryz.func38 tr38 (by show 1≤_;decide) fun W _=>?_
 have hb:=(may_iff _ _ _).1 hm
 have hml:=mul_bd sh.c sh.m (by omega) hb.2.2.2.1 hb.2.2.2.2.1 hb.2.2.2.2.2
 have hw:0≤words sh.p sh.c sh.m∧words sh.p sh.c sh.m≤2000:=by unfold words;rw[if_pos hm];omega
 simp only[↓DD,UU]
 refine newB_intro fun x hx f1 f2=>?_
 have hS:=(hS.new f1 (.cells #[.int .i64 sh.p,.int .i64 sh.c,.int .i64 sh.m] 23 (0,0)))
 have hx1:=hS.look
 have r0:=fun o=>rd_of hx1 o
 have r1:=fun o n=>rdn_of hx1 o n
 simp only[r1,u_may,hm,↓DD,UU,↓reduceIte,xA,xC,xE,xF]
 refine draw_intro [(x,#[.int .i64 sh.p,.int .i64 sh.c,.int .i64 sh.m],[])] (by simp only[hx1,↓DD,UU]) ?_
 have c0:(0:Int)≤sh.c:=by omega
 have c1:(8:Int)*sh.c≤281474976710656:=by omega
 have c2:sh.c≤9223372036854775807:=by omega
 simp only[hx1,r0,r1,u_words,c0,c1,c2,Int.le_refl,↓e_dalt2,↓DD,UU,↓reduceIte,xA,xC,xE,xF]
 refine⟨⟨?_,?_⟩,?_⟩
 ·refine callT_of (c_mdnew hw.1 hw.2 hS) ?_
  rintro v H' ⟨b,rfl,hS⟩
  have hx1:=hS.look
  simp only[hx1,c0,c1,c2,Int.le_refl,↓DD,UU,xE]
  refine newB_intro fun kc hkc f3 f4=>?_
  have nxc:(x=kc)=False:=f3 x (by rw[hx1];rfl)
  have hS:=(hS.new f3 (.cells (Array.replicate sh.c.toNat (.pointer none)) 280 (0,0))).tail
  simp only[hx1,nxc,↓DD,UU,↓reduceIte,xA,xE]
  refine newB_intro fun y hy f5 f6=>?_
  have hx1:=hS.look
  have nxy:(x=y)=False:=f5 x (by rw[hx1];rfl)
  simp only[hx1,nxy,↓DD,UU,↓reduceIte,xE]
  exact⟨y,rfl,((hS.new f5 _).tail).tail⟩
 ·refine newB_intro fun kc hkc f3 f4=>?_
  have hx1:=hS.look
  have nxc:(x=kc)=False:=f3 x (by rw[hx1];rfl)
  have hS:=(hS.new f3 (.cells (Array.replicate sh.c.toNat (.pointer none)) 280 (0,0))).tail
  simp only[hx1,nxc,↓DD,UU,↓reduceIte,xE]
  refine callT_of (c_mdnew hw.1 hw.2 hS) ?_
  rintro v H' ⟨b,rfl,hS⟩
  have hx1:=hS.look
  simp only[hx1,↓DD,UU,xA,xE]
  refine newB_intro fun y hy f5 f6=>?_
  have nxy:(x=y)=False:=f5 x (by rw[hx1];rfl)
  simp only[hx1,nxy,↓DD,UU,↓reduceIte,xE]
  exact⟨y,rfl,(hS.new f5 _).tail.tail⟩
 ·refine newB_intro fun kc hkc f3 f4=>?_
  have hx1:=hS.look
  have nxc:(x=kc)=False:=f3 x (by rw[hx1];rfl)
  have hS:=(hS.new f3 (.cells (Array.replicate sh.c.toNat (.pointer none)) 280 (0,0))).tail
  simp only[hx1,nxc,u_words,↓DD,UU,↓reduceIte,xE]
  refine callT_of (c_mdnew hw.1 hw.2 hS) ?_
  rintro v H' ⟨b,rfl,hS⟩
  have hx1:=hS.look
  simp only[hx1,↓DD,UU,xA,xE]
  refine newB_intro fun y hy f5 f6=>?_
  have nxy:(x=y)=False:=f5 x (by rw[hx1];rfl)
  simp only[hx1,nxy,↓DD,UU,↓reduceIte,xE]
  exact⟨y,rfl,(hS.new f5 _).tail.tail⟩
theorem c_begin (hm:may sh.p sh.c sh.m=true) (hn:(n:Int)=words sh.p sh.c sh.m) (hS:Sep l H) :
  CallP Tryz.prog W 12 #[.agg #[.int .i64 sh.p,.int .i64 sh.c,.int .i64 sh.m]] H fun v H'=>∃ k j pv P,v=.tuple #[.pointer (some ⟨k,0,none⟩),.pointer (some ⟨j,0,none⟩)]∧WoP k pv (Wo.new sh (Wd.zero n)) P∧Sep (P ++ l) H':=by
 refine CallP.of mixed Tryz.func12 tr12 (by show 1≤_;decide) fun W _=>?_
 simp only[↓DD,UU]
 refine newB_intro fun x hx f1 f2=>?_
 have hS:=(hS.new f1 (.cells #[.int .i64 sh.p,.int .i64 sh.c,.int .i64 sh.m] 23 (0,0)))
 have hx1:=hS.look
 have r1:=fun o n=>rdn_of hx1 o n
 simp only[r1,↓DD,UU,↓reduceIte,xA,xC,xE,xF]
 refine callT_of (c_wworld hm hn hS) ?_
 rintro v H' ⟨k,pv,P,rfl,hP,hS⟩
 have hx1:H' x=_:=hS.outL.look
 have r1:=fun o n=>rdn_of hx1 o n
 simp only[r1,↓DD,UU,↓reduceIte,xA,xC,xE,xF]
 refine callT_of (c_refworld hm hS) ?_
 rintro v H' ⟨j,rfl,hS⟩
 simp only[↓DD,UU,↓reduceIte,xE]
 exact⟨k,j,pv,P,rfl,hP,hS.outL.tail⟩
theorem c_begin_no (hm:may sh.p sh.c sh.m=false) (hS:Sep l H) :
  CallP Tryz.prog W 12 #[.agg #[.int .i64 sh.p,.int .i64 sh.c,.int .i64 sh.m]] H fun v H'=>v=.tuple #[.pointer none,.pointer none]∧Sep l H':=by
 have cw:∀ {W:World} {H:Hp} {l:List Hp},Sep l H→CallP Tryz.prog W 37 #[.agg #[.int .i64 sh.p,.int .i64 sh.c,.int .i64 sh.m]] H fun v H'=>v=.tuple #[.pointer none,.int .i64 1]∧Sep l H':=fun hS=>by
  refine CallP.of mixed Tryz.func37 tr37 (by show 1≤_;decide) fun W _=>?_
  simp only[↓DD,UU]
  refine newB_intro fun x hx f1 f2=>?_
  have hS:=(hS.new f1 (.cells #[.int .i64 sh.p,.int .i64 sh.c,.int .i64 sh.m] 23 (0,0)))
  have hx1:=hS.look
  have r1:=fun o n=>rdn_of hx1 o n
  simp only[r1,v_may,hm,↓DD,UU,↓reduceIte,xA,xC,xE,xF]
  exact hS.tail
 have cr:∀ {W:World} {H:Hp} {l:List Hp},Sep l H→CallP Tryz.prog W 38 #[.agg #[.int .i64 sh.p,.int .i64 sh.c,.int .i64 sh.m]] H fun v H'=>v=.tuple #[.pointer none,.int .i64 1]∧Sep l H':=fun hS=>by
  refine CallP.of mixed Tryz.func38 tr38 (by show 1≤_;decide) fun W _=>?_
  simp only[↓DD,UU]
  refine newB_intro fun x hx f1 f2=>?_
  have hS:=(hS.new f1 (.cells #[.int .i64 sh.p,.int .i64 sh.c,.int .i64 sh.m] 23 (0,0)))
  have hx1:=hS.look
  have r1:=fun o n=>rdn_of hx1 o n
  simp only[r1,u_may,hm,↓DD,UU,↓reduceIte,xA,xC,xE,xF]
  exact hS.tail
 refine CallP.of mixed Tryz.func12 tr12 (by show 1≤_;decide) fun W _=>?_
 simp only[↓DD,UU]
 refine newB_intro fun x hx f1 f2=>?_
 have hS:=(hS.new f1 (.cells #[.int .i64 sh.p,.int .i64 sh.c,.int .i64 sh.m] 23 (0,0)))
 have hx1:=hS.look
 have r1:=fun o n=>rdn_of hx1 o n
 simp only[r1,↓DD,UU,↓reduceIte,xA,xC,xE,xF]
 refine callT_of (cw hS) ?_
 rintro v H' ⟨rfl,hS⟩
 have hx1:=hS.look
 have r1:=fun o n=>rdn_of hx1 o n
 simp only[r1,↓DD,UU,↓reduceIte,xA,xC,xE,xF]
 refine callT_of (cr hS) ?_
 rintro v H' ⟨rfl,hS⟩
 simp only[↓DD,UU,↓reduceIte,xE]
 exact hS.tail
end
end Go.Proofs.YtkjpgikjcfhckaaGreat
