/-
 TopHeld, walked: how many words each one holds. Conditions: none.
-/
import Derived.Test.YtkjpgikjcfhckaaGreatCodeX
import Derived.Test.YtkjpgikjcfhckaaGreatAskX
import Derived.Test.YtkjpgikjcfhckaaGreatRowA
import Derived.Test.YtkjpgikjcfhckaaGreatAwX
import Derived.Test.YtkjpgikjcfhckaaGreatMaT
open Nat renaming reduceAdd→xA,reduceMul→xB,reduceSub→xC,reduceEqDiff→xD,reduceBEq→xE,reduceLeDiff→xF,reduceLT→xG
open Int renaming reduceAdd→xH,reduceMul→xI,reduceSub→xJ,reduceLT→xK,reduceLE→xL,reduceToNat→xM,reduceEq→xN,reduceNe→xO,reduceBEq→xP,reduceBNe→xQ
set_option linter.unusedVariables false
set_option linter.unusedSectionVars false
set_option linter.unusedSimpArgs false
set_option maxRecDepth 8000
namespace Go.Ma
open Go.Pl Ow
theorem Kt.hl_bd {s:Sh} {ws:Nat→Int} (hm:may s.p s.c s.m=true) (hB:Bs s ws) {ad:Int} (a0:0≤ad) (a1:ad<s.p*64) (h:(Kt.hl s ws ad).2=true):0≤(Kt.hl s ws ad).1∧(Kt.hl s ws ad).1<s.c:=by
 revert h
 unfold Kt.hl
 obtain⟨ok,⟨g,gk,c,c0,c1,g2,g3⟩|⟨g,g2⟩|⟨g,k,g1,g2,g3⟩⟩:=Kt.pg_cn hm hB (q:=ad / 64) (by omega) (by omega)
 ·rw[if_pos g]
  intro _
  show 0≤Cn.who s ws (ad / 64)∧Cn.who s ws (ad / 64)<s.c
  rw[g2];exact⟨c0,c1⟩
 ·rw[if_neg (by rw[g];decide),if_neg (by omega)]
  intro h;cases h
 ·rw[if_neg (by rw[g];decide),if_pos g1,g2]
  have z:=Kt.sup_size g3
  have hib:0≤ad % 64 / size k∧ad % 64 / size k<slots k:=by
   rcases (by have:=g3.bd;omega:k=0∨k=1∨k=2∨k=3) with h | h | h | h<;>subst h
   ·show 0≤ad % 64 / 4∧ad % 64 / 4<16;omega
   ·show 0≤ad % 64 / 8∧ad % 64 / 8<8;omega
   ·show 0≤ad % 64 / 16∧ad % 64 / 16<4;omega
   ·show 0≤ad % 64 / 32∧ad % 64 / 32<2;omega
  rcases Kt.sl_cn hm hB (by omega) (by omega) g3 hib.1 hib.2 with⟨h,-⟩|⟨h,-⟩|⟨h,c,c0,c1,h3,-⟩
  ·rw[if_neg (by omega)];intro h;cases h
  ·rw[if_neg (by omega)];intro h;cases h
  ·rw[if_pos h];intro _
   show 0≤slA _∧slA _<s.c
   rw[h3];exact⟨c0,c1⟩
end Go.Ma
namespace Go.Proofs.YtkjpgikjcfhckaaGreat
open Go Go.Ev Go.Pl Go.Ma
section
variable {W:World} {H g:Hp} {l P:List Hp} {k cap n b:Nat} {a:Option Addr} {sh:Sh} {X:Wo} {pv:Nat→Value} {c:Int} {o:Go.Ma.Op}
theorem c_wstatW (hX:X.wf) (hP:WoP k pv X P) (c0:0≤c) (c1:c<X.s.c) (hS:Sep (P ++ l) H) :
  CallP Tryz.prog W 36 #[.pointer (some ⟨k,0,none⟩),.int .i64 c] H fun v H'=>v=.int .i64 (X.stk c)∧Sep (P ++ l) H':=by
 obtain⟨b,s,kc,C,ta,tc,tg,sa,sc,sg',g,hC,ht,hs,hk⟩:=hP
 have h1:¬ X.sat c<0:=by unfold Wo.sat;rw[status_yes hX.m c0 c1];omega
 have h2:=Wo.sat_in hX h1
 unfold Wo.sat at h2
 exact c_wstat hX.w (by omega) hS
def hdB (sh:Sh) (y:Nat) (own:Int→Int):Hp:=sg y (.cells (irow sh.c.toNat fun d=>own (d:Int)) 3 (0,0))
theorem hd_set {own:Int→Int} {C:Nat} {c v:Int} (h:0≤c):(irow C fun d=>own (d:Int)).setIfInBounds c.toNat (.int .i64 v)=irow C fun d=>if(d:Int)=c then v else own (d:Int):=by
 rw[irow_set]
 congr 1
 funext j
 by_cases e:(j:Int)=c
 ·rw[if_pos e,if_pos (by omega)]
 ·rw[if_neg e,if_neg (by omega)]
def thG (a:Option Addr) (n cap k x:Nat) (i:Nat) (F':Fr):Prop:=gt F' 7=.int .i64 (i:Int)∧gt F' 1=.slice a n cap∧gt F' 2=.pointer (some ⟨x,0,none⟩)∧gt F' 5=.pointer (some ⟨k,0,none⟩)
def shB (sh:Sh) (x:Nat):Hp:=sg x (.cells #[.int .i64 sh.p,.int .i64 sh.c,.int .i64 sh.m] 23 (0,0))
def thI (sh:Sh) (a:Option Addr) (n cap k x:Nat) (L:List Hp) (F':Fr) (H':Hp):Prop:=
 ∃ (i:Nat) (X:Wo) (pv:Nat→Value) (P:List Hp),i≤n∧thG a n cap k x i F' ∧
  (Ti X∧X.s=sh∧X.tr.length≤3*i∧X.sp.length≤i)∧WoP k pv X P∧Sep (P ++ (shB sh x :: L)) H'
def thA (sh:Sh) (ws:Nat→Int) (N:Nat) (a:Option Addr) (n cap k x y:Nat) (i:Nat) (a3:Option Addr) (cap3:Nat) (g3:Hp) (P L:List Hp) (F':Fr) (H':Hp):Prop:=
 ∃ q:Nat,(q:Int)≤sh.p*64∧thG a n cap k x i F'∧(gt F' 10=.int .i64 (q:Int)∧gt F' 8=.slice (some ⟨y,0,none⟩) sh.c.toNat sh.c.toNat∧gt F' 9=.slice a3 N cap3) ∧
  Sep (g3 :: hdB sh y (fun c=>Kt.sm (Kt.one c sh ws) q) :: (P ++ (shB sh x :: L))) H'
def thC (sh:Sh) (a:Option Addr) (n cap k x y:Nat) (i:Nat) (own:Int→Int) (P L:List Hp) (F':Fr) (H':Hp):Prop:=
 ∃ c:Nat,(c:Int)≤sh.c∧thG a n cap k x i F'∧(gt F' 13=.int .i64 (c:Int)∧gt F' 8=.slice (some ⟨y,0,none⟩) sh.c.toNat sh.c.toNat) ∧
  Sep (P ++ (hdB sh y own :: shB sh x :: L)) H'
set_option maxHeartbeats 2000000 in
theorem c_topheld {ch:Nat→Chr} (hn:n≤9223372036854775807) (hr:RowC g a n ch) (hS:Sep (g :: l) H) :
  CallP Tryz.prog W 9 #[.agg #[.int .i64 sh.p,.int .i64 sh.c,.int .i64 sh.m],.slice a n cap] H fun v H'=>v=.bool true∧Sep (g :: l) H':=by
 refine CallP.of mixed Tryz.func9 tr9 (by show 2≤_;decide) fun W _=>?_
 simp only[↓DD,UU,xA]
 refine newB_intro fun x hx f1 f2=>?_
 have hS:=(hS.new f1 (.cells #[.int .i64 sh.p,.int .i64 sh.c,.int .i64 sh.m] 23 (0,0)))
 simp only[↓DD,UU,xA]
 refine callT_of (c_awakeT hS) ?_
 rintro v H' ⟨rfl,hS⟩
 simp only[↓DD,UU,xA,xE,eq_self]
 refine callT_of (c_few 1000 hS) ?_
 rintro v H' ⟨rfl,hS⟩
 have hx1:=hS.look
 have r1:=fun o n=>rdn_of hx1 o n
 have r0:=fun o=>rd_of hx1 o
 by_cases hle:n≤1000
 rotate_left
 ·have g1:decide ((n:Int)≤1000)=false:=decide_eq_false (by omega)
  simp only[g1,↓DD,UU,xA,xE,eq_self]
  exact hS.tail
 have g1:decide ((n:Int)≤1000)=true:=decide_eq_true (by omega)
 by_cases hp6:sh.p≤6
 rotate_left
 ·have g2:decide (6<sh.p)=true:=decide_eq_true (by omega)
  simp only[g1,g2,r0,↓DD,UU,xA,xE,eq_self]
  exact hS.tail
 have g2:decide (6<sh.p)=false:=decide_eq_false (by omega)
 simp only[g1,g2,r0,r1,↓DD,UU,↓reduceIte,xA,xC,xE,xF,eq_self]
 cases hm:may sh.p sh.c sh.m
 ·refine callT_of (c_begin_no hm hS) ?_
  rintro v H' ⟨rfl,hS⟩
  simp only[↓DD,UU,↓reduceIte,xA,xE,eq_self]
  exact hS.tail
 have hb:=(may_iff _ _ _).1 hm
 obtain⟨N,hN⟩:∃ N:Nat,(N:Int)=words sh.p sh.c sh.m:=⟨(words sh.p sh.c sh.m).toNat,by have:=words_le hm;omega⟩
 refine callT_of (c_begin hm hN hS) ?_
 rintro v H' ⟨k,j0,pv,P,rfl,hP,hS⟩
 simp only[↓DD,UU,↓reduceIte,xA,xE,eq_self]
 have hw:(Wo.new sh (Wd.zero N)).wf:=Wo.new_wf hm hN
 have hti:Ti (Wo.new sh (Wd.zero N)):=Ti.new hm hw.w fun _=>rfl
 refine loop_intro (thI sh a n cap k x (g :: l)) (fun F' _=>((n:Int) - iv (gt F' 7)).toNat) ⟨0,_,pv,P,by omega,⟨rfl,rfl,rfl,rfl⟩,⟨hti,rfl,by show 0≤_;omega,by show 0≤_;omega⟩,hP,hS⟩ ?_
 clear hS hx1 r1 r0 hP hti
 rintro F' H' ⟨i,X,pv,P,hi,⟨e7,e1,e2,e5⟩,⟨hT,hXs,tu,su⟩,hP,hS⟩
 by_cases hlt:i<n
 rotate_left
 ·have d1:decide ((i:Int)<(n:Int))=false:=decide_eq_false (by omega)
  simp only[e7,e1,d1,↓DD,UU,xE,eq_self]
  exact hS.dropF.tail
 have d1:decide ((i:Int)<(n:Int))=true:=decide_eq_true (by omega)
 have i0:(0:Int)≤(i:Int):=by omega
 have l1:(i:Int)<(n:Int):=by omega
 have wi:w64 ((i:Int)+1)=(i:Int)+1:=w64_eq (by omega) (by omega)
 obtain⟨b1,o1,ea1,hrd1⟩:=hr.at' hlt
 have hsub:=hS.dropF.sb g (by simp)
 have hrd:=rdn_sub hrd1 hsub
 have e1':gt F' 1=.slice (some ⟨b1,o1,none⟩) n cap:=by rw[e1,ea1]
 simp only[e7,e1',e5,i0,l1,hrd,Int.toNat_natCast,↓DD,UU,xE,eq_self]
 refine callT_of (c_choice _ hS) ?_
 rintro v H' ⟨rfl,hS⟩
 simp only[↓DD,UU,xE,eq_self]
 refine callT_of (c_wdo (x:=chq sh (ch i)) (bias:=(ch i).b) hT.wf hP (by rw[hXs];rfl) (by omega) (by omega) hS) ?_
 rintro v H' ⟨rfl,pv,P,hP,-,hS⟩
 have hfit:X.fit (chq sh (ch i)):=by rw[← hXs];exact chq_fit hT.wf (ch i)
 have hln:=Wo.act_len (W:=X) (x:=chq sh (ch i))
 have hs2:=(Wo.act_s (W:=X) (x:=chq sh (ch i))).trans hXs
 have hT2:=hT.act hfit
 clear hT
 generalize hA:X.act (chq sh (ch i))=A at *
 obtain⟨X2,er⟩:=A
 dsimp only at *
 by_cases hb11:(i:Int).tmod 11=0
 rotate_left
 ·have q11:((i:Int).tmod 11 != 0)=true:=bne_iff_ne.2 hb11
  simp only[e7,q11,wi,wrap_w64,↓DD,UU,xE,xN,ne_eq,eq_self]
  refine⟨⟨i+1,X2,pv,P,by omega,⟨by simp [gt],by simp [gt,e1],by simp [gt,e2],by simp [gt,e5]⟩,⟨hT2,hs2,by omega,by omega⟩,hP,hS⟩,?_⟩
  try rw[e7]
  show(_ - ((i:Int)+1)).toNat<(_ - (i:Int)).toNat
  omega
 have q11:((i:Int).tmod 11 != 0)=false:=by rw[hb11];rfl
 have hx1:H' x=some (.cells #[.int .i64 sh.p,.int .i64 sh.c,.int .i64 sh.m] 23 (0,0)):=hS.outL.look
 have r1:=fun o=>rd_of hx1 o
 have m0:(0:Int)≤sh.c:=by omega
 have m1:8*sh.c≤281474976710656:=by omega
 have m2:sh.c≤9223372036854775807:=by omega
 simp only[e7,e2,q11,r1,m0,m1,m2,Int.le_refl,↓DD,UU,xE,xN,ne_eq,eq_self]
 refine newB_intro fun y hy f3 f4=>?_
 have hS:=(hS.new f3 (.cells (Array.replicate sh.c.toNat (.int .i64 0)) 3 (0,0)))
 have e0:sg y (.cells (Array.replicate sh.c.toNat (.int .i64 0)) 3 (0,0))=hdB sh y fun _=>0:=by unfold hdB;rw[irow_zero]
 rw[e0]at hS
 simp only[e5,↓DD,UU,xE,eq_self]
 refine callT_of (c_wordsW hT2.wf hP (Sep.inL (L:=P) hS)) ?_
 rintro v H' ⟨a3,cap3,g3,rfl,hr3,hS⟩
 have hS:Sep (g3 :: hdB sh y (fun _=>0) :: (P ++ (shB sh x :: g :: l))) H':=(Sep.outL (L:=g3 :: P) hS).p1
 have nX:(X2.w.n:Int)=words sh.p sh.c sh.m:=by have:=hT2.wf.w.n;rw[hs2]at this;exact this
 simp only[↓DD,UU]
 refine loop_intro (thA sh X2.w.ws X2.w.n a n cap k x y i a3 cap3 g3 P (g :: l)) (fun F' _=>(sh.p*64 - iv (gt F' 10)).toNat) ⟨0,by omega,⟨by simp [gt,e7],by simp [gt,e1],by simp [gt,e2],by simp [gt,e5]⟩,⟨by simp [gt],by simp [gt],by simp [gt]⟩,hS⟩ ?_
 clear hS hx1 r1
 rintro F3 H' ⟨q,hq,⟨f7,f1',f2',f5⟩,⟨f10,f8,f9⟩,hS⟩
 have hx1:H' x=some (.cells #[.int .i64 sh.p,.int .i64 sh.c,.int .i64 sh.m] 23 (0,0)):=hS.tail.tail.outL.look
 have r1:=fun o=>rd_of hx1 o
 have rn:=fun o n=>rdn_of hx1 o n
 have w64p:w64 (sh.p*64)=sh.p*64:=w64_eq (by omega) (by omega)
 have wq:w64 ((q:Int)+1)=(q:Int)+1:=w64_eq (by omega) (by omega)
 by_cases hqt:(q:Int)<sh.p*64
 ·have d3:decide ((q:Int)<sh.p*64)=true:=decide_eq_true hqt
  simp only[f10,f2',f9,d3,r1,rn,w64p,wrap_w64,↓DD,UU,↓reduceIte,xA,xC,xE,xF,eq_self]
  refine callT_of (c_aholder q (by omega) hqt hm nX hr3 (fun i _=>hT2.wf.w.u i) hS) ?_
  rintro v H' ⟨rfl,hS⟩
  have hbd:=Kt.hl_bd (s:=sh) (ws:=X2.w.ws) (ad:=q) hm (by have:=hT2.bs;rw[hs2]at this;exact this) (by omega) hqt
  have hone:∀ c:Int,Kt.sm (Kt.one c sh X2.w.ws) (q+1)=Kt.sm (Kt.one c sh X2.w.ws) q+if(Kt.hl sh X2.w.ws q).2=true∧(Kt.hl sh X2.w.ws q).1=c then 1 else 0:=fun c=>rfl
  obtain⟨hc,hB⟩:∃ p,Kt.hl sh X2.w.ws q=p:=⟨_,rfl⟩
  rw[hB]at hbd hone
  simp only[hB]
  obtain⟨hc,hb3⟩:=hc
  cases hb3
  ·simp only[f10,wq,wrap_w64,↓DD,UU,↓reduceIte,xE,eq_self]
   refine⟨⟨q+1,by omega,⟨by simp [gt,f7],by simp [gt,f1'],by simp [gt,f2'],by simp [gt,f5]⟩,⟨by simp [gt],by simp [gt,f8],by simp [gt,f9]⟩,?_⟩,?_⟩
   ·have e:(fun c=>Kt.sm (Kt.one c sh X2.w.ws) (q+1))=fun c=>Kt.sm (Kt.one c sh X2.w.ws) q:=by
     funext c;rw[hone c,if_neg (by simp)];omega
    rw[e];exact hS
   ·try rw[f10]
    show(_ - ((q:Int)+1)).toNat<(_ - (q:Int)).toNat
    omega
  ·obtain⟨c0,c1⟩:=hbd rfl
   have c0:0≤hc:=c0
   have c1:hc<sh.c:=c1
   have c2:hc<((sh.c.toNat:Nat):Int):=by omega
   have ecc:((hc.toNat:Nat):Int)=hc:=by omega
   have hy1:=hS.lk 1 rfl
   have ry:=fun o=>rd_of hy1 o
   have hat:(irow sh.c.toNat fun d=>Kt.sm (Kt.one (d:Int) sh X2.w.ws) q)[hc.toNat]? = some (.int .i64 (Kt.sm (Kt.one hc sh X2.w.ws) q)):=by rw[irow_at (by omega),ecc]
   have hsb:0≤Kt.sm (Kt.one hc sh X2.w.ws) q∧Kt.sm (Kt.one hc sh X2.w.ws) q≤q:=by
    have h1:=Kt.sm_nn (f:=Kt.one hc sh X2.w.ws) (n:=q) fun j _=>by unfold Kt.one;split<;>omega
    have h2:=Kt.sm_le (f:=Kt.one hc sh X2.w.ws) (g:=fun _=>1) (n:=q) fun j _=>by unfold Kt.one;split<;>omega
    have h3:=Kt.sm_const (f:=fun _=>1) (b:=0) (n:=q) (c:=1) fun _ _=>rfl
    rw[Nat.zero_add]at h3
    have e:Kt.sm (fun _=>1) 0=0:=rfl
    omega
   have ww:w64 (Kt.sm (Kt.one hc sh X2.w.ws) q+1)=Kt.sm (Kt.one hc sh X2.w.ws) q+1:=w64_eq (by omega) (by omega)
   have hset:(irow sh.c.toNat fun d=>Kt.sm (Kt.one (d:Int) sh X2.w.ws) q).setIfInBounds hc.toNat (.int .i64 (Kt.sm (Kt.one hc sh X2.w.ws) q+1))=irow sh.c.toNat fun d=>Kt.sm (Kt.one (d:Int) sh X2.w.ws) (q+1):=by
    rw[hd_set (own:=fun d=>Kt.sm (Kt.one d sh X2.w.ws) q) c0]
    congr 1
    funext d
    rw[hone]
    by_cases g9:(d:Int)=hc
    ·rw[if_pos g9,if_pos ⟨rfl,g9.symm⟩,g9]
    ·rw[if_neg g9,if_neg fun g=>g9 g.2.symm];omega
   have hsz:hc.toNat<sh.c.toNat:=by omega
   have hS2:=(hS.p1.set (.cells (irow sh.c.toNat fun d=>Kt.sm (Kt.one (d:Int) sh X2.w.ws) (q+1)) 3 (0,0)))
   simp only[f10,f8,c0,c2,ry,hat,hy1,hset,ww,wq,wrap_w64,hsz,irow_size,↓DD,UU,↓reduceIte,xE,eq_self]
   refine⟨⟨q+1,by omega,⟨by simp [gt,f7],by simp [gt,f1'],by simp [gt,f2'],by simp [gt,f5]⟩,⟨by simp [gt],by simp [gt,f8],by simp [gt,f9]⟩,hS2.p1⟩,?_⟩
   try rw[f10]
   show(_ - ((q:Int)+1)).toNat<(_ - (q:Int)).toNat
   omega
 have d3:decide ((q:Int)<sh.p*64)=false:=decide_eq_false hqt
 have hqe:q=64*sh.p.toNat:=by omega
 simp only[f10,f2',d3,r1,w64p,wrap_w64,↓DD,UU,xE,eq_self]
 have hsn:Snd sh X2.w.ws:=by have:=hT2.bs.snd hT2.wf.m;rw[hs2]at this;exact this
 have hall:(fun c=>Kt.sm (Kt.one c sh X2.w.ws) q)=fun c=>Kt.mineN c sh X2.w.ws sh.p.toNat:=by funext c;rw[hqe];exact Kt.sm_all hsn _ (by omega)
 rw[hall]at hS
 have hS:Sep (P ++ (hdB sh y (fun c=>Kt.mineN c sh X2.w.ws sh.p.toNat) :: shB sh x :: g :: l)) H':=Sep.inL (L:=P) hS.tail
 refine loop_intro (thC sh a n cap k x y i (fun c=>Kt.mineN c sh X2.w.ws sh.p.toNat) P (g :: l)) (fun F' _=>(sh.c - iv (gt F' 13)).toNat) ⟨0,by omega,⟨by simp [gt,f7],by simp [gt,f1'],by simp [gt,f2'],by simp [gt,f5]⟩,⟨by simp [gt],by simp [gt,f8]⟩,hS⟩ ?_
 clear hS hx1 r1 rn
 rintro F4 H' ⟨c,hc,⟨f7,f1',f2',f5⟩,⟨f13,f8⟩,hS⟩
 have hy1:=(Sep.outL (L:=P) hS).look
 have hx1:H' x=some (.cells #[.int .i64 sh.p,.int .i64 sh.c,.int .i64 sh.m] 23 (0,0)):=(Sep.outL (L:=P) hS).tail.outL.look
 have nyx:(y=x)=False:=hS.dropF.neq 0 1 (by decide) rfl rfl
 have nxy:(x=y)=False:=eq_false fun e=>(of_eq_false nyx) e.symm
 have r1:=fun o=>rd_of hx1 o
 have rn:=fun o n=>rdn_of hx1 o n
 have ry:=fun o=>rd_of hy1 o
 have wc:w64 ((c:Int)+1)=(c:Int)+1:=w64_eq (by omega) (by omega)
 by_cases hct:(c:Int)<sh.c
 rotate_left
 ·have d4:decide ((c:Int)<sh.c)=false:=decide_eq_false hct
  simp only[f13,f2',f7,d4,r1,wi,wrap_w64,↓DD,UU,xE,eq_self]
  refine⟨⟨i+1,X2,pv,P,by omega,⟨by simp [gt],by simp [gt,f1'],by simp [gt,f2'],by simp [gt,f5]⟩,⟨hT2,hs2,by omega,by omega⟩,hP,(Sep.outL (L:=P) hS).tail⟩,?_⟩
  try rw[e7]
  show(_ - ((i:Int)+1)).toNat<(_ - (i:Int)).toNat
  omega
 have d4:decide ((c:Int)<sh.c)=true:=decide_eq_true hct
 have c0:(0:Int)≤(c:Int):=by omega
 have c2:(c:Int)<((sh.c.toNat:Nat):Int):=by omega
 have hle2:=hT2.held c0 (by rw[hs2];exact hct)
 rw[hs2]at hle2
 have hze:=hT2.held0 c0 (by rw[hs2];exact hct)
 rw[hs2]at hze
 have hstk:=hT2.stk_eq c0 (by rw[hs2];exact hct)
 obtain⟨v,hv⟩:∃ v,Kt.mineN (c:Int) sh X2.w.ws sh.p.toNat=v:=⟨_,rfl⟩
 have hat:(irow sh.c.toNat fun d=>Kt.mineN (d:Int) sh X2.w.ws sh.p.toNat)[c]? = some (.int .i64 v):=by rw[irow_at (by omega),hv]
 rw[hv]at hle2 hze
 have hL:leak sh.p sh.c sh.m=32*sh.m+1024:=by unfold leak;rw[if_pos hm]
 have dl:decide (leak sh.p sh.c sh.m<v)=false:=decide_eq_false (by omega)
 have hS0:=hS
 obtain⟨rw',hrw⟩:∃ r:Array Value,(irow sh.c.toNat fun d=>Kt.mineN (d:Int) sh X2.w.ws sh.p.toNat)=r:=⟨_,rfl⟩
 rw[hrw]at hy1 ry hat
 simp only[f13,f2',d4,r1,↓DD,UU,xE,eq_self]
 refine draw_intro [(y,rw',[]),(x,#[.int .i64 sh.p,.int .i64 sh.c,.int .i64 sh.m],[])] (by simp only[hy1,hx1,↓DD,UU]) ?_
 have hold':∀ H',Sep (P ++ (hdB sh y (fun c=>Kt.mineN c sh X2.w.ws sh.p.toNat) :: shB sh x :: g :: l)) H'→H' y=some (.cells rw' 3 (0,0))∧H' x=some (.cells #[.int .i64 sh.p,.int .i64 sh.c,.int .i64 sh.m] 23 (0,0)):=fun H' h=>by
  have h1:=(Sep.outL (L:=P) h).look
  rw[hrw]at h1
  exact⟨h1,(Sep.outL (L:=P) h).tail.outL.look⟩
 have fin:∀ (F':Fr) (H':Hp),thG a n cap k x i F'→(gt F' 13=.int .i64 ((c:Int)+1)∧gt F' 8=.slice (some ⟨y,0,none⟩) sh.c.toNat sh.c.toNat)→Sep (P ++ (hdB sh y (fun c=>Kt.mineN c sh X2.w.ws sh.p.toNat) :: shB sh x :: g :: l)) H'→thC sh a n cap k x y i (fun c=>Kt.mineN c sh X2.w.ws sh.p.toNat) P (g :: l) F' H':=fun F' H' h1 h2 h3=>⟨c+1,by omega,h1,h2,h3⟩
 have c1':(c:Int)<X2.s.c:=by rw[hs2];exact hct
 by_cases hv0:0<v
 rotate_left
 ·have dv:decide (0<v)=false:=decide_eq_false hv0
  simp only[f13,f2',f8,hx1,hy1,rn,ry,c0,c2,hat,v_leak,dl,dv,nxy,wc,wrap_w64,Int.toNat_natCast,↓DD,UU,↓reduceIte,xA,xC,xE,xF,eq_self]
  refine⟨fin _ _ ⟨by simp [gt,f7],by simp [gt,f1'],by simp [gt,f2'],by simp [gt,f5]⟩ ⟨by simp [gt],by simp [gt,f8]⟩ hS,?_⟩
  show(_ - ((c:Int)+1)).toNat<(_ - (c:Int)).toNat
  omega
 have dv:decide (0<v)=true:=decide_eq_true hv0
 have st0:(X2.stk c == 0)=false:=beq_eq_false_iff_ne.2 fun g9=>by
  have:=hze (by omega)
  omega
 have st4:(X2.stk c == 4)=false:=beq_eq_false_iff_ne.2 fun g9=>by
  have:=hze (by omega)
  omega
 simp only[f13,f2',f5,f8,hx1,hy1,rn,ry,c0,c2,hat,v_leak,dl,dv,nxy,Int.toNat_natCast,↓DD,UU,↓reduceIte,xA,xC,xE,xF,eq_self]
 refine callT_of (c_wstatW hT2.wf hP c0 c1' hS) ?_
 rintro vv H' ⟨rfl,hS⟩
 obtain⟨hy1,hx1⟩:=hold' H' hS
 have ry:=fun o=>rd_of hy1 o
 refine⟨by simp only[hy1,hx1,↓DD,UU],?_⟩
 simp only[f13,f5,f8,ry,c0,c2,hat,st0,dv,Int.toNat_natCast,↓DD,UU,↓reduceIte,xE,eq_self]
 refine callT_of (c_wstatW hT2.wf hP c0 c1' hS) ?_
 rintro vv H' ⟨rfl,hS⟩
 obtain⟨hy1,hx1⟩:=hold' H' hS
 refine⟨by simp only[hy1,hx1,↓DD,UU],?_⟩
 simp only[f13,st4,wc,wrap_w64,↓DD,UU,xE,eq_self]
 refine⟨fin _ _ ⟨by simp [gt,f7],by simp [gt,f1'],by simp [gt,f2'],by simp [gt,f5]⟩ ⟨by simp [gt],by simp [gt,f8]⟩ hS,?_⟩
 show(_ - ((c:Int)+1)).toNat<(_ - (c:Int)).toNat
 omega
theorem l_topheld {W:World} {ch:Nat→Chr} (p c m:Int) (_:-9223372036854775808≤p∧p≤9223372036854775807) (_:-9223372036854775808≤c∧c≤9223372036854775807) (_:-9223372036854775808≤m∧m≤9223372036854775807) (hn:n≤9223372036854775807) (hr:RowC (memOf W) a n ch) :
  CallP Tryz.prog W 9 #[.agg #[.int .i64 p,.int .i64 c,.int .i64 m],.slice a n cap] (memOf W) fun v H'=>v=.bool true∧Sub (memOf W) H':=
 (c_topheld (sh:=⟨p,c,m⟩) hn hr (Sep.one _)).mono fun v H' ⟨h1,h2⟩=>⟨h1,h2.head⟩
end
end Go.Proofs.YtkjpgikjcfhckaaGreat
