/-
 TopBounded, walked: how many steps each operation takes. Conditions: none.
-/
import Derived.Test.YtnfabiaehgogmaaGreatCodeX
import Derived.Test.YtnfabiaehgogmaaGreatAskX
import Derived.Test.YtnfabiaehgogmaaGreatRowA
import Derived.Test.YtnfabiaehgogmaaGreatMaW
open Nat renaming reduceAdd→xA,reduceMul→xB,reduceSub→xC,reduceEqDiff→xD,reduceBEq→xE,reduceLeDiff→xF,reduceLT→xG
open Int renaming reduceAdd→xH,reduceMul→xI,reduceSub→xJ,reduceLT→xK,reduceLE→xL,reduceToNat→xM,reduceEq→xN,reduceNe→xO,reduceBEq→xP,reduceBNe→xQ
set_option linter.unusedVariables false
set_option linter.unusedSectionVars false
set_option linter.unusedSimpArgs false
set_option maxRecDepth 8000
namespace Go.Proofs.YtnfabiaehgogmaaGreat
open Go Go.Ev Go.Pl Go.Ma
theorem rdn3 {h:Hp} {b o:Nat} {v0 v1 v2:Value} (h0:rd h b o=some v0) (h1:rd h b (o+1)=some v1) (h2:rd h b (o+2)=some v2):rdn h b o 3=some #[v0,v1,v2]:=by
 unfold rd at h0 h1 h2
 unfold rdn
 split at h0
 ·rename_i c T f e
  simp only[e]at h1 h2 ⊢
  have hsz:o+3≤c.size:=by
   have:=(Array.getElem?_eq_some_iff.1 h2).1;omega
  rw[if_pos hsz]
  congr 1
  apply Array.ext
  ·simp;omega
  ·intro j j1 j2
   have hj:j<3:=by simpa using j2
   simp only[Array.getElem_extract]
   rcases (by omega:j=0∨j=1∨j=2) with rfl | rfl | rfl
   ·exact(Array.getElem?_eq_some_iff.1 h0).2
   ·exact(Array.getElem?_eq_some_iff.1 h1).2
   ·exact(Array.getElem?_eq_some_iff.1 h2).2
 ·cases h0
section
variable {W:World} {H g:Hp} {l P:List Hp} {k cap n b:Nat} {a:Option Addr} {sh:Sh} {X:Wo} {pv:Nat→Value} {c:Int} {o:Go.Ma.Op}
def owB (sh:Sh) (y:Nat) (own:Int→Int):Hp:=sg y (.cells (irow sh.c.toNat fun d=>own (d:Int)) 3 (0,0))
theorem ow_set {own:Int→Int} {C:Nat} {c v:Int} (h:0≤c):(irow C fun d=>own (d:Int)).setIfInBounds c.toNat (.int .i64 v)=irow C fun d=>if(d:Int)=c then v else own (d:Int):=by
 rw[irow_set]
 congr 1
 funext j
 by_cases e:(j:Int)=c
 ·rw[if_pos e,if_pos (by omega)]
 ·rw[if_neg e,if_neg (by omega)]
def tbI (sh:Sh) (a:Option Addr) (n cap k y x:Nat) (L:List Hp) (F':Fr) (H':Hp):Prop:=
 ∃ (i:Nat) (X:Wo) (pv:Nat→Value) (P:List Hp) (own:Int→Int),i≤n∧(gt F' 8=.int .i64 (i:Int)∧gt F' 1=.slice a n cap∧gt F' 2=.pointer (some ⟨x,0,none⟩)∧gt F' 5=.pointer (some ⟨k,0,none⟩)∧gt F' 7=.slice (some ⟨y,0,none⟩) sh.c.toNat sh.c.toNat) ∧
  (Bq X own∧X.s=sh∧X.tr.length≤3*i∧X.sp.length≤i∧0≤X.w.st∧X.w.st≤i)∧WoP k pv X P∧Sep (P ++ (owB sh y own :: sg x (.cells #[.int .i64 sh.p,.int .i64 sh.c,.int .i64 sh.m] 23 (0,0)) :: L)) H'
def tbJ (sh:Sh) (a:Option Addr) (n cap k y x i:Nat) (T:List Evt) (a3:Option Addr) (cap3:Nat) (ownF:Int→Int) (g3:Hp) (P L:List Hp) (F':Fr) (H':Hp):Prop:=
 ∃ (q:Nat) (own:Int→Int),q≤T.length∧(gt F' 14=.int .i64 (q:Int)∧gt F' 13=.slice a3 T.length cap3∧gt F' 8=.int .i64 (i:Int)∧gt F' 1=.slice a n cap∧gt F' 2=.pointer (some ⟨x,0,none⟩)∧gt F' 5=.pointer (some ⟨k,0,none⟩)∧gt F' 7=.slice (some ⟨y,0,none⟩) sh.c.toNat sh.c.toNat) ∧
  (allOk sh own (T.drop q)∧ownA own (T.drop q)=ownF∧∀ e∈T.drop q,0≤e.c∧e.c<sh.c)∧Sep (g3 :: (P ++ (owB sh y own :: sg x (.cells #[.int .i64 sh.p,.int .i64 sh.c,.int .i64 sh.m] 23 (0,0)) :: L))) H'
theorem c_topbounded {ch:Nat→Chr} (hn:n≤9223372036854775807) (hr:RowC g a n ch) (hS:Sep (g :: l) H) :
  CallP Tryz.prog W 3 #[.agg #[.int .i64 sh.p,.int .i64 sh.c,.int .i64 sh.m],.slice a n cap] H fun v H'=>v=.bool true∧Sep (g :: l) H':=by
 refine CallP.of mixed Tryz.func3 tr3 (by show 2≤_;decide) fun W _=>?_
 simp only[↓DD,UU,↓reduceIte,xA,xB,xC,xD,xE,xF,xG,xH,xI,xJ,xK,xL,xM,xN,xO,xP,xQ,ne_eq,eq_self]
 refine newB_intro fun x hx f1 f2=>?_
 have hS:=(hS.new f1 (.cells #[.int .i64 sh.p,.int .i64 sh.c,.int .i64 sh.m] 23 (0,0)))
 simp only[↓DD,UU,↓reduceIte,xA,xB,xC,xD,xE,xF,xG,xH,xI,xJ,xK,xL,xM,xN,xO,xP,xQ,ne_eq,eq_self]
 refine callT_of (c_awakeT hS) ?_
 rintro v H' ⟨rfl,hS⟩
 simp only[↓DD,UU,↓reduceIte,xA,xB,xC,xD,xE,xF,xG,xH,xI,xJ,xK,xL,xM,xN,xO,xP,xQ,ne_eq,eq_self]
 refine callT_of (c_few 3000 hS) ?_
 rintro v H' ⟨rfl,hS⟩
 by_cases hle:n≤3000
 rotate_left
 ·have g1:decide ((n:Int)≤3000)=false:=decide_eq_false (by omega)
  simp only[g1,↓DD,UU,↓reduceIte,xA,xB,xC,xD,xE,xF,xG,xH,xI,xJ,xK,xL,xM,xN,xO,xP,xQ,ne_eq,eq_self]
  exact hS.tail
 have g1:decide ((n:Int)≤3000)=true:=decide_eq_true (by omega)
 have hx1:=hS.look
 have r1:=fun o n=>rdn_of hx1 o n
 simp only[g1,hx1,r1,↓DD,UU,↓reduceIte,xA,xB,xC,xD,xE,xF,xG,xH,xI,xJ,xK,xL,xM,xN,xO,xP,xQ,ne_eq,eq_self]
 cases hm:may sh.p sh.c sh.m
 ·refine callT_of (c_begin_no hm hS) ?_
  rintro v H' ⟨rfl,hS⟩
  simp only[↓DD,UU,↓reduceIte,xA,xB,xC,xD,xE,xF,xG,xH,xI,xJ,xK,xL,xM,xN,xO,xP,xQ,ne_eq,eq_self]
  exact hS.tail
 have hb:=(may_iff _ _ _).1 hm
 obtain⟨N,hN⟩:∃ N:Nat,(N:Int)=words sh.p sh.c sh.m:=⟨(words sh.p sh.c sh.m).toNat,by have:=words_le hm;omega⟩
 refine callT_of (c_begin hm hN hS) ?_
 rintro v H' ⟨k,j0,pv,P,rfl,hP,hS⟩
 have hx1:=hS.outL.look
 have r1:=fun o=>rd_of hx1 o
 have m0:(0:Int)≤sh.c:=by omega
 have m1:8*sh.c≤281474976710656:=by omega
 have m2:sh.c≤9223372036854775807:=by omega
 simp only[hx1,r1,m0,m1,m2,Int.le_refl,↓DD,UU,↓reduceIte,xA,xB,xC,xD,xE,xF,xG,xH,xI,xJ,xK,xL,xM,xN,xO,xP,xQ,ne_eq,eq_self]
 refine newB_intro fun y hy f3 f4=>?_
 have hS:=(hS.new f3 (.cells (Array.replicate sh.c.toNat (.int .i64 0)) 3 (0,0))).inL
 have hw:(Wo.new sh (Wd.zero N)).wf:=Wo.new_wf hm hN
 have hq:Bq (Wo.new sh (Wd.zero N)) fun _=>0:=⟨hw,fun _=>Int.le_refl _,fun d k e=>by cases e⟩
 have e0:sg y (.cells (Array.replicate sh.c.toNat (.int .i64 0)) 3 (0,0))=owB sh y fun _=>0:=by unfold owB;rw[irow_zero]
 rw[e0]at hS
 simp only[↓DD,UU,↓reduceIte,xA,xB,xC,xD,xE,xF,xG,xH,xI,xJ,xK,xL,xM,xN,xO,xP,xQ,ne_eq,eq_self]
 refine loop_intro (tbI sh a n cap k y x (g :: l)) (fun F' _=>((n:Int) - iv (gt F' 8)).toNat) ⟨0,_,pv,P,_,by omega,⟨rfl,rfl,rfl,rfl,rfl⟩,⟨hq,rfl,by show 0≤_;omega,by show 0≤_;omega,by show(0:Int)≤0;omega,by show(0:Int)≤_;omega⟩,hP,hS⟩ ?_
 clear hS hx1 r1
 rintro F' H' ⟨i,X,pv,P,own,hi,⟨e8,e1,e2,e5,e7⟩,⟨hB,hXs,tu,su,t0,t1⟩,hP,hS⟩
 by_cases hlt:i<n
 rotate_left
 ·have d1:decide ((i:Int)<(n:Int))=false:=decide_eq_false (by omega)
  simp only[e8,e1,d1,↓DD,UU,↓reduceIte,xA,xB,xC,xD,xE,xF,xG,xH,xI,xJ,xK,xL,xM,xN,xO,xP,xQ,ne_eq,eq_self]
  exact hS.dropF.tail.tail
 have d1:decide ((i:Int)<(n:Int))=true:=decide_eq_true (by omega)
 have i0:(0:Int)≤(i:Int):=by omega
 have l1:(i:Int)<(n:Int):=by omega
 have wi:w64 ((i:Int)+1)=(i:Int)+1:=w64_eq (by omega) (by omega)
 simp only[e8,e1,e5,d1,↓DD,UU,↓reduceIte,xA,xB,xC,xD,xE,xF,xG,xH,xI,xJ,xK,xL,xM,xN,xO,xP,xQ,ne_eq,eq_self]
 refine callT_of (c_stepsW (by omega) hP hS) ?_
 rintro v H' ⟨a3,cap3,g3,rfl,-,hS⟩
 simp only[e5,↓DD,UU,↓reduceIte,xA,xB,xC,xD,xE,xF,xG,xH,xI,xJ,xK,xL,xM,xN,xO,xP,xQ,ne_eq,eq_self]
 refine callT_of (c_trace (by omega) hP hS.tail) ?_
 rintro v H' ⟨a3,cap3,g3,rfl,-,hS⟩
 have hS:=hS.tail
 obtain⟨b1,o1,ea1,hrd1⟩:=hr.at' hlt
 have hsub:=hS.dropF.sb g (by simp)
 have hrd:=rdn_sub hrd1 hsub
 have e1':gt F' 1=.slice (some ⟨b1,o1,none⟩) n cap:=by rw[e1,ea1]
 simp only[e8,e1',e5,i0,l1,hrd,Int.toNat_natCast,↓DD,UU,↓reduceIte,xA,xB,xC,xD,xE,xF,xG,xH,xI,xJ,xK,xL,xM,xN,xO,xP,xQ,ne_eq,eq_self]
 refine callT_of (c_choice _ hS) ?_
 rintro v H' ⟨rfl,hS⟩
 simp only[↓DD,UU,↓reduceIte,xA,xB,xC,xD,xE,xF,xG,xH,xI,xJ,xK,xL,xM,xN,xO,xP,xQ,ne_eq,eq_self]
 refine callT_of (c_wdo (x:=chq sh (ch i)) (bias:=(ch i).b) hB.wf hP (by rw[hXs];rfl) (by omega) (by omega) hS) ?_
 rintro v H' ⟨rfl,pv,P,hP,-,hS⟩
 have hst:=Wo.act_st (x:=chq sh (ch i)) hB.wf ⟨t0,by omega⟩
 have hev:=Wo.evs_c (x:=chq sh (ch i)) hB.wf
 have htr:=Wo.act_tr (W:=X) (x:=chq sh (ch i))
 have hsp:=Wo.act_sp (W:=X) (x:=chq sh (ch i))
 have hln:=Wo.act_len (W:=X) (x:=chq sh (ch i))
 have hs2:=(Wo.act_s (W:=X) (x:=chq sh (ch i))).trans hXs
 have hstep:=hB.step (x:=chq sh (ch i)) (by rw[← hXs];exact chq_fit hB.wf (ch i)) ⟨t0,by omega⟩
 rw[hXs]at hstep hev
 generalize hA:X.act (chq sh (ch i))=A at *
 obtain⟨X2,er⟩:=A
 dsimp only at *
 simp only[e5,↓DD,UU,↓reduceIte,xA,xB,xC,xD,xE,xF,xG,xH,xI,xJ,xK,xL,xM,xN,xO,xP,xQ,ne_eq,eq_self]
 refine callT_of (c_stepsW (by omega) hP hS) ?_
 rintro v H' ⟨a3,cap3,g3,rfl,-,hS⟩
 have ws0:w64 ((X2.sp.length:Int) - (X.sp.length:Int))=(X2.sp.length:Int) - (X.sp.length:Int):=w64_eq (by omega) (by omega)
 obtain⟨D,ws⟩:∃ D,w64 ((X2.sp.length:Int) - (X.sp.length:Int))=D:=⟨_,rfl⟩
 simp only[e5,ws,wrap_w64,↓DD,UU,↓reduceIte,xA,xB,xC,xD,xE,xF,xG,xH,xI,xJ,xK,xL,xM,xN,xO,xP,xQ,ne_eq,eq_self]
 refine callT_of (c_trace (by omega) hP hS.tail) ?_
 rintro v H' ⟨a3,cap3,g3,rfl,hE,hS⟩
 simp only[↓DD,UU,↓reduceIte,xA,xB,xC,xD,xE,xF,xG,xH,xI,xJ,xK,xL,xM,xN,xO,xP,xQ,ne_eq,eq_self]
 rcases hstep with⟨ha,hok,hB2⟩|⟨ac,ha,hr0,hk3,hac,c0,c1,hcap,hok,hB2⟩
 obtain rfl:D=0:=by rw[← ws,ws0,hsp,ha];simp
 refine draw_intro [] (by simp only[↓DD,UU,↓reduceIte,xA,xB,xC,xD,xE,xF,xG,xH,xI,xJ,xK,xL,xM,xN,xO,xP,xQ,ne_eq,eq_self]) ?_
 simp only[↓DD,UU,↓reduceIte,xA,xB,xC,xD,xE,xF,xG,xH,xI,xJ,xK,xL,xM,xN,xO,xP,xQ,ne_eq,eq_self]
 generalize hOF:ownA own (X.evs (chq sh (ch i)))=ownF at hB2
 have hdrop:X2.tr.drop X.tr.length=X.evs (chq sh (ch i)):=by rw[htr];exact List.drop_left
 refine loop_intro (tbJ sh a n cap k y x i X2.tr a3 cap3 ownF g3 P (g :: l)) (fun F' _=>((X2.tr.length:Int) - iv (gt F' 14)).toNat) ⟨X.tr.length,_,by rw[htr,List.length_append];omega,⟨by simp [gt],by simp [gt],by simp [gt,e8],by simp [gt,e1],by simp [gt,e2],by simp [gt,e5],by simp [gt,e7]⟩,⟨by rw[hdrop];exact hok,by rw[hdrop];exact hOF,by rw[hdrop];exact hev⟩,hS⟩ ?_
 rotate_left
 obtain rfl:D=1:=by rw[← ws,ws0,hsp,ha];simp;omega
 subst hr0
 obtain⟨cb,Tb,qb,hcb,hc0,hc1⟩:=ch_cells hrd1
 have hsub:=hS.tail.dropF.sb g (by simp)
 have hb1:=hsub _ _ hcb
 have rb:=fun o=>rd_of hb1 o
 have k3:((ch i).k != 3)=false:=by have:(ch i).k=3:=hk3;rw[this];rfl
 have e33:((0:Int) != 0)=false:=rfl
 refine drawX_intro [(b1,cb,[])] (by simp only[hb1,↓DD,UU,↓reduceIte,xA,xB,xC,xD,xE,xF,xG,xH,xI,xJ,xK,xL,xM,xN,xO,xP,xQ,ne_eq,eq_self]) ?_
 simp only[e8,e1',e5,i0,l1,rb,hc0,hc1,k3,e33,↓dx_take,↓dx_takeg,↓dx_alt,Int.toNat_natCast,↓DD,UU,↓reduceIte,xA,xB,xC,xD,xE,xF,xG,xH,xI,xJ,xK,xL,xM,xN,xO,xP,xQ,ne_eq,eq_self]
 refine dx_growg _ _ _ _ _ ?_
 simp only[↓DD,UU,↓reduceIte,xA,xB,xC,xD,xE,xF,xG,xH,xI,xJ,xK,xL,xM,xN,xO,xP,xQ,ne_eq,eq_self]
 refine callT_of (c_stepsW (by omega) hP (Sep.over (X:=[g3]) (L:=P) hS)) ?_
 rintro v H' ⟨a4,cap4,g4,rfl,hE4,hS⟩
 have hl4:X2.sp[X.sp.length]? = some ac:=by rw[hsp,ha];simp
 obtain⟨z,cz,Tz,qz,rfl,rfl,hcz⟩:=AcR.cells hE4 hl4
 have hz1:=hS.look
 have hz0:cz[X.sp.length*6]? = some (.int .i64 ac.c):=hcz 0 (by omega)
 have rz:=fun o=>rd_of hz1 o
 have hS3:=(Sep.inL (L:=P) hS).dropF
 have hb1:=hS3.sb g (by simp) _ _ hcb
 have rb:=fun o=>rd_of hb1 o
 obtain⟨nzb,nbz⟩:=Sep_far (i:=0) (j:=4) hS3 (by decide) rfl rfl hcb
 refine⟨[(z,cz,[])],?_⟩
 simp only[List.cons_append,List.nil_append]
 refine⟨by simp only[hb1,hz1,↓DD,UU,↓reduceIte,xA,xB,xC,xD,xE,xF,xG,xH,xI,xJ,xK,xL,xM,xN,xO,xP,xQ,ne_eq,eq_self],?_⟩
 have lz:(X.sp.length:Int)<(X2.sp.length:Int):=by rw[hsp,ha];simp;omega
 have z0:(0:Int)≤(X.sp.length:Int):=by omega
 have hcc:(ac.c != (ch i).c)=false:=by rw[hac];exact bne_self_eq_false' ..
 have c0:0≤(ch i).c:=c0
 have c1:(ch i).c<sh.c:=c1
 have c2:(ch i).c<((sh.c.toNat:Nat):Int):=by omega
 have hcap:own (ch i).c+1≤110*sh.p+4*sh.m+60:=hcap
 have own0:=hB.n (ch i).c
 have ecc:(((ch i).c.toNat:Nat):Int)=(ch i).c:=by omega
 have hS5:Sep ((g3 :: P) ++ (owB sh y own :: (sg x (.cells #[.int .i64 sh.p,.int .i64 sh.c,.int .i64 sh.m] 23 (0,0)) :: g :: l))) H':=Sep.over (X:=P) (L:=[g3]) hS.tail
 have hy1:=(Sep.outL (L:=g3 :: P) hS5).look
 have ry:=fun o=>rd_of hy1 o
 have hat:(irow sh.c.toNat fun d=>own (d:Int))[(ch i).c.toNat]? = some (.int .i64 (own (ch i).c)):=by rw[irow_at (by omega),ecc]
 have hat2:(irow sh.c.toNat fun d=>own1 own (ch i).c (d:Int))[(ch i).c.toNat]? = some (.int .i64 (own (ch i).c+1)):=by rw[irow_at (by omega),ecc];unfold own1;rw[if_pos rfl]
 have hset:(irow sh.c.toNat fun d=>own (d:Int)).setIfInBounds (ch i).c.toNat (.int .i64 (own (ch i).c+1))=irow sh.c.toNat fun d=>own1 own (ch i).c (d:Int):=ow_set c0
 have ww:w64 (own (ch i).c+1)=own (ch i).c+1:=w64_eq (by omega) (by omega)
 have hsz:(ch i).c.toNat<sh.c.toNat:=by omega
 obtain⟨nyb,nby⟩:=Sep_far (i:=0) (j:=2) (Sep.dropF (m:=g3 :: P) hS5) (by decide) rfl rfl hcb
 have hx1:=(Sep.dropF (m:=g3 :: P) hS5).tail.look
 have rx:=fun o n=>rdn_of hx1 o n
 have nyx:(y=x)=False:=(Sep.dropF (m:=g3 :: P) hS5).neq 0 1 (by decide) rfl rfl
 have nxy:(x=y)=False:=eq_false fun e=>(of_eq_false nyx) e.symm
 have hsm:steps sh.p sh.c sh.m=110*sh.p+4*sh.m+60:=by unfold steps;rw[if_pos hm]
 have dcp:decide (110*sh.p+4*sh.m+60<own (ch i).c+1)=false:=decide_eq_false (by omega)
 simp only[rz,rb,hz0,hc1,nzb,nbz,lz,z0,hcc,e1',e8,e7,i0,l1,c0,c2,ry,hat,hy1,hset,ww,wrap_w64,hsz,irow_size,nby,nyb,hat2,nxy,hx1,rx,e2,v_steps,hsm,dcp,Int.toNat_natCast,↓DD,UU,↓reduceIte,xA,xB,xC,xD,xE,xF,xG,xH,xI,xJ,xK,xL,xM,xN,xO,xP,xQ,ne_eq,eq_self]
 have hS:=Sep.inL (L:=g3 :: P) ((Sep.outL (L:=g3 :: P) hS5).set (.cells (irow sh.c.toNat fun d=>own1 own (ch i).c (d:Int)) 3 (0,0)))
 generalize upd H' y (.cells (irow sh.c.toNat fun d=>own1 own (ch i).c (d:Int)) 3 (0,0))=H' at hS ⊢
 have hB2:Bq X2 (ownA (own1 own (ch i).c) (X.evs (chq sh (ch i)))):=hB2
 generalize hOF:ownA (own1 own (ch i).c) (X.evs (chq sh (ch i)))=ownF at hB2
 have hdrop:X2.tr.drop X.tr.length=X.evs (chq sh (ch i)):=by rw[htr];exact List.drop_left
 refine loop_intro (tbJ sh a n cap k y x i X2.tr a3 cap3 ownF g3 P (g :: l)) (fun F' _=>((X2.tr.length:Int) - iv (gt F' 14)).toNat) ⟨X.tr.length,_,by rw[htr,List.length_append];omega,⟨by simp [gt],by simp [gt],by simp [gt,e8],by simp [gt,e1],by simp [gt,e2],by simp [gt,e5],by simp [gt,e7]⟩,⟨by rw[hdrop];exact hok,by rw[hdrop];exact hOF,by rw[hdrop];exact hev⟩,hS⟩ ?_
 all_goals clear hS
 all_goals have e8o:=e8
 all_goals
  rintro F' H' ⟨q,ow,hq,⟨e14,e13,e8,e1,e2,e5,e7⟩,⟨hok,hOF,hcs⟩,hS⟩
  by_cases hlt3:q<X2.tr.length
  rotate_left
  ·have hqe:q=X2.tr.length:=by omega
   have d3:decide ((q:Int)<(X2.tr.length:Int))=false:=decide_eq_false (by omega)
   have hnil:X2.tr.drop q = []:=List.drop_eq_nil_of_le (by omega)
   rw[hnil]at hOF
   have hOF:ow=ownF:=hOF
   simp only[e14,e13,e8,d3,wi,wrap_w64,↓DD,UU,↓reduceIte,xA,xB,xC,xD,xE,xF,xG,xH,xI,xJ,xK,xL,xM,xN,xO,xP,xQ,ne_eq,eq_self]
   refine⟨⟨i+1,X2,pv,P,ow,by omega,⟨rfl,e1,e2,e5,e7⟩,⟨by rw[hOF];exact hB2,hs2,by omega,by omega,by omega,by omega⟩,hP,hS.tail⟩,?_⟩
   try rw[e8o]
   show(_ - ((i:Int)+1)).toNat<(_ - (i:Int)).toNat
   omega
  have d3:decide ((q:Int)<(X2.tr.length:Int))=true:=decide_eq_true (by omega)
  have hT:X2.tr[q]? = some X2.tr[q]:=List.getElem?_eq_getElem hlt3
  have hdr:X2.tr.drop q=X2.tr[q] :: X2.tr.drop (q+1):=List.drop_eq_getElem_cons hlt3
  rw[hdr]at hok hOF hcs
  generalize X2.tr[q] = e at hT hok hOF hcs
  obtain⟨z3,ez3,hr3⟩:=EvR.at' hE (Sep.at_sub hS 0) hT
  have e13':gt F' 13=.slice (some ⟨z3,0,none⟩) X2.tr.length cap3:=by rw[e13,ez3]
  have q0:(0:Int)≤(q:Int):=by omega
  have q1:(q:Int)<(X2.tr.length:Int):=by omega
  have wq:w64 ((q:Int)+1)=(q:Int)+1:=w64_eq (by omega) (by omega)
  obtain⟨c0,c1⟩:=hcs e (List.mem_cons_self ..)
  have hcs:=fun e' he'=>hcs e' (List.mem_cons_of_mem _ he')
  obtain⟨hok1,hok2⟩:=hok
  have hOF:ownA (own2 ow e) (X2.tr.drop (q+1))=ownF:=hOF
  have h0:Ev.rd H' z3 (q*8)=some (.int .i64 e.k):=hr3 0 (by omega)
  have h1:Ev.rd H' z3 (q*8+1)=some (.int .i64 e.c):=hr3 1 (by omega)
  have c2:e.c<((sh.c.toNat:Nat):Int):=by omega
  have ecc:((e.c.toNat:Nat):Int)=e.c:=by omega
  by_cases hk2:e.k=2
  ·have k2:(e.k == 2)=true:=beq_iff_eq.2 hk2
   have k5:(e.k == 5)=false:=by rw[hk2];rfl
   have hy1:=(Sep.outL (L:=g3 :: P) hS).look
   have hset:(irow sh.c.toNat fun d=>ow (d:Int)).setIfInBounds e.c.toNat (.int .i64 0)=irow sh.c.toNat fun d=>own2 ow e (d:Int):=by
    rw[ow_set c0]
    congr 1
    funext d
    unfold own2
    by_cases g9:(d:Int)=e.c
    ·rw[if_pos g9,if_pos ⟨hk2,g9⟩]
    ·rw[if_neg g9,if_neg fun g=>g9 g.2]
   have hS2:=Sep.inL (L:=g3 :: P) ((Sep.outL (L:=g3 :: P) hS).set (.cells (irow sh.c.toNat fun d=>own2 ow e (d:Int)) 3 (0,0)))
   obtain⟨z4,c4,T4,f4,ez4,eg4,-⟩:=EvR.cells hE hT
   have ez:z4=z3:=by rw[ez3]at ez4;injection ez4 with h;injection h with h;exact h.symm
   rw[ez]at eg4
   have hS3:=(Sep.inL (L:=P) hS).dropF
   rw[eg4]at hS3
   have nzy:(z3=y)=False:=hS3.neq 0 1 (by decide) rfl rfl
   have hsz:e.c.toNat<sh.c.toNat:=by omega
   simp only[e14,e13',e7,q0,q1,d3,h0,h1,k2,k5,c0,c2,hy1,hset,hsz,nzy,irow_size,wq,wrap_w64,Int.toNat_natCast,↓DD,UU,↓reduceIte,xA,xB,xC,xD,xE,xF,xG,xH,xI,xJ,xK,xL,xM,xN,xO,xP,xQ,ne_eq,eq_self]
   refine⟨⟨q+1,_,by omega,⟨rfl,e13,e8,e1,e2,e5,e7⟩,⟨hok2,hOF,hcs⟩,hS2⟩,?_⟩
   show(_ - ((q:Int)+1)).toNat<(_ - (q:Int)).toNat
   omega
  have k2:(e.k == 2)=false:=beq_eq_false_iff_ne.2 hk2
  have ho2:own2 ow e=ow:=by funext d;unfold own2;rw[if_neg fun g=>hk2 g.1]
  rw[ho2]at hok1 hok2 hOF
  by_cases hk5:e.k=5
  rotate_left
  ·have k5:(e.k == 5)=false:=beq_eq_false_iff_ne.2 hk5
   simp only[e14,e13',q0,q1,d3,h0,h1,k2,k5,wq,wrap_w64,Int.toNat_natCast,↓DD,UU,↓reduceIte,xA,xB,xC,xD,xE,xF,xG,xH,xI,xJ,xK,xL,xM,xN,xO,xP,xQ,ne_eq,eq_self]
   refine⟨⟨q+1,ow,by omega,⟨rfl,e13,e8,e1,e2,e5,e7⟩,⟨hok2,hOF,hcs⟩,hS⟩,?_⟩
   show(_ - ((q:Int)+1)).toNat<(_ - (q:Int)).toNat
   omega
  have k5:(e.k == 5)=true:=beq_iff_eq.2 hk5
  have hok1:=hok1 hk5
  have hy1:=(Sep.outL (L:=g3 :: P) hS).look
  have ry:=fun o=>rd_of hy1 o
  have hat:(irow sh.c.toNat fun d=>ow (d:Int))[e.c.toNat]? = some (.int .i64 (ow e.c)):=by rw[irow_at (by omega),ecc]
  have hx1:=(Sep.dropF (m:=g3 :: P) hS).tail.look
  have rx:=fun o n=>rdn_of hx1 o n
  have h2:Ev.rd H' z3 (q*8+2)=some (.int .i64 e.o.k):=hr3 2 (by omega)
  have h3:Ev.rd H' z3 (q*8+3)=some (.int .i64 e.o.a):=hr3 3 (by omega)
  have h4:Ev.rd H' z3 (q*8+4)=some (.int .i64 e.o.n):=hr3 4 (by omega)
  have hn3:rdn H' z3 (q*8+2) 3=some #[.int .i64 e.o.k,.int .i64 e.o.a,.int .i64 e.o.n]:=rdn3 h2 h3 h4
  have hsm:steps sh.p sh.c sh.m=110*sh.p+4*sh.m+60:=by unfold steps;rw[if_pos hm]
  have hce:capOf sh.p sh.c sh.m e.o.k e.o.a e.o.n=e.o.cap sh:=by unfold capOf;rw[hsm];rfl
  by_cases hcz:e.o.cap sh=0
  ·have kc:(e.o.cap sh == 0)=true:=beq_iff_eq.2 hcz
   have ko:(ow e.c == 0)=true:=by
    rw[decide_eq_true hcz]at hok1
    exact hok1
   simp only[e14,e13',e7,e2,q0,q1,d3,h0,h1,h2,h3,hn3,k2,k5,c0,c2,hx1,rx,hy1,ry,hat,v_of,hce,wq,wrap_w64,Int.toNat_natCast,kc,ko,↓DD,UU,↓reduceIte,xA,xB,xC,xD,xE,xF,xG,xH,xI,xJ,xK,xL,xM,xN,xO,xP,xQ,ne_eq,eq_self]
   refine⟨⟨q+1,ow,by omega,⟨rfl,e13,e8,e1,e2,e5,e7⟩,⟨hok2,hOF,hcs⟩,hS⟩,?_⟩
   show(_ - ((q:Int)+1)).toNat<(_ - (q:Int)).toNat
   omega
  have kc:(e.o.cap sh == 0)=false:=beq_eq_false_iff_ne.2 hcz
  rw[decide_eq_false hcz,Bool.false_or]at hok1
  by_cases hk4:e.o.k=4
  rotate_left
  ·have k4:(e.o.k == 4)=false:=beq_eq_false_iff_ne.2 hk4
   have ko:(ow e.c == 0)=false:=by rw[k4]at hok1;exact hok1
   simp only[e14,e13',e7,e2,q0,q1,d3,h0,h1,h2,h3,hn3,k2,k5,c0,c2,hx1,rx,hy1,ry,hat,v_of,hce,wq,wrap_w64,Int.toNat_natCast,kc,ko,k4,↓DD,UU,↓reduceIte,xA,xB,xC,xD,xE,xF,xG,xH,xI,xJ,xK,xL,xM,xN,xO,xP,xQ,ne_eq,eq_self]
   refine⟨⟨q+1,ow,by omega,⟨rfl,e13,e8,e1,e2,e5,e7⟩,⟨hok2,hOF,hcs⟩,hS⟩,?_⟩
   show(_ - ((q:Int)+1)).toNat<(_ - (q:Int)).toNat
   omega
  have k4:(e.o.k == 4)=true:=beq_iff_eq.2 hk4
  rw[k4,Bool.true_and]at hok1
  have ko:(ow e.c == 0)=(e.o.a == e.c):=hok1
  cases hka:(e.o.a == e.c)
  ·rw[hka]at ko
   simp only[e14,e13',e7,e2,q0,q1,d3,h0,h1,h2,h3,hn3,k2,k5,c0,c2,hx1,rx,hy1,ry,hat,v_of,hce,wq,wrap_w64,Int.toNat_natCast,kc,ko,k4,hka,↓DD,UU,↓reduceIte,xA,xB,xC,xD,xE,xF,xG,xH,xI,xJ,xK,xL,xM,xN,xO,xP,xQ,ne_eq,eq_self]
   refine⟨⟨q+1,ow,by omega,⟨rfl,e13,e8,e1,e2,e5,e7⟩,⟨hok2,hOF,hcs⟩,hS⟩,?_⟩
   show(_ - ((q:Int)+1)).toNat<(_ - (q:Int)).toNat
   omega
  ·rw[hka]at ko
   simp only[e14,e13',e7,e2,q0,q1,d3,h0,h1,h2,h3,hn3,k2,k5,c0,c2,hx1,rx,hy1,ry,hat,v_of,hce,wq,wrap_w64,Int.toNat_natCast,kc,ko,k4,hka,↓DD,UU,↓reduceIte,xA,xB,xC,xD,xE,xF,xG,xH,xI,xJ,xK,xL,xM,xN,xO,xP,xQ,ne_eq,eq_self]
   refine⟨⟨q+1,ow,by omega,⟨rfl,e13,e8,e1,e2,e5,e7⟩,⟨hok2,hOF,hcs⟩,hS⟩,?_⟩
   show(_ - ((q:Int)+1)).toNat<(_ - (q:Int)).toNat
   omega
theorem l_topbounded {W:World} {ch:Nat→Chr} (p c m:Int) (_:-9223372036854775808≤p∧p≤9223372036854775807) (_:-9223372036854775808≤c∧c≤9223372036854775807) (_:-9223372036854775808≤m∧m≤9223372036854775807) (hn:n≤9223372036854775807) (hr:RowC (memOf W) a n ch) :
  CallP Tryz.prog W 3 #[.agg #[.int .i64 p,.int .i64 c,.int .i64 m],.slice a n cap] (memOf W) fun v H'=>v=.bool true∧Sub (memOf W) H':=
 (c_topbounded (sh:=⟨p,c,m⟩) hn hr (Sep.one _)).mono fun v H' ⟨h1,h2⟩=>⟨h1,h2.head⟩
end
end Go.Proofs.YtnfabiaehgogmaaGreat
