/-
 TopLeak, walked: what those who were killed keep. Conditions: none.
-/
import Derived.Test.YtkjpgikjcfhckaaGreatCodeX
import Derived.Test.YtkjpgikjcfhckaaGreatAskX
import Derived.Test.YtkjpgikjcfhckaaGreatMaT
open Nat renaming reduceAdd→xA,reduceMul→xB,reduceSub→xC,reduceEqDiff→xD,reduceBEq→xE,reduceLeDiff→xF,reduceLT→xG
open Int renaming reduceAdd→xH,reduceMul→xI,reduceSub→xJ,reduceLT→xK,reduceLE→xL,reduceToNat→xM,reduceEq→xN,reduceNe→xO,reduceBEq→xP,reduceBNe→xQ
set_option linter.unusedVariables false
set_option linter.unusedSectionVars false
set_option linter.unusedSimpArgs false
set_option maxRecDepth 8000
namespace Go.Proofs.YtkjpgikjcfhckaaGreat
open Go Go.Ev Go.Pl Go.Ma
theorem livW_st {X:Wo} (h:Ti X) (c:Int) (c0:0≤c) (c1:c<X.s.c):livW X.s X.w.ws c=true↔X.w.ws c.toNat=1:=by
 unfold livW
 rw[if_pos ⟨c0,c1⟩,beq_iff_eq]
 exact(Ad.st_rd h.wf.m (h.sx c c0 c1)).2.1
section
variable {W:World} {H g:Hp} {l P:List Hp} {k cap n b:Nat} {a:Option Addr} {sh:Sh} {X:Wo} {pv:Nat→Value} {c:Int} {o:Go.Ma.Op}
def tlG (a:Option Addr) (n cap k x:Nat) (i:Nat) (kd:Int) (F':Fr):Prop:=gt F' 8=.int .i64 (i:Int)∧gt F' 7=.int .i64 kd∧gt F' 1=.slice a n cap∧gt F' 2=.pointer (some ⟨x,0,none⟩)∧gt F' 5=.pointer (some ⟨k,0,none⟩)
def tlI (sh:Sh) (a:Option Addr) (n cap k x:Nat) (L:List Hp) (F':Fr) (H':Hp):Prop:=
 ∃ (i:Nat) (X:Wo) (pv:Nat→Value) (P:List Hp) (kd:Int),i≤n∧tlG a n cap k x i kd F' ∧
  (Ti X∧Ti.dn X≤kd∧0≤kd∧kd≤i∧X.s=sh∧X.tr.length≤3*i∧X.sp.length≤i)∧WoP k pv X P∧Sep (P ++ (sg x (.cells #[.int .i64 sh.p,.int .i64 sh.c,.int .i64 sh.m] 23 (0,0)) :: L)) H'
def tlC (sh:Sh) (a:Option Addr) (n cap k x:Nat) (i:Nat) (kd:Int) (c:Cn) (P L:List Hp) (F':Fr) (H':Hp):Prop:=
 tlG a n cap k x i kd F'∧∃ z,gt F' 10=.pointer (some ⟨z,0,none⟩)∧Sep (awB z c :: (P ++ (sg x (.cells #[.int .i64 sh.p,.int .i64 sh.c,.int .i64 sh.m] 23 (0,0)) :: L))) H'
set_option maxHeartbeats 2000000 in
theorem c_topleak {ch:Nat→Chr} (hn:n≤9223372036854775807) (hr:RowC g a n ch) (hS:Sep (g :: l) H) :
  CallP Tryz.prog W 3 #[.agg #[.int .i64 sh.p,.int .i64 sh.c,.int .i64 sh.m],.slice a n cap] H fun v H'=>v=.bool true∧Sep (g :: l) H':=by
 refine CallP.of mixed Tryz.func3 tr3 (by show 2≤_;decide) fun W _=>?_
 simp only[↓DD,UU,xA]
 refine newB_intro fun x hx f1 f2=>?_
 have hS:=(hS.new f1 (.cells #[.int .i64 sh.p,.int .i64 sh.c,.int .i64 sh.m] 23 (0,0)))
 simp only[↓DD,UU,xA]
 refine callT_of (c_awakeT hS) ?_
 rintro v H' ⟨rfl,hS⟩
 simp only[↓DD,UU,xA,xE,eq_self]
 refine callT_of (c_few 2000 hS) ?_
 rintro v H' ⟨rfl,hS⟩
 by_cases hle:n≤2000
 rotate_left
 ·have g1:decide ((n:Int)≤2000)=false:=decide_eq_false (by omega)
  simp only[g1,↓DD,UU,xA,eq_self]
  exact hS.tail
 have g1:decide ((n:Int)≤2000)=true:=decide_eq_true (by omega)
 have hx1:=hS.look
 have r1:=fun o n=>rdn_of hx1 o n
 simp only[g1,r1,↓DD,UU,↓reduceIte,xA,xC,xE,xF,eq_self]
 cases hm:may sh.p sh.c sh.m
 ·refine callT_of (c_begin_no hm hS) ?_
  rintro v H' ⟨rfl,hS⟩
  simp only[↓DD,UU,↓reduceIte,xA,xE,eq_self]
  exact hS.tail
 have hb:=(may_iff _ _ _).1 hm
 obtain⟨N,hN⟩:∃ N:Nat,(N:Int)=words sh.p sh.c sh.m:=⟨(words sh.p sh.c sh.m).toNat,by have:=words_le hm;omega⟩
 refine callT_of (c_begin hm hN hS) ?_
 rintro v H' ⟨k,j0,pv,P,rfl,hP,hS⟩
 simp only[↓DD,UU,↓reduceIte,xA,xE,eq_self]
 have hw:(Wo.new sh (Wd.zero N)).wf:=Wo.new_wf hm hN
 have hti:Ti (Wo.new sh (Wd.zero N)):=Ti.new hm hw.w fun _=>rfl
 have hd0:Ti.dn (Wo.new sh (Wd.zero N))=0:=Ti.dn_new fun _=>rfl
 refine loop_intro (tlI sh a n cap k x (g :: l)) (fun F' _=>((n:Int) - iv (gt F' 8)).toNat) ⟨0,_,pv,P,0,by omega,⟨rfl,rfl,rfl,rfl,rfl⟩,⟨hti,by omega,by omega,by omega,rfl,by show 0≤_;omega,by show 0≤_;omega⟩,hP,hS⟩ ?_
 clear hS hx1 r1 hP hti hd0
 rintro F' H' ⟨i,X,pv,P,kd,hi,⟨e8,e7,e1,e2,e5⟩,⟨hT,hdn,kd0,kd1,hXs,tu,su⟩,hP,hS⟩
 by_cases hlt:i<n
 rotate_left
 ·have d1:decide ((i:Int)<(n:Int))=false:=decide_eq_false (by omega)
  simp only[e8,e1,d1,↓DD,UU,xE,eq_self]
  exact hS.dropF.tail
 have d1:decide ((i:Int)<(n:Int))=true:=decide_eq_true (by omega)
 have i0:(0:Int)≤(i:Int):=by omega
 have l1:(i:Int)<(n:Int):=by omega
 have wi:w64 ((i:Int)+1)=(i:Int)+1:=w64_eq (by omega) (by omega)
 obtain⟨b1,o1,ea1,hrd1⟩:=hr.at' hlt
 have hsub:=hS.dropF.sb g (by simp)
 have hrd:=rdn_sub hrd1 hsub
 have e1':gt F' 1=.slice (some ⟨b1,o1,none⟩) n cap:=by rw[e1,ea1]
 simp only[e8,e1',e5,i0,l1,hrd,Int.toNat_natCast,↓DD,UU,xE,eq_self]
 refine callT_of (c_choice _ hS) ?_
 rintro v H' ⟨rfl,hS⟩
 simp only[↓DD,UU,xE,eq_self]
 refine callT_of (c_wdo (x:=chq sh (ch i)) (bias:=(ch i).b) hT.wf hP (by rw[hXs];rfl) (by omega) (by omega) hS) ?_
 rintro v H' ⟨rfl,pv,P,hP,-,hS⟩
 have hfit:X.fit (chq sh (ch i)):=by rw[← hXs];exact chq_fit hT.wf (ch i)
 have hln:=Wo.act_len (W:=X) (x:=chq sh (ch i))
 have hs2:=(Wo.act_s (W:=X) (x:=chq sh (ch i))).trans hXs
 have hT2:=hT.act hfit
 have hdn2:=hT.dn_act hfit
 have hkk:(chq sh (ch i)).k=(ch i).k:=rfl
 rw[hkk]at hdn2
 clear hT
 generalize hA:X.act (chq sh (ch i))=A at *
 obtain⟨X2,er⟩:=A
 dsimp only at *
 obtain⟨cb,Tb,qb,hcb,hc0,hc1⟩:=ch_cells hrd1
 have hsub:=hS.dropF.sb g (by simp)
 have hbk:=hsub _ _ hcb
 have rb:=fun o=>rd_of hbk o
 obtain⟨kd2,hkd2⟩:∃ kd2:Int,kd2=kd+if(ch i).k=4∧er=0 then 1 else 0:=⟨_,rfl⟩
 have hkb:0≤kd2∧kd2≤(i:Int)+1∧Ti.dn X2≤kd2:=by
  rw[hkd2]
  split
  ·rename_i g9;rw[if_pos g9]at hdn2;omega
  ·rename_i g9;rw[if_neg g9]at hdn2;omega
 obtain⟨kb0,kb1,kb2⟩:=hkb
 have wk:(ch i).k=4∧er=0→w64 (kd+1)=kd2:=fun g9=>by rw[hkd2,if_pos g9];exact w64_eq (by omega) (by omega)
 have hmod:(i:Int).tmod 5=(i:Int) % 5:=Int.tmod_eq_emod_of_nonneg (by omega)
 have wn1:w64 ((n:Int) - 1)=(n:Int) - 1:=w64_eq (by omega) (by omega)
 obtain⟨b5,hb5⟩:∃ b5:Bool,((i:Int).tmod 5 != 0)=b5:=⟨_,rfl⟩
 obtain⟨bl,hbl⟩:∃ bl:Bool,((i:Int) != (n:Int) - 1)=bl:=⟨_,rfl⟩
 have hcase:((er == 0)=true∧((ch i).k == 4)=true∧w64 (kd+1)=kd2)∨((er == 0)=true∧((ch i).k == 4)=false∧kd2=kd)∨((er == 0)=false∧kd2=kd):=by
  by_cases h0:er=0
  ·by_cases h4:(ch i).k=4
   ·exact .inl ⟨beq_iff_eq.2 h0,beq_iff_eq.2 h4,wk ⟨h4,h0⟩⟩
   ·exact .inr (.inl ⟨beq_iff_eq.2 h0,beq_eq_false_iff_ne.2 h4,by rw[hkd2,if_neg fun g9=>h4 g9.1];omega⟩)
  ·exact .inr (.inr ⟨beq_eq_false_iff_ne.2 h0,by rw[hkd2,if_neg fun g9=>h0 g9.2];omega⟩)
 clear hkd2 hdn2 wk
 have hbb:(b5=true∧bl=true)∨b5=false∨(b5=true∧bl=false):=by cases b5<;>cases bl<;>simp
 have nX:(X2.w.n:Int)=words sh.p sh.c sh.m:=by have:=hT2.wf.w.n;rw[hs2]at this;exact this
 have hlk:=hT2.leak (livW_st hT2)
 rw[hs2]at hlk
 obtain⟨cn,hcn⟩:∃ cn,Cn.all (livW sh X2.w.ws) sh X2.w.ws sh.p.toNat=cn:=⟨_,rfl⟩
 have hcb:Cn.Bd 40000 cn:=by rw[← hcn];exact(Cn.all_bd _).mono (by omega)
 unfold Cn.Bd at hcb
 rw[hcn]at hlk
 have hL:leak sh.p sh.c sh.m=32*sh.m+1024:=by unfold leak;rw[if_pos hm]
 have hmul:Ti.dn X2*(32*sh.m+1024)≤kd2*(32*sh.m+1024):=Int.mul_le_mul_of_nonneg_right kb2 (by omega)
 have hmul0:0≤kd2*(32*sh.m+1024):=Int.mul_nonneg kb0 (by omega)
 have hmul1:kd2*(32*sh.m+1024)≤2001*(32*sh.m+1024):=Int.mul_le_mul_of_nonneg_right (by omega) (by omega)
 have wm:w64 (kd2*(32*sh.m+1024))=kd2*(32*sh.m+1024):=w64_eq (by omega) (by omega)
 have w1:w64 (cn.fr+cn.ta)=cn.fr+cn.ta:=w64_eq (by omega) (by omega)
 have w2:w64 (cn.fr+cn.ta+cn.li)=cn.fr+cn.ta+cn.li:=w64_eq (by omega) (by omega)
 have w3:w64 (cn.fr+cn.ta+cn.li+cn.lo)=sh.p*64:=by rw[hlk.2];exact w64_eq (by omega) (by omega)
 have w4:w64 (sh.p*64)=sh.p*64:=w64_eq (by omega) (by omega)
 have dlo:decide (kd2*(32*sh.m+1024)<cn.lo)=false:=decide_eq_false (by omega)
 have dq:(sh.p*64 != sh.p*64)=false:=bne_self_eq_false' ..
 have hx1:=hS.outL.look
 have r1:=fun o n=>rdn_of hx1 o n
 have aw:∀ (W:World) (g3:Hp) (a3:Option Addr) (cap3:Nat) (L:List Hp) (H3:Hp),RowU g3 a3 X2.w.n X2.w.ws→Sep (g3 :: L) H3→CallP Tryz.prog W 15 #[.agg #[.int .i64 sh.p,.int .i64 sh.c,.int .i64 sh.m],.slice a3 X2.w.n cap3] H3 fun v H'=>v=.agg (awC cn)∧Sep (g3 :: L) H':=fun W g3 a3 cap3 L H3 hr3 h3=>by
  have:=c_awords (W:=W) (cap:=cap3) hm nX hr3 (fun i _=>hT2.wf.w.u i) h3
  rw[hcn]at this;exact this
 rcases hcase with⟨q0,q4,hw4⟩|⟨q0,q4,hk⟩|⟨q0,hk⟩
 simp only[e8,e7,e1',i0,l1,rb,hc0,q0,q4,hw4,wrap_w64,Int.toNat_natCast,↓DD,UU,xE,xN,ne_eq,eq_self]
 rotate_left
 rw[← hk]at e7
 simp only[e8,e1',i0,l1,rb,hc0,q0,q4,Int.toNat_natCast,↓DD,UU,xE,xN,ne_eq,eq_self]
 rotate_left
 rw[← hk]at e7
 simp only[e8,q0,↓DD,UU,xE,xN,ne_eq,eq_self]
 rotate_left
 all_goals
  rcases hbb with⟨rfl,rfl⟩| rfl |⟨rfl,rfl⟩
  ·simp only[e8,e1',hb5,hbl,wn1,wi,wrap_w64,↓DD,UU,xE,eq_self]
   refine⟨⟨i+1,X2,pv,P,kd2,by omega,⟨by simp [gt],by simp [gt,e7],by simp [gt,e1],by simp [gt,e2],by simp [gt,e5]⟩,⟨hT2,kb2,kb0,kb1,hs2,by omega,by omega⟩,hP,hS⟩,?_⟩
   try rw[e8]
   show(_ - ((i:Int)+1)).toNat<(_ - (i:Int)).toNat
   omega
  all_goals
   simp only[e8,e1',hb5,hbl,wn1,wrap_w64,↓DD,UU,xE,eq_self]
   refine draw_cut [(x,#[.int .i64 sh.p,.int .i64 sh.c,.int .i64 sh.m],[])] (tlC sh a n cap k x i kd2 cn P (g :: l)) (by simp only[hx1,↓DD,UU]) ?_ ?_
   ·simp only[e2,e5,r1,↓e_dalt2,↓DD,UU,↓reduceIte,xA,xC,xE,xF,eq_self]
    refine⟨?_,?_⟩
    ·refine callT_of (c_wordsW hT2.wf hP hS) ?_
     rintro v H' ⟨a3,cap3,g3,rfl,hr3,hS⟩
     have hx1:=hS.tail.outL.look
     simp only[hx1,↓e_dalt2,↓DD,UU,xE,eq_self]
     refine⟨?_,?_⟩
     ·refine callT_of (aw _ _ _ _ _ _ hr3 hS) ?_
      rintro v H' ⟨rfl,hS⟩
      have hx1:=hS.tail.outL.look
      simp only[awC,hx1,↓DD,UU]
      refine newB_intro fun z hz f9 f0=>?_
      have nxz:(x=z)=False:=f9 x (by rw[hx1];rfl)
      have nzx:(z=x)=False:=f0 x (by rw[hx1];rfl)
      have hS:=hS.tail.new f9 (.cells (awC cn) 41 (0,0))
      simp only[hx1,nxz,Ev.upd_upd,↓DD,UU,↓reduceIte,xA,xE,xF,eq_self]
      exact⟨⟨by simp [gt,e8],by simp [gt,e7],by simp [gt,e1],by simp [gt,e2],by simp [gt,e5]⟩,z,by simp [gt],hS⟩
     ·refine newB_intro fun z hz f9 f0=>?_
      have nxz:(x=z)=False:=f9 x (by rw[hx1];rfl)
      have nzx:(z=x)=False:=f0 x (by rw[hx1];rfl)
      have hS:=hS.new f9 (.cells (awC Cn.z) 41 (0,0))
      simp only[hx1,nxz,↓DD,UU,↓reduceIte,xE,eq_self]
      refine callT_of (aw _ _ _ _ _ _ hr3 hS.p1) ?_
      rintro v H' ⟨rfl,hS⟩
      have hx1:=hS.tail.tail.outL.look
      have hz1:=hS.lk 1 rfl
      have hS:=(hS.tail.set (.cells (awC cn) 41 (0,0)))
      simp only[awC,Cn.z]at hz1
      simp only[awC,hx1,hz1,↓DD,UU,xA,xE,xF,eq_self]
      exact⟨⟨by simp [gt,e8],by simp [gt,e7],by simp [gt,e1],by simp [gt,e2],by simp [gt,e5]⟩,z,by simp [gt],hS⟩
    ·refine newB_intro fun z hz f9 f0=>?_
     have nxz:(x=z)=False:=f9 x (by rw[hx1];rfl)
     have nzx:(z=x)=False:=f0 x (by rw[hx1];rfl)
     have hS:=Sep.inL (L:=P) (hS.new f9 (.cells (awC Cn.z) 41 (0,0)))
     simp only[hx1,nxz,↓DD,UU,↓reduceIte,xE,eq_self]
     refine callT_of (c_wordsW hT2.wf hP hS) ?_
     rintro v H' ⟨a3,cap3,g3,rfl,hr3,hS⟩
     have hx1:=hS.tail.dropF.tail.look
     simp only[hx1,↓DD,UU,xE,eq_self]
     refine callT_of (aw _ _ _ _ _ _ hr3 hS) ?_
     rintro v H' ⟨rfl,hS⟩
     have hx1:=hS.tail.dropF.tail.look
     have hz1:=hS.tail.outL.look
     have hS:=(hS.tail.outL.set (.cells (awC cn) 41 (0,0)))
     simp only[awC,Cn.z]at hz1
     simp only[awC,hx1,hz1,↓DD,UU,xA,xE,xF,eq_self]
     exact⟨⟨by simp [gt,e8],by simp [gt,e7],by simp [gt,e1],by simp [gt,e2],by simp [gt,e5]⟩,z,by simp [gt],hS⟩
   ·rintro F2 H2 ⟨⟨e8',e7',e1'',e2',e5'⟩,z,e10,hS⟩
    have hz1:=hS.look
    have rz:=fun o=>rd_of hz1 o
    have hx2:=hS.tail.outL.look
    have rx:=fun o n=>rdn_of hx2 o n
    have rx0:=fun o=>rd_of hx2 o
    simp only[e10,e2',e7',rz,rx,rx0,awC,v_leak,hL,wm,w1,w2,w3,w4,dlo,dq,wrap_w64,e8',wi,↓DD,UU,↓reduceIte,xA,xC,xE,xF,eq_self]
    refine⟨⟨i+1,X2,pv,P,kd2,by omega,⟨by simp [gt],by simp [gt,e7'],by simp [gt,e1''],by simp [gt,e2'],by simp [gt,e5']⟩,⟨hT2,kb2,kb0,kb1,hs2,by omega,by omega⟩,hP,hS.tail⟩,?_⟩
    try rw[e8]
    show(_ - ((i:Int)+1)).toNat<(_ - (i:Int)).toNat
    omega
theorem l_topleak {W:World} {ch:Nat→Chr} (p c m:Int) (_:-9223372036854775808≤p∧p≤9223372036854775807) (_:-9223372036854775808≤c∧c≤9223372036854775807) (_:-9223372036854775808≤m∧m≤9223372036854775807) (hn:n≤9223372036854775807) (hr:RowC (memOf W) a n ch) :
  CallP Tryz.prog W 3 #[.agg #[.int .i64 p,.int .i64 c,.int .i64 m],.slice a n cap] (memOf W) fun v H'=>v=.bool true∧Sub (memOf W) H':=
 (c_topleak (sh:=⟨p,c,m⟩) hn hr (Sep.one _)).mono fun v H' ⟨h1,h2⟩=>⟨h1,h2.head⟩
end
end Go.Proofs.YtkjpgikjcfhckaaGreat
