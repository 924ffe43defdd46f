/-
 TopBias, walked: two that ask alone, from wherever. Conditions: none.
-/
import Derived.Test.YtkjpgikjcfhckaaGreatCodeX
import Derived.Test.YtkjpgikjcfhckaaGreatAskX
import Derived.Test.YtkjpgikjcfhckaaGreatRowA
import Derived.Test.YtkjpgikjcfhckaaGreatAwX
import Derived.Test.YtkjpgikjcfhckaaGreatMaW
open Nat renaming reduceAdd→xA,reduceMul→xB,reduceSub→xC,reduceEqDiff→xD,reduceBEq→xE,reduceLeDiff→xF,reduceLT→xG
open Int renaming reduceAdd→xH,reduceMul→xI,reduceSub→xJ,reduceLT→xK,reduceLE→xL,reduceToNat→xM,reduceEq→xN,reduceNe→xO,reduceBEq→xP,reduceBNe→xQ
set_option linter.unusedVariables false
set_option linter.unusedSectionVars false
set_option linter.unusedSimpArgs false
set_option maxRecDepth 8000
namespace Go.Proofs.YtkjpgikjcfhckaaGreat
open Go Go.Ev Go.Pl Go.Ma
section
variable {W:World} {H g:Hp} {l P:List Hp} {k cap n b:Nat} {a:Option Addr} {sh:Sh} {X:Wo} {pv:Nat→Value} {c:Int} {o:Go.Ma.Op}
def biI (s:Sh) (a:Option Addr) (n cap ka kb x:Nat) (L:List Hp) (F':Fr) (H':Hp):Prop:=
 ∃ (i:Nat) (A B:Wo) (pa pb:Nat→Value) (P1 P2:List Hp),i≤n∧(gt F' 11=.int .i64 (i:Int)∧gt F' 1=.slice a n cap∧gt F' 3=.pointer (some ⟨x,0,none⟩)∧gt F' 7=.pointer (some ⟨ka,0,none⟩)∧gt F' 9=.pointer (some ⟨kb,0,none⟩)) ∧
  (Bt s A B∧A.tr.length≤30000*i+3∧B.tr.length≤30000*i+3∧A.sp.length≤10000*i+1∧B.sp.length≤10000*i+1) ∧
  (WoP ka pa A P1∧WoP kb pb B P2)∧Sep (P1 ++ (P2 ++ (sg x (.cells #[.int .i64 s.p,.int .i64 s.c,.int .i64 s.m] 23 (0,0)) :: L))) H'
theorem c_topbias {ch:Nat→Go.Ma.Op} {x0 x1:Nat} (hn:n≤9223372036854775807) (hr:RowO g a n ch) (hS:Sep (g :: l) H) :
  CallP Tryz.prog W 8 #[.agg #[.int .i64 sh.p,.int .i64 sh.c,.int .i64 sh.m],.slice a n cap,.agg #[.float .f64 x0,.float .f64 x1]] H fun v H'=>v=.bool true∧Sep (g :: l) H':=by
 refine CallP.of mixed Tryz.func8 tr8 (by show 3≤_;decide) fun W _=>?_
 simp only[↓DD,UU,↓reduceIte,xA,xB,xC,xD,xE,xF,xG,xH,xI,xJ,xK,xL,xM,xN,xO,xP,xQ,ne_eq,eq_self]
 refine newB_intro fun x hx f1 f2=>?_
 have hS:=(hS.new f1 (.cells #[.int .i64 sh.p,.int .i64 sh.c,.int .i64 sh.m] 23 (0,0)))
 have hx1:=hS.look
 simp only[↓DD,UU,↓reduceIte,xA,xB,xC,xD,xE,xF,xG,xH,xI,xJ,xK,xL,xM,xN,xO,xP,xQ,ne_eq,eq_self]
 refine newB_intro fun y hy f3 f4=>?_
 have nxy:(x=y)=False:=f3 x (by rw[hx1];rfl)
 have nyx:(y=x)=False:=f4 x (by rw[hx1];rfl)
 have hS:=(hS.new f3 (.cells #[.float .f64 x0,.float .f64 x1] 84 (0,0)))
 simp only[↓DD,UU,↓reduceIte,xA,xB,xC,xD,xE,xF,xG,xH,xI,xJ,xK,xL,xM,xN,xO,xP,xQ,ne_eq,eq_self]
 refine callT_of (c_awakeT hS) ?_
 rintro v H' ⟨rfl,hS⟩
 simp only[↓DD,UU,↓reduceIte,xA,xB,xC,xD,xE,xF,xG,xH,xI,xJ,xK,xL,xM,xN,xO,xP,xQ,ne_eq,eq_self]
 by_cases hle:n≤30
 rotate_left
 ·have g1:decide ((30:Int)<(n:Int))=true:=decide_eq_true (by omega)
  simp only[g1,↓DD,UU,↓reduceIte,xA,xB,xC,xD,xE,xF,xG,xH,xI,xJ,xK,xL,xM,xN,xO,xP,xQ,ne_eq,eq_self]
  exact hS.tail.tail
 have g1:decide ((30:Int)<(n:Int))=false:=decide_eq_false (by omega)
 have hx1:=hS.lk 1 rfl
 have r1:=fun o n=>rdn_of hx1 o n
 cases hm:may sh.p sh.c sh.m
 ·simp only[g1,hx1,r1,hm,v_may,u_may,↓DD,UU,↓reduceIte,xA,xB,xC,xD,xE,xF,xG,xH,xI,xJ,xK,xL,xM,xN,xO,xP,xQ,ne_eq,eq_self]
  exact hS.tail.tail
 simp only[g1,hx1,r1,hm,v_may,u_may,↓DD,UU,↓reduceIte,xA,xB,xC,xD,xE,xF,xG,xH,xI,xJ,xK,xL,xM,xN,xO,xP,xQ,ne_eq,eq_self]
 have hbo:=(may_iff _ _ _).1 hm
 have hm0:may sh.p sh.c 0=true:=(may_iff _ _ _).2 ⟨hbo.1,hbo.2.1,hbo.2.2.1,hbo.2.2.2.1,Int.le_refl _,by decide⟩
 obtain⟨N,hN⟩:∃ N:Nat,(N:Int)=words sh.p sh.c 0:=⟨(words sh.p sh.c 0).toNat,by have:=words_le hm0;omega⟩
 have hS:=hS.p1.set (.cells #[.int .i64 sh.p,.int .i64 sh.c,.int .i64 0] 23 (0,0))
 generalize upd H' x (.cells #[.int .i64 sh.p,.int .i64 sh.c,.int .i64 0] 23 (0,0))=H' at hS ⊢
 obtain⟨s,hs⟩:∃ s:Sh,s=⟨sh.p,sh.c,0⟩:=⟨_,rfl⟩
 have hsm:s.m=0:=by rw[hs]
 have hsp:s.p=sh.p:=by rw[hs]
 have hsc:s.c=sh.c:=by rw[hs]
 have hms:may s.p s.c s.m=true:=by rw[hs];exact hm0
 have hNs:(N:Int)=words s.p s.c s.m:=by rw[hs];exact hN
 have es:(.agg #[.int .i64 sh.p,.int .i64 sh.c,.int .i64 0]:Value)=.agg #[.int .i64 s.p,.int .i64 s.c,.int .i64 s.m]:=by rw[hs]
 have hS:Sep (sg x (.cells #[.int .i64 s.p,.int .i64 s.c,.int .i64 s.m] 23 (0,0)) :: sg y (.cells #[.float .f64 x0,.float .f64 x1] 84 (0,0)) :: g :: l) H':=by rw[hs];exact hS
 rw[es]
 refine callT_of (c_begin hms hNs hS) ?_
 rintro v H' ⟨ka,ja,pa,P1,rfl,hP1,hS⟩
 have hx1:=hS.outL.look
 have r1:=fun o n=>rdn_of hx1 o n
 simp only[hx1,r1,↓DD,UU,↓reduceIte,xA,xB,xC,xD,xE,xF,xG,xH,xI,xJ,xK,xL,xM,xN,xO,xP,xQ,ne_eq,eq_self]
 refine callT_of (c_begin hms hNs hS) ?_
 rintro v H' ⟨kb,jb,pb,P2,rfl,hP2,hS⟩
 have hw:(Wo.new s (Wd.zero N)).wf:=Wo.new_wf hms hNs
 have hy1:=hS.dropF.outL.tail.outL.look
 have ry:=fun o=>rd_of hy1 o
 have fc:∀ z:Nat,(Value.float .f64 z).cells=#[.float .f64 z]:=fun _=>rfl
 have fo:∀ z:Nat,Value.oneCell' (.float .f64 z)=true:=fun _=>rfl
 obtain⟨ha,za⟩:=Bw.new (b:=shrv x0 s.p) hms hsm hNs (shrv_bd x0 (by omega) (by omega)).1 (shrv_bd x0 (by omega) (by omega)).2
 obtain⟨hb2,zb⟩:=Bw.new (b:=shrv x1 s.p) hms hsm hNs (shrv_bd x1 (by omega) (by omega)).1 (shrv_bd x1 (by omega) (by omega)).2
 have hBt:=Bt.new hms ha hb2 za zb
 have la:=Wo.act_len (W:=Wo.new s (Wd.zero N)) (x:=⟨1,0,Go.Ma.Op.zero,shrv x0 s.p⟩)
 have lb:=Wo.act_len (W:=Wo.new s (Wd.zero N)) (x:=⟨1,0,Go.Ma.Op.zero,shrv x1 s.p⟩)
 have t0:(Wo.new s (Wd.zero N)).tr.length=0:=rfl
 have t1:(Wo.new s (Wd.zero N)).sp.length=0:=rfl
 simp only[hy1,ry,fc,fo,↓DD,UU,↓reduceIte,xA,xB,xC,xD,xE,xF,xG,xH,xI,xJ,xK,xL,xM,xN,xO,xP,xQ,ne_eq,eq_self]
 refine callT_of (c_wdo (x:=⟨1,0,Go.Ma.Op.zero,shrv x0 s.p⟩) (bias:=x0) hw hP1 rfl (by omega) (by omega) (Sep.over (X:=P2) (L:=P1) hS)) ?_
 rintro v H' ⟨rfl,pa,P1,hP1,-,hS⟩
 have hS:=Sep.over (X:=P1) (L:=P2) hS
 have hy1:=hS.dropF.outL.tail.outL.look
 have ry:=fun o=>rd_of hy1 o
 simp only[hy1,ry,fc,fo,↓DD,UU,↓reduceIte,xA,xB,xC,xD,xE,xF,xG,xH,xI,xJ,xK,xL,xM,xN,xO,xP,xQ,ne_eq,eq_self]
 refine callT_of (c_wdo (x:=⟨1,0,Go.Ma.Op.zero,shrv x1 s.p⟩) (bias:=x1) hw hP2 rfl (by omega) (by omega) hS) ?_
 rintro v H' ⟨rfl,pb,P2,hP2,-,hS⟩
 have hS:=Sep.over (X:=P2) (L:=P1) hS
 simp only[↓DD,UU,↓reduceIte,xA,xB,xC,xD,xE,xF,xG,xH,xI,xJ,xK,xL,xM,xN,xO,xP,xQ,ne_eq,eq_self]
 refine loop_intro (biI s a n cap ka kb x (sg y (.cells #[.float .f64 x0,.float .f64 x1] 84 (0,0)) :: g :: l)) (fun F' _=>((n:Int) - iv (gt F' 11)).toNat)
  ⟨0,_,_,pa,pb,P1,P2,by omega,⟨rfl,rfl,rfl,rfl,rfl⟩,⟨hBt,by show((Wo.new s (Wd.zero N)).act ⟨1,0,Go.Ma.Op.zero,shrv x0 s.p⟩).1.tr.length≤_;omega,by show((Wo.new s (Wd.zero N)).act ⟨1,0,Go.Ma.Op.zero,shrv x1 s.p⟩).1.tr.length≤_;omega,by show((Wo.new s (Wd.zero N)).act ⟨1,0,Go.Ma.Op.zero,shrv x0 s.p⟩).1.sp.length≤_;omega,by show((Wo.new s (Wd.zero N)).act ⟨1,0,Go.Ma.Op.zero,shrv x1 s.p⟩).1.sp.length≤_;omega⟩,⟨hP1,hP2⟩,hS⟩ ?_
 clear hS hy1 ry hP1 hP2 hx1 r1 hBt ha hb2 la lb za zb
 rintro F' H' ⟨i,A,B,pa,pb,P1,P2,hi,⟨e11,e1,e3,e7,e9⟩,⟨hB,ta,tb,sa,sb⟩,⟨hP1,hP2⟩,hS⟩
 have hx1:=hS.dropF.outL.look
 have rx:=fun o n=>rdn_of hx1 o n
 by_cases hlt:i<n
 rotate_left
 ·have d1:decide ((i:Int)<(n:Int))=false:=decide_eq_false (by omega)
  simp only[e11,e1,d1,↓DD,UU,↓reduceIte,xA,xB,xC,xD,xE,xF,xG,xH,xI,xJ,xK,xL,xM,xN,xO,xP,xQ,ne_eq,eq_self]
  have eA:=hB.a.es
  have eB:=hB.b.es
  have nA:(A.w.n:Int)=words s.p s.c s.m:=by have:=hB.a.wf.w.n;rw[eA]at this;exact this
  have nB:(B.w.n:Int)=words s.p s.c s.m:=by have:=hB.b.wf.w.n;rw[eB]at this;exact this
  have bln:=hB.n
  unfold blN at bln
  have hcn:=hB.all (liv:=livW s A.w.ws) (liv':=livW s B.w.ws) (by omega)
  refine draw_intro [(x,#[.int .i64 s.p,.int .i64 s.c,.int .i64 s.m],[])] (by simp only[hx1,↓DD,UU,↓reduceIte,xA,xB,xC,xD,xE,xF,xG,xH,xI,xJ,xK,xL,xM,xN,xO,xP,xQ,ne_eq,eq_self]) ?_
  simp only[hx1,rx,e3,e7,e9,↓DD,UU,↓reduceIte,xA,xB,xC,xD,xE,xF,xG,xH,xI,xJ,xK,xL,xM,xN,xO,xP,xQ,ne_eq,eq_self]
  refine callT_of (c_wordsW hB.a.wf hP1 hS) ?_
  rintro v H' ⟨a3,cap3,g3,rfl,hR3,hS⟩
  have hx1:=hS.tail.dropF.outL.look
  have rx:=fun o n=>rdn_of hx1 o n
  refine⟨by simp only[hx1,↓DD,UU,↓reduceIte,xA,xB,xC,xD,xE,xF,xG,xH,xI,xJ,xK,xL,xM,xN,xO,xP,xQ,ne_eq,eq_self],?_⟩
  simp only[e3,e7,e9,↓DD,UU,↓reduceIte,xA,xB,xC,xD,xE,xF,xG,xH,xI,xJ,xK,xL,xM,xN,xO,xP,xQ,ne_eq,eq_self]
  refine callT_of (c_ablocks hms nA hR3 (fun i _=>hB.a.wf.w.u i) hS) ?_
  rintro v H' ⟨ba3,bc3,g4,rfl,-,hS⟩
  have hS:=hS.tail.tail
  have hx1:=hS.dropF.outL.look
  have rx:=fun o n=>rdn_of hx1 o n
  refine⟨by simp only[hx1,↓DD,UU,↓reduceIte,xA,xB,xC,xD,xE,xF,xG,xH,xI,xJ,xK,xL,xM,xN,xO,xP,xQ,ne_eq,eq_self],?_⟩
  simp only[e3,e7,e9,↓DD,UU,↓reduceIte,xA,xB,xC,xD,xE,xF,xG,xH,xI,xJ,xK,xL,xM,xN,xO,xP,xQ,ne_eq,eq_self]
  refine callT_of (c_wordsW hB.b.wf hP2 (Sep.over (X:=P1) (L:=P2) hS)) ?_
  rintro v H' ⟨a3,cap3,g3,rfl,hR3,hS⟩
  have hx1:=hS.tail.dropF.outL.look
  have rx:=fun o n=>rdn_of hx1 o n
  refine⟨by simp only[hx1,↓DD,UU,↓reduceIte,xA,xB,xC,xD,xE,xF,xG,xH,xI,xJ,xK,xL,xM,xN,xO,xP,xQ,ne_eq,eq_self],?_⟩
  simp only[e3,e7,e9,↓DD,UU,↓reduceIte,xA,xB,xC,xD,xE,xF,xG,xH,xI,xJ,xK,xL,xM,xN,xO,xP,xQ,ne_eq,eq_self]
  refine callT_of (c_ablocks hms nB hR3 (fun i _=>hB.b.wf.w.u i) hS) ?_
  rintro v H' ⟨ba4,bc4,g4,rfl,-,hS⟩
  have hS:=Sep.over (X:=P2) (L:=P1) hS.tail.tail
  have hx1:=hS.dropF.outL.look
  have rx:=fun o n=>rdn_of hx1 o n
  refine⟨by simp only[hx1,↓DD,UU,↓reduceIte,xA,xB,xC,xD,xE,xF,xG,xH,xI,xJ,xK,xL,xM,xN,xO,xP,xQ,ne_eq,eq_self],?_⟩
  simp only[bln,↓DD,UU,↓reduceIte,xA,xB,xC,xD,xE,xF,xG,xH,xI,xJ,xK,xL,xM,xN,xO,xP,xQ,ne_eq,eq_self]
  refine draw_intro [(x,#[.int .i64 s.p,.int .i64 s.c,.int .i64 s.m],[])] (by simp only[hx1,↓DD,UU,↓reduceIte,xA,xB,xC,xD,xE,xF,xG,xH,xI,xJ,xK,xL,xM,xN,xO,xP,xQ,ne_eq,eq_self]) ?_
  have leq:(((blks s B.w.ws s.p.toNat).length:Int) == ((blks s B.w.ws s.p.toNat).length:Int))=true:=beq_self_eq_true _
  simp only[hx1,rx,e3,e7,e9,leq,↓DD,UU,↓reduceIte,xA,xB,xC,xD,xE,xF,xG,xH,xI,xJ,xK,xL,xM,xN,xO,xP,xQ,ne_eq,eq_self]
  refine callT_of (c_wordsW hB.a.wf hP1 hS) ?_
  rintro v H' ⟨a3,cap3,g3,rfl,hR3,hS⟩
  have hx1:=hS.tail.dropF.outL.look
  have rx:=fun o n=>rdn_of hx1 o n
  refine⟨by simp only[hx1,↓DD,UU,↓reduceIte,xA,xB,xC,xD,xE,xF,xG,xH,xI,xJ,xK,xL,xM,xN,xO,xP,xQ,ne_eq,eq_self],?_⟩
  simp only[e3,e7,e9,↓DD,UU,↓reduceIte,xA,xB,xC,xD,xE,xF,xG,xH,xI,xJ,xK,xL,xM,xN,xO,xP,xQ,ne_eq,eq_self]
  refine callT_of (c_awords hms nA hR3 (fun i _=>hB.a.wf.w.u i) hS) ?_
  rintro v H' ⟨rfl,hS⟩
  have hS:=hS.tail
  have hx1:=hS.dropF.outL.look
  have rx:=fun o n=>rdn_of hx1 o n
  refine⟨by simp only[hx1,↓DD,UU,↓reduceIte,xA,xB,xC,xD,xE,xF,xG,xH,xI,xJ,xK,xL,xM,xN,xO,xP,xQ,ne_eq,eq_self],?_⟩
  simp only[e3,e7,e9,↓DD,UU,↓reduceIte,xA,xB,xC,xD,xE,xF,xG,xH,xI,xJ,xK,xL,xM,xN,xO,xP,xQ,ne_eq,eq_self]
  refine callT_of (c_wordsW hB.b.wf hP2 (Sep.over (X:=P1) (L:=P2) hS)) ?_
  rintro v H' ⟨a3,cap3,g3,rfl,hR3,hS⟩
  have hx1:=hS.tail.dropF.outL.look
  have rx:=fun o n=>rdn_of hx1 o n
  refine⟨by simp only[hx1,↓DD,UU,↓reduceIte,xA,xB,xC,xD,xE,xF,xG,xH,xI,xJ,xK,xL,xM,xN,xO,xP,xQ,ne_eq,eq_self],?_⟩
  simp only[e3,e7,e9,↓DD,UU,↓reduceIte,xA,xB,xC,xD,xE,xF,xG,xH,xI,xJ,xK,xL,xM,xN,xO,xP,xQ,ne_eq,eq_self]
  refine callT_of (c_awords hms nB hR3 (fun i _=>hB.b.wf.w.u i) hS) ?_
  rintro v H' ⟨rfl,hS⟩
  have hS:=Sep.over (X:=P2) (L:=P1) hS.tail
  have hx1:=hS.dropF.outL.look
  refine⟨by simp only[hx1,↓DD,UU,↓reduceIte,xA,xB,xC,xD,xE,xF,xG,xH,xI,xJ,xK,xL,xM,xN,xO,xP,xQ,ne_eq,eq_self],?_⟩
  rw[hcn]
  have hq:∀ c:Cn,eqL [(0,false),(1,false),(2,false),(3,false)] (awC c) (awC c)=some true:=fun c=>by
   simp [eqL,eqS,awC]
  simp only[hq,↓DD,UU,↓reduceIte,xA,xB,xC,xD,xE,xF,xG,xH,xI,xJ,xK,xL,xM,xN,xO,xP,xQ,ne_eq,eq_self]
  exact hS.dropF.dropF.tail.tail
 have d1:decide ((i:Int)<(n:Int))=true:=decide_eq_true (by omega)
 have i0:(0:Int)≤(i:Int):=by omega
 have l1:(i:Int)<(n:Int):=by omega
 have wi:w64 ((i:Int)+1)=(i:Int)+1:=w64_eq (by omega) (by omega)
 obtain⟨b1,o1,ea1,hrd1⟩:=hr.at' hlt
 have hsub:=hS.dropF.dropF.sb g (by simp)
 have hrd:=ov_rd (rdn_sub hrd1 hsub)
 have e1':gt F' 1=.slice (some ⟨b1,o1,none⟩) n cap:=by rw[e1,ea1]
 simp only[e11,e1',e3,e7,e9,d1,i0,l1,hrd,hx1,rx,Int.toNat_natCast,↓DD,UU,↓reduceIte,xA,xB,xC,xD,xE,xF,xG,xH,xI,xJ,xK,xL,xM,xN,xO,xP,xQ,ne_eq,eq_self]
 obtain⟨m,hmm⟩:∃ m,IntKind.i64.wrap (1+(IntKind.i64.wrap ((ch i).n.tmod 32+32)).tmod 32)=m:=⟨_,rfl⟩
 have hsm1:small m=true:=by
  have t1:-32<(ch i).n.tmod 32∧(ch i).n.tmod 32<32:=⟨Int.lt_tmod_of_pos _ (by decide),Int.tmod_lt_of_pos _ (by decide)⟩
  rw[← hmm,wrap_w64,wrap_w64,w64_eq (n:=(ch i).n.tmod 32+32) (by omega) (by omega)]
  have t2:0≤((ch i).n.tmod 32+32).tmod 32∧((ch i).n.tmod 32+32).tmod 32<32:=⟨Int.tmod_nonneg _ (by omega),Int.tmod_lt_of_pos _ (by decide)⟩
  rw[w64_eq (by omega) (by omega)]
  unfold small within
  simp;omega
 have eA:=hB.a.es
 have eB:=hB.b.es
 have hlA:=Wo.ended_len (c:=0) (o:=⟨1,0,m⟩) hB.a.wf
 have hlB:=Wo.ended_len (c:=0) (o:=⟨1,0,m⟩) hB.b.wf
 obtain⟨k1,k2,k3,hBn⟩:=hB.ask hsm1
 have hca:=c_ask (W:=W) (X:=A) (c:=0) (o:=⟨1,0,m⟩) hB.a.wf hP1 (by omega) (by omega) hS
 rw[eA,k1]at hca
 rw[hmm]
 refine callT_of hca ?_
 rintro v H' ⟨rfl,pa2,Q1,hQ1,hS⟩
 have hx1:=hS.dropF.outL.look
 have rx:=fun o n=>rdn_of hx1 o n
 simp only[e9,e3,hx1,rx,↓DD,UU,↓reduceIte,xA,xB,xC,xD,xE,xF,xG,xH,xI,xJ,xK,xL,xM,xN,xO,xP,xQ,ne_eq,eq_self]
 have hcb:=c_ask (W:=W) (X:=B) (c:=0) (o:=⟨1,0,m⟩) hB.b.wf hP2 (by omega) (by omega) (Sep.over (X:=Q1) (L:=P2) hS)
 rw[eB,k2,← k3]at hcb
 refine callT_of hcb ?_
 rintro v H' ⟨rfl,pb2,Q2,hQ2,hS⟩
 have hS:=Sep.over (X:=Q2) (L:=Q1) hS
 have dne:(A.answ 0 ⟨1,0,m⟩ != A.answ 0 ⟨1,0,m⟩)=false:=bne_self_eq_false' ..
 simp only[e11,dne,wi,wrap_w64,↓DD,UU,↓reduceIte,xA,xB,xC,xD,xE,xF,xG,xH,xI,xJ,xK,xL,xM,xN,xO,xP,xQ,ne_eq,eq_self]
 refine⟨⟨i+1,_,_,pa2,pb2,Q1,Q2,by omega,⟨rfl,e1,e3,e7,e9⟩,⟨hBn,by omega,by omega,by omega,by omega⟩,⟨hQ1,hQ2⟩,hS⟩,?_⟩
 show(_ - ((i:Int)+1)).toNat<(_ - (i:Int)).toNat
 omega
theorem l_topbias {W:World} {ch:Nat→Go.Ma.Op} (p c m:Int) (_:-9223372036854775808≤p∧p≤9223372036854775807) (_:-9223372036854775808≤c∧c≤9223372036854775807) (_:-9223372036854775808≤m∧m≤9223372036854775807) (hn:n≤9223372036854775807) (hr:RowO (memOf W) a n ch) (x0 x1:Nat) :
  CallP Tryz.prog W 8 #[.agg #[.int .i64 p,.int .i64 c,.int .i64 m],.slice a n cap,.agg #[.float .f64 x0,.float .f64 x1]] (memOf W) fun v H'=>v=.bool true∧Sub (memOf W) H':=
 (c_topbias (sh:=⟨p,c,m⟩) hn hr (Sep.one _)).mono fun v H' ⟨h1,h2⟩=>⟨h1,h2.head⟩
end
end Go.Proofs.YtkjpgikjcfhckaaGreat
