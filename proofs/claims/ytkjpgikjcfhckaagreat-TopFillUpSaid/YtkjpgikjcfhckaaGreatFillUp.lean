/-
 TopFillUp, walked: filled, emptied, filled again. Conditions: none.
-/
import Derived.Test.YtkjpgikjcfhckaaGreatCodeX
import Derived.Test.YtkjpgikjcfhckaaGreatAsk
import Derived.Test.YtkjpgikjcfhckaaGreatAwX
import Derived.Test.YtkjpgikjcfhckaaGreatRowA
import Derived.Test.YtkjpgikjcfhckaaGreatMaW
open Nat renaming reduceAdd→xA,reduceMul→xB,reduceSub→xC,reduceEqDiff→xD,reduceBEq→xE,reduceLeDiff→xF,reduceLT→xG
open Int renaming reduceAdd→xH,reduceMul→xI,reduceSub→xJ,reduceLT→xK,reduceLE→xL,reduceToNat→xM,reduceEq→xN,reduceNe→xO,reduceBEq→xP,reduceBNe→xQ
set_option linter.unusedVariables false
set_option linter.unusedSectionVars false
set_option linter.unusedSimpArgs false
set_option maxRecDepth 8000
namespace Go.Proofs.YtkjpgikjcfhckaaGreat
open Go Go.Ev Go.Pl Go.Ma
section
variable {W:World} {H g:Hp} {l P:List Hp} {k cap n b:Nat} {a:Option Addr} {sh:Sh} {X:Wo} {pv:Nat→Value} {c:Int} {o:Go.Ma.Op}
def fuL (s:Sh) (x y:Nat) (h0 h1:Int) (l:List Hp):List Hp:=sg x (.cells #[.int .i64 s.p,.int .i64 s.c,.int .i64 s.m] 23 (0,0)) :: sg y (.cells #[.int .u16 h0,.int .u16 h1] 74 (0,0)) :: l
def fuG (x y k i:Nat) (F':Fr):Prop:=gt F' 10=.int .i64 (i:Int)∧gt F' 4=.pointer (some ⟨y,0,none⟩)∧gt F' 7=.pointer (some ⟨x,0,none⟩)∧gt F' 8=.pointer (some ⟨k,0,none⟩)
def fuO (s:Sh) (x y k:Nat) (h0 h1:Int) (l:List Hp) (F':Fr) (H':Hp):Prop:=
 ∃ (i:Nat) (X:Wo) (pv:Nat→Value) (P:List Hp),i≤2∧fuG x y k i F'∧(Fw s X∧blL s X = []∧X.tr.length≤6000000*i+3∧X.sp.length≤2000000*i+1)∧WoP k pv X P∧Sep (P ++ fuL s x y h0 h1 l) H'
def fuA (s:Sh) (x y k i:Nat) (h0 h1 z w:Int) (l:List Hp) (F':Fr) (H':Hp):Prop:=
 ∃ (j:Nat) (X:Wo) (pv:Nat→Value) (P:List Hp),(j:Int)≤w∧fuG x y k i F'∧(gt F' 17=.int .i64 (j:Int)∧gt F' 12=.int .i64 w∧gt F' 11=.int .i64 z)∧(FI s z j X∧X.tr.length≤6000000*i+3+30000*j∧X.sp.length≤2000000*i+1+10000*j)∧WoP k pv X P∧Sep (P ++ fuL s x y h0 h1 l) H'
def fuB (s:Sh) (x y k i:Nat) (h0 h1 w:Int) (bl:List (Int×Int)) (ba:Option Addr) (bc:Nat) (g4:Hp) (l:List Hp) (F':Fr) (H':Hp):Prop:=
 ∃ (q:Nat) (X:Wo) (pv:Nat→Value) (P:List Hp),q≤bl.length∧fuG x y k i F'∧(gt F' 23=.int .i64 (q:Int)∧gt F' 22=.slice ba bl.length bc)∧(Fr s bl (bl.length - q) X∧X.tr.length≤6000000*i+3+30000*(97+q)∧X.sp.length≤2000000*i+1+10000*(97+q))∧WoP k pv X P∧Sep (g4 :: (P ++ fuL s x y h0 h1 l)) H'
theorem want_bd {s:Sh} {z:Int} (h0:1≤s.p) (h1:s.p≤6) (z1:1≤z) (z2:z≤512):0≤want s z∧want s z≤96:=by
 unfold want
 split
 ·have hs:=slots_bd (cls z)
  have:=Int.mul_le_mul h1 hs.2 hs.1 (by decide:(0:Int)≤6)
  have:=Int.mul_nonneg (by omega:0≤s.p) hs.1
  omega
 ·rename_i hs
  have hp:=want_lg z1 z2 (by simpa using hs)
  have:=Int.ediv_nonneg (by omega:0≤s.p) (by omega:0≤pages z)
  have:=Int.ediv_le_self (pages z) (by omega:0≤s.p)
  omega
theorem c_topfillup {pg h0 h1:Int} {bias:Nat} (hpg:0≤pg∧pg≤255) (hh0:0≤h0∧h0≤65535) (hh1:0≤h1∧h1≤65535) (hS:Sep l H) :
  CallP Tryz.prog W 7 #[.int .u8 pg,.agg #[.int .u16 h0,.int .u16 h1],.float .f64 bias] H fun v H'=>v=.bool true∧Sep l H':=by
 refine CallP.of mixed Tryz.func7 tr7 (by show 3≤_;decide) fun W _=>?_
 have fc:∀ z:Nat,(Value.float .f64 z).cells=#[.float .f64 z]:=fun _=>rfl
 have fo:∀ z:Nat,Value.oneCell' (.float .f64 z)=true:=fun _=>rfl
 have cv1:IntKind.i64.wrap pg=pg:=by rw[wrap_w64];exact w64_eq (by omega) (by omega)
 simp only[↓DD,UU,xA,xE,eq_self]
 refine newB_intro fun y hy f1 f2=>?_
 have hS:=(hS.new f1 (.cells #[.int .u16 h0,.int .u16 h1] 74 (0,0)))
 simp only[↓DD,UU,xA]
 refine callT_of (c_awakeT hS) ?_
 rintro v H' ⟨rfl,hS⟩
 simp only[cv1,↓DD,UU,xA,xE,xN,ne_eq,eq_self]
 have ht:0≤pg.tmod 6∧pg.tmod 6<6:=⟨Int.tmod_nonneg _ hpg.1,Int.tmod_lt_of_pos _ (by decide)⟩
 have w1:IntKind.i64.wrap (1+pg.tmod 6)=1+pg.tmod 6:=by rw[wrap_w64];exact w64_eq (by omega) (by omega)
 obtain⟨s,hs⟩:∃ s:Sh,s=⟨1+pg.tmod 6,1,0⟩:=⟨_,rfl⟩
 have hsm:s.m=0:=by rw[hs]
 have hsp:s.p=1+pg.tmod 6:=by rw[hs]
 have hsc:s.c=1:=by rw[hs]
 have hms:may s.p s.c s.m=true:=(may_iff _ _ _).2 (by omega)
 obtain⟨N,hNs⟩:∃ N:Nat,(N:Int)=words s.p s.c s.m:=⟨(words s.p s.c s.m).toNat,by have:=words_le hms;omega⟩
 refine newB_intro fun x hx f3 f4=>?_
 have hS:=(hS.new f3 (.cells #[.int .i64 s.p,.int .i64 s.c,.int .i64 s.m] 23 (0,0)))
 have hx1:=hS.look
 have r1:=fun o n=>rdn_of hx1 o n
 rw[hs]at hx1 r1
 simp only[w1,r1,Ev.upd_upd,↓DD,UU,↓reduceIte,xA,xC,xE,xF,eq_self]
 have es:(.agg #[.int .i64 (1+pg.tmod 6),.int .i64 1,.int .i64 0]:Value)=.agg #[.int .i64 s.p,.int .i64 s.c,.int .i64 s.m]:=by rw[hs]
 have hS:Sep (fuL s x y h0 h1 l) (upd H' x (.cells #[.int .i64 (1+pg.tmod 6),.int .i64 1,.int .i64 0] 23 (0,0))):=by
  have h9:=hS
  unfold fuL
  rw[hs]at h9 ⊢
  exact h9
 rw[es]
 generalize upd H' x (.cells #[.int .i64 (1+pg.tmod 6),.int .i64 1,.int .i64 0] 23 (0,0))=H' at hS ⊢
 clear hx1 r1
 refine callT_of (c_begin hms hNs hS) ?_
 rintro v H' ⟨k,j0,pv,P,rfl,hP,hS⟩
 have hw:(Wo.new s (Wd.zero N)).wf:=Wo.new_wf hms hNs
 obtain⟨ha,za⟩:=Bw.new (b:=shrv bias s.p) hms hsm hNs (shrv_bd bias (by omega) (by omega)).1 (shrv_bd bias (by omega) (by omega)).2
 have la:=Wo.act_len (W:=Wo.new s (Wd.zero N)) (x:=⟨1,0,Go.Ma.Op.zero,shrv bias s.p⟩)
 have t0:(Wo.new s (Wd.zero N)).tr.length=0:=rfl
 have t1:(Wo.new s (Wd.zero N)).sp.length=0:=rfl
 have hfw:Fw s ((Wo.new s (Wd.zero N)).act ⟨1,0,Go.Ma.Op.zero,shrv bias s.p⟩).1:=⟨ha.wf,ha.es,ha.m,ha.k,ha.snd,fun q q0 q1=>by
  have:pgAt s ((Wo.new s (Wd.zero N)).act ⟨1,0,Go.Ma.Op.zero,shrv bias s.p⟩).1.w.ws q=0:=by unfold pgAt;rw[page_yes hms q0 q1];exact za _ (by omega)
  exact .inl (by rw[this];exact pgK_zero ..)⟩
 have hbl:blL s ((Wo.new s (Wd.zero N)).act ⟨1,0,Go.Ma.Op.zero,shrv bias s.p⟩).1 = []:=by
  refine List.eq_nil_iff_forall_not_mem.2 fun z hz=>?_
  obtain⟨p,hp,h⟩:=blks_mem.1 hz
  have e0:pgAt s ((Wo.new s (Wd.zero N)).act ⟨1,0,Go.Ma.Op.zero,shrv bias s.p⟩).1.w.ws p=0:=by unfold pgAt;rw[page_yes hms (by omega) (by omega)];exact za _ (by omega)
  rw[blkPg_none (by rw[e0,pgK_zero];decide) (by rw[e0,pgK_zero];decide)]at h
  cases h
 simp only[fc,↓DD,UU,↓reduceIte,xA,xE,eq_self]
 refine callT_of (c_wdo (x:=⟨1,0,Go.Ma.Op.zero,shrv bias s.p⟩) (bias:=bias) hw hP rfl (by omega) (by omega) hS) ?_
 rintro v H' ⟨rfl,pv,P,hP,-,hS⟩
 simp only[↓DD,UU,xA]
 refine loop_intro (fuO s x y k h0 h1 l) (fun F' _=>((2:Int) - iv (gt F' 10)).toNat) ⟨0,_,pv,P,by omega,⟨rfl,rfl,rfl,rfl⟩,⟨hfw,hbl,by omega,by omega⟩,hP,hS⟩ ?_
 clear hS hP hfw hbl la ha za
 rintro F' H' ⟨i,X,pv,P,hi,⟨e10,e4,e7,e8⟩,⟨hF,hbl,tu,su⟩,hP,hS⟩
 by_cases hlt:i<2
 rotate_left
 ·have d1:decide ((i:Int)<2)=false:=decide_eq_false (by omega)
  simp only[e10,d1,↓DD,UU,eq_self]
  have hx1:=hS.outL.look
  have rx:=fun o n=>rdn_of hx1 o n
  have rd0:=fun o=>rd_of hx1 o
  have w64p:w64 (s.p*64)=s.p*64:=w64_eq (by omega) (by omega)
  have nX:(X.w.n:Int)=words s.p s.c s.m:=by have:=hF.wf.w.n;rw[hF.es]at this;exact this
  have hall:=hF.all (liv:=livW s X.w.ws) hbl (by omega)
  refine draw_intro [(x,#[.int .i64 s.p,.int .i64 s.c,.int .i64 s.m],[])] (by simp only[hx1,↓DD,UU]) ?_
  simp only[rx,rd0,e7,e8,w64p,wrap_w64,↓DD,UU,↓reduceIte,xA,xC,xE,xF,eq_self]
  refine callT_of (c_wordsW hF.wf hP hS) ?_
  rintro v H' ⟨a3,cap3,g3,rfl,hR3,hS⟩
  have hx1:=hS.tail.outL.look
  refine⟨by simp only[hx1,↓DD,UU],?_⟩
  simp only[↓DD,UU,xE,eq_self]
  refine callT_of (c_awords hms nX hR3 (fun i _=>hF.wf.w.u i) hS) ?_
  rintro v H' ⟨rfl,hS⟩
  have hx1:=hS.tail.outL.look
  refine⟨by simp only[hx1,↓DD,UU],?_⟩
  have hq:(s.p*64 == s.p*64)=true:=beq_self_eq_true _
  simp only[awC,hall,hq,↓DD,UU,xE,eq_self]
  exact hS.tail.dropF.tail.tail
 have d1:decide ((i:Int)<2)=true:=decide_eq_true (by omega)
 have i0:(0:Int)≤(i:Int):=by omega
 have l1:(i:Int)<2:=by omega
 have wi:w64 ((i:Int)+1)=(i:Int)+1:=w64_eq (by omega) (by omega)
 have hy1:=hS.dropF.tail.look
 have ry:=fun o=>rd_of hy1 o
 obtain⟨hx9,hhx,hxr⟩:∃ hv:Int,(0≤hv∧hv≤65535)∧(#[Value.int .u16 h0,.int .u16 h1]:Array Value)[i]? = some (.int .u16 hv):=by
  rcases (by omega:i=0∨i=1) with rfl | rfl
  ·exact⟨h0,hh0,rfl⟩
  ·exact⟨h1,hh1,rfl⟩
 simp only[e10,e4,i0,l1,ry,hxr,Int.toNat_natCast,↓DD,UU,xE,xN,ne_eq,eq_self]
 have hx1:=hS.outL.look
 have rx:=fun o=>rd_of hx1 o
 have ht5:0≤hx9.tmod 512∧hx9.tmod 512<512:=⟨Int.tmod_nonneg _ hhx.1,Int.tmod_lt_of_pos _ (by decide)⟩
 have cv2:IntKind.i64.wrap hx9=hx9:=by rw[wrap_w64];exact w64_eq (by omega) (by omega)
 have w5:IntKind.i64.wrap (1+hx9.tmod 512)=1+hx9.tmod 512:=by rw[wrap_w64];exact w64_eq (by omega) (by omega)
 rw[cv2,w5]
 obtain⟨z,hz⟩:∃ z,1+hx9.tmod 512=z:=⟨_,rfl⟩
 rw[hz]
 have z1:1≤z:=by omega
 have z2:z≤512:=by omega
 have hwb:=want_bd (s:=s) (z:=z) (by omega) (by omega) z1 z2
 obtain⟨w,hwe⟩:∃ w,want s z=w:=⟨_,rfl⟩
 rw[hwe]at hwb
 cases hsz:small z
 have hwq:s.p.tdiv (pages z)=w:=by
  have hp:=want_lg z1 z2 hsz
  rw[← hwe];unfold want;rw[hsz,if_neg (by decide),Int.tdiv_eq_ediv_of_nonneg (by omega)]
 have hp0:(pages z=0)=False:=eq_false (by have:=want_lg z1 z2 hsz;omega)
 have hpw:IntKind.i64.wrap w=w:=by rw[wrap_w64];exact w64_eq (by omega) (by omega)
 simp only[u_class,u_run,hsz,e10,e7,rx,hwq,hp0,hpw,↓DD,UU,xE,ne_eq,eq_self]
 rotate_left
 have hwq:s.p*slots (cls z)=w:=by rw[← hwe];unfold want;rw[hsz,if_pos rfl]
 have hpw:IntKind.i64.wrap w=w:=by rw[wrap_w64];exact w64_eq (by omega) (by omega)
 simp only[u_class,u_slots,hsz,e10,e7,rx,hwq,hpw,↓DD,UU,xE,eq_self]
 all_goals
  refine loop_intro (fuA s x y k i h0 h1 z w l) (fun F' _=>(w - iv (gt F' 17)).toNat) ⟨0,X,pv,P,by omega,⟨by simp [gt,e10],by simp [gt,e4],by simp [gt,e7],by simp [gt,e8]⟩,⟨by simp [gt],by simp [gt],by simp [gt]⟩,⟨FI.zero hF hbl,by omega,by omega⟩,hP,hS⟩ ?_
  clear hS hP hx1 rx hy1 ry
  have e10o:=e10
  clear e10 e4 e7 e8
  rintro F' H' ⟨j,A,pa,Q,hj,⟨e10,e4,e7,e8⟩,⟨e17,e12,e11⟩,⟨hFI,ta,sa⟩,hQ,hS⟩
  have hx1:=hS.outL.look
  have rx:=fun o n=>rdn_of hx1 o n
  have eA:=hFI.fw.es
  have wj:w64 ((j:Int)+1)=(j:Int)+1:=w64_eq (by omega) (by omega)
  have hlA:=Wo.ended_len (c:=0) (o:=⟨1,0,z⟩) hFI.fw.wf
  by_cases hlt3:(j:Int)<w
  ·have d3:decide ((j:Int)<w)=true:=decide_eq_true hlt3
   obtain⟨k1,k2,k3⟩:=hFI.ask z1 z2 (by rw[hwe];exact hlt3)
   simp only[e17,e12,e11,e7,e8,rx,d3,↓DD,UU,↓reduceIte,xA,xC,xE,xF,eq_self]
   have hca:=c_ask (W:=W) (X:=A) (c:=0) (o:=⟨1,0,z⟩) hFI.fw.wf hQ (by omega) (by omega) hS
   rw[eA,k1,k2]at hca
   refine callT_of hca ?_
   rintro v H' ⟨rfl,pa2,Q2,hQ2,hS⟩
   simp only[e17,wj,wrap_w64,↓DD,UU,xE,eq_self]
   refine⟨⟨j+1,_,pa2,Q2,by omega,⟨e10,e4,e7,e8⟩,⟨rfl,e12,e11⟩,⟨k3,by omega,by omega⟩,hQ2,hS⟩,?_⟩
   show(_ - ((j:Int)+1)).toNat<(_ - (j:Int)).toNat
   omega
  have d3:decide ((j:Int)<w)=false:=decide_eq_false hlt3
  obtain⟨k1,k2,k3,k4⟩:=hFI.stop z1 z2 (by rw[hwe];omega)
  simp only[e17,e12,e11,e7,e8,rx,d3,↓DD,UU,↓reduceIte,xA,xC,xE,xF,eq_self]
  have hca:=c_ask (W:=W) (X:=A) (c:=0) (o:=⟨1,0,z⟩) hFI.fw.wf hQ (by omega) (by omega) hS
  rw[eA,k1,k2]at hca
  refine callT_of hca ?_
  rintro v H' ⟨rfl,pa2,Q2,hQ2,hS⟩
  have hx1:=hS.outL.look
  have rx:=fun o n=>rdn_of hx1 o n
  have nA:((A.ended 0 ⟨1,0,z⟩).w.n:Int)=words s.p s.c s.m:=by have:=k3.wf.w.n;rw[k3.es]at this;exact this
  simp only[↓DD,UU,xE,eq_self]
  refine draw_intro [(x,#[.int .i64 s.p,.int .i64 s.c,.int .i64 s.m],[])] (by simp only[hx1,↓DD,UU]) ?_
  simp only[rx,e7,e8,↓DD,UU,↓reduceIte,xA,xC,xE,xF,eq_self]
  refine callT_of (c_wordsW k3.wf hQ2 hS) ?_
  rintro v H' ⟨a3,cap3,g3,rfl,hR3,hS⟩
  have hx1:=hS.tail.outL.look
  refine⟨by simp only[hx1,↓DD,UU],?_⟩
  simp only[↓DD,UU,xE,eq_self]
  refine callT_of (c_ablocks hms nA hR3 (fun i _=>k3.wf.w.u i) hS) ?_
  rintro v H' ⟨ba,bc,g4,rfl,hBL,hS⟩
  have hx1:=hS.tail.tail.outL.look
  refine⟨by simp only[hx1,↓DD,UU],?_⟩
  have hS:Sep (g4 :: (Q2 ++ fuL s x y h0 h1 l)) H':=(Sep.p1 hS).tail
  obtain⟨bl,hble⟩:∃ bl,blks s (A.ended 0 ⟨1,0,z⟩).w.ws s.p.toNat=bl:=⟨_,rfl⟩
  have k4:bl.length=j:=by rw[← hble];exact k4
  rw[hble]at hBL ⊢
  have hjw:(j:Int)=w:=by omega
  have dl:((bl.length:Int) != w)=false:=by rw[k4,hjw];exact bne_self_eq_false' ..
  have e33:((3:Int) != 3)=false:=rfl
  simp only[e12,dl,e33,↓DD,UU,xE,eq_self]
  refine loop_intro (fuB s x y k i h0 h1 w bl ba bc g4 l) (fun F' _=>((bl.length:Int) - iv (gt F' 23)).toNat) ⟨0,_,pa2,Q2,by omega,⟨by simp [gt,e10],by simp [gt,e4],by simp [gt,e7],by simp [gt,e8]⟩,⟨by simp [gt],by simp [gt]⟩,⟨⟨k3,by rw[Nat.sub_zero,List.take_length];exact hble⟩,by omega,by omega⟩,hQ2,hS⟩ ?_
  clear hS hx1 rx hQ2 e10 e4 e7 e8 e17 e12 e11 nA hlA k3 k1 k2 hQ
  rintro F' H' ⟨q,B,pb,Q,hq,⟨e10,e4,e7,e8⟩,⟨e23,e22⟩,⟨hFr,tb,sb⟩,hQ,hS⟩
  by_cases hlt4:q<bl.length
  rotate_left
  ·have d4:decide ((q:Int)<(bl.length:Int))=false:=decide_eq_false (by omega)
   simp only[e23,e22,e10,d4,wi,wrap_w64,↓DD,UU,xE,eq_self]
   have hnil:blL s B = []:=by rw[hFr.n,show bl.length - q=0 by omega];rfl
   refine⟨⟨i+1,B,pb,Q,by omega,⟨rfl,e4,e7,e8⟩,⟨hFr.fw,hnil,by omega,by omega⟩,hQ,hS.tail⟩,?_⟩
   try rw[e10o]
   show(_ - ((i:Int)+1)).toNat<(_ - (i:Int)).toNat
   omega
  have d4:decide ((q:Int)<(bl.length:Int))=true:=decide_eq_true (by omega)
  obtain⟨r,hr⟩:∃ r:Nat,bl.length - q=r+1:=⟨bl.length - q - 1,by omega⟩
  have hrl:r<bl.length:=by omega
  obtain⟨yy,hyy⟩:∃ yy,bl[r]? = some yy:=⟨bl[r],List.getElem?_eq_getElem hrl⟩
  rw[hr]at hFr
  obtain⟨m1,m2,m3⟩:=hFr.free hyy
  have hlB:=Wo.ended_len (c:=0) (o:=⟨2,yy.1,0⟩) hFr.fw.wf
  have eB:=hFr.fw.es
  have wq:w64 ((q:Int)+1)=(q:Int)+1:=w64_eq (by omega) (by omega)
  have v1:w64 ((bl.length:Int) - 1)=(bl.length:Int) - 1:=w64_eq (by omega) (by omega)
  have v2:w64 ((bl.length:Int) - 1 - (q:Int))=(r:Int):=by rw[w64_eq (by omega) (by omega)];omega
  have r0:(0:Int)≤(r:Int):=by omega
  have r1:(r:Int)<(bl.length:Int):=by omega
  have hgd:bl.getD r (0,0)=yy:=by rw[List.getD_eq_getElem?_getD,hyy];rfl
  obtain⟨-,hb0,-⟩|⟨zb,cb,hba,hg4,hb1,hb2,hb3⟩:=hBL
  ·omega
  have hcell:cb[r*2]? = some (.int .i64 yy.1):=by have:=(hb3 r hrl).1;dsimp only at this;rw[hgd]at this;exact this
  rw[hg4]at hS
  have hz1:=hS.look
  have rz:=fun o=>rd_of hz1 o
  have hS3:=(Sep.inL (L:=Q) hS).dropF
  have nzx:(zb=x)=False:=hS3.neq 0 1 (by decide) rfl rfl
  have nxz:(x=zb)=False:=eq_false fun e=>(of_eq_false nzx) e.symm
  have hx1:=hS3.tail.look
  have rx:=fun o n=>rdn_of hx1 o n
  have e22':gt F' 22=.slice (some ⟨zb,0,none⟩) bl.length bc:=by rw[e22,hba]
  simp only[e23,e22',d4,↓DD,UU,xE,eq_self]
  refine draw_intro [(x,#[.int .i64 s.p,.int .i64 s.c,.int .i64 s.m],[]),(zb,cb,[])] (by simp only[hx1,hz1,↓DD,UU]) ?_
  simp only[e23,e22',e7,e8,rx,rz,hcell,nzx,v1,v2,r0,r1,wrap_w64,Int.toNat_natCast,↓DD,UU,↓reduceIte,xA,xC,xE,xF,xK,xL,xM,eq_self]
  have hca:=c_ask (W:=W) (X:=B) (c:=0) (o:=⟨2,yy.1,0⟩) hFr.fw.wf hQ (by omega) (by omega) (Sep.over (X:=[_]) (L:=Q) hS)
  rw[eB,m1,m2]at hca
  refine callT_of hca ?_
  rintro v H' ⟨rfl,pb2,Q2,hQ2,hS⟩
  have hS:=Sep.over (X:=Q2) (L:=[_]) hS
  have hz1:=hS.look
  have hx1:=(Sep.inL (L:=Q2) hS).dropF.tail.look
  refine⟨by simp only[hx1,hz1,↓DD,UU],?_⟩
  simp only[e23,wq,wrap_w64,↓DD,UU,xE,eq_self]
  refine⟨⟨q+1,_,pb2,Q2,by omega,⟨e10,e4,e7,e8⟩,⟨rfl,e22⟩,⟨by rw[show bl.length - (q+1)=r by omega];exact m3,by omega,by omega⟩,hQ2,by rw[hg4];exact hS⟩,?_⟩
  show(_ - ((q:Int)+1)).toNat<(_ - (q:Int)).toNat
  omega
theorem l_topfillup {W:World} (pg:Int) (hpg:0≤pg∧pg≤255) (h0 h1:Int) (hh0:0≤h0∧h0≤65535) (hh1:0≤h1∧h1≤65535) (bias:Nat) :
  CallP Tryz.prog W 7 #[.int .u8 pg,.agg #[.int .u16 h0,.int .u16 h1],.float .f64 bias] (memOf W) fun v H'=>v=.bool true∧Sub (memOf W) H':=
 (c_topfillup hpg hh0 hh1 (Sep.one _)).mono fun v H' ⟨h1,h2⟩=>⟨h1,h2.head⟩
end
end Go.Proofs.YtkjpgikjcfhckaaGreat
