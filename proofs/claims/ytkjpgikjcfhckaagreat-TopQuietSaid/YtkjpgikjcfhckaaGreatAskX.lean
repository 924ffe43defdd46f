/-
One asks, alone, to its answer: the statements' own ask, and awake. Conditions: none.
-/
import Derived.Test.YtkjpgikjcfhckaaGreatCodeX
import Derived.Test.YtkjpgikjcfhckaaGreatWla
import Derived.Test.YtkjpgikjcfhckaaGreatAwX
import Derived.Test.YtkjpgikjcfhckaaGreatRowA
open Nat renaming reduceAdd→xA,reduceMul→xB,reduceSub→xC,reduceEqDiff→xD,reduceBEq→xE,reduceLeDiff→xF,reduceLT→xG
open Int renaming reduceAdd→xH,reduceMul→xI,reduceSub→xJ,reduceLT→xK,reduceLE→xL,reduceToNat→xM,reduceEq→xN,reduceNe→xO,reduceBEq→xP,reduceBNe→xQ
set_option linter.unusedVariables false
set_option linter.unusedSectionVars false
set_option linter.unusedSimpArgs false
set_option maxRecDepth 8000
namespace Go.Proofs.YtkjpgikjcfhckaaGreat
open Go Go.Ev Go.Pl Go.Ma
theorem fm_at {α β : Type} {f:α→List β} {K:Nat} (hf:∀ a,(f a).length=K):∀ (l:List α) (i j:Nat),j<K→(l.flatMap f)[i*K+j]? = (l[i]?).bind fun a=>(f a)[j]?
 | [],i,j,h=>by simp
 |a :: r,0,j,h=>by
  rw[List.flatMap_cons,Nat.zero_mul,Nat.zero_add,List.getElem?_append_left (by rw[hf];exact h)]
  rfl
 |a :: r,i+1,j,h=>by
  rw[List.flatMap_cons,List.getElem?_append_right (by rw[hf,Nat.add_mul];omega),hf]
  have e:(i+1)*K+j - K=i*K+j:=by rw[Nat.add_mul];omega
  rw[e,fm_at hf r i j h]
  rfl
theorem Rw.cell {T:TypeId} {K:Nat} {a:Option Addr} {n cap:Nat} {vs:List Value} {g H:Hp} (h:Rw T K a n cap vs g) (hs:Sub g H) {q:Nat} (hq:q<n*K):∃ z,a=some ⟨z,0,none⟩∧Ev.rd H z q=vs[q]?:=by
 obtain⟨hl,⟨rfl,rfl,rfl,rfl⟩|⟨z,c,rfl,rfl,h1,h2,h3⟩⟩:=h
 ·omega
 ·refine⟨z,rfl,?_⟩
  rw[rd_of (hs z _ (sg_at _ _))]
  have hk:=Nat.mul_le_mul_right K h1
  have:(c.extract 0 (n*K))[q]? = vs.toArray[q]?:=by rw[h3]
  rw[Array.getElem?_extract,if_pos (by omega),Nat.zero_add]at this
  rw[this,List.getElem?_toArray]
theorem EvR.at' {a:Option Addr} {cap:Nat} {l:List Evt} {g H:Hp} (h:EvR a cap l g) (hs:Sub g H) {i:Nat} {e:Evt} (he:l[i]? = some e):∃ z,a=some ⟨z,0,none⟩∧∀ j,j<8→Ev.rd H z (i*8+j)=(evV e)[j]?:=by
 have hi:i<l.length:=(List.getElem?_eq_some_iff.1 he).1
 obtain⟨z,rfl,-⟩:=Rw.cell h hs (q:=i*8) (by omega)
 refine⟨z,rfl,fun j hj=>?_⟩
 obtain⟨z',ez,hr⟩:=Rw.cell h hs (q:=i*8+j) (by omega)
 injection ez with ez;injection ez with ez;subst ez
 rw[hr,fm_at (f:=evV) (K:=8) (fun _=>rfl) l i j hj,he]
 rfl
section
variable {W:World} {H g:Hp} {l P:List Hp} {k cap n b:Nat} {a:Option Addr} {sh:Sh} {X:Wo} {pv:Nat→Value} {c:Int} {o:Go.Ma.Op}
theorem c_widle (hX:X.wf) (hP:WoP k pv X P) {cl:Cl} (hc:c.toNat<X.s.c.toNat) (e:X.k c.toNat=some cl) (hS:Sep (P ++ l) H) :
  CallP Tryz.prog W 66 #[pv c.toNat] H fun v H'=>v=.bool (!cl.busy)∧Sep (P ++ l) H':=by
 obtain⟨b,s,kc,C,ta,tc,tg,sa,sc,sg',g,hC,ht,hs,hk⟩:=hP
 have hS:Ev.Sep ([woB k (woC X.s b kc C ta X.tr.length tc sa X.sp.length sc),wB b s X.w,wR s X.w,kcB kc C pv,tg,sg'] ++ (famL C g ++ l)) H:=hS
 have hd:c.toNat<C:=by omega
 have ho:=hk _ hd
 rw[e]at ho
 generalize hgc:g c.toNat=Pc at ho
 generalize hpv:pv c.toNat=v at ho ⊢
 cases ho with
 |yes kk x Pk hcl=>
  have h1:=Sep.pickF [_,_,_,_,_,_] hS hd
  rw[hgc]at h1
  refine(c_idle hcl h1).mono ?_
  rintro v H' ⟨rfl,hS⟩
  have:=Sep.backF (g':=g) [_,_,_,_,_,_] hS hd hgc fun d hd=>rfl
  exact⟨rfl,this⟩
theorem WoP.ptr (hX:X.wf) (hP:WoP k pv X P) {cl:Cl} (hc:c.toNat<X.s.c.toNat) (e:X.k c.toNat=some cl):∃ kk,pv c.toNat=.pointer (some ⟨kk,0,none⟩):=by
 obtain⟨b,s,kc,C,ta,tc,tg,sa,sc,sg',g,hC,ht,hs,hk⟩:=hP
 have ho:=hk c.toNat (by omega)
 rw[e]at ho
 generalize pv c.toNat=v at ho ⊢
 cases ho with
 | yes kk x Pk hcl=>exact⟨kk,rfl⟩
def asI (sh:Sh) (c:Int) (S:Nat) (X1:Wo) (T L:Nat) (pv:Nat→Value) (k x:Nat) (l:List Hp) (F':Fr) (H':Hp):Prop:=
 ∃ (i:Nat) (Xi:Wo) (Pi:List Hp),i≤S∧gt F' 11=.int .i64 (i:Int)∧(gt F' 0=.pointer (some ⟨k,0,none⟩)∧gt F' 2=.int .i64 c∧gt F' 5=.pointer (some ⟨x,0,none⟩)∧gt F' 10=pv c.toNat) ∧
  (Xi.wf∧Xi.s=sh∧Xi.go c (S - i)=X1.go c S∧Xi.tr.length≤T+3*i∧Xi.sp.length≤L+i∧∃ cl,Xi.k c.toNat=some cl)∧WoP k pv Xi Pi∧Sep (Pi ++ (sg x (.cells #[.int .i64 sh.p,.int .i64 sh.c,.int .i64 sh.m] 23 (0,0)) :: l)) H'
theorem c_ask (hX:X.wf) (hP:WoP k pv X P) (hl:X.tr.length≤900000000) (hl2:X.sp.length≤900000000) (hS:Sep (P ++ l) H) :
  CallP Tryz.prog W 32 #[.pointer (some ⟨k,0,none⟩),.agg #[.int .i64 X.s.p,.int .i64 X.s.c,.int .i64 X.s.m],.int .i64 c,.agg #[.int .i64 o.k,.int .i64 o.a,.int .i64 o.n]] H fun v H'=>v=.tuple #[.int .i64 (X.answ c o),.bool (X.okd c o)]∧∃ pv' P',WoP k pv' (X.ended c o) P'∧Sep (P' ++ l) H':=by
 refine CallP.of mixed Tryz.func32 tr32 (by show 4≤_;decide) fun W _=>?_
 have hb:=(may_iff _ _ _).1 hX.m
 simp only[↓DD,UU,xA,xE]
 refine newB_intro fun x hx f1 f2=>?_
 have hS:=(hS.new f1 (.cells #[.int .i64 X.s.p,.int .i64 X.s.c,.int .i64 X.s.m] 23 (0,0)))
 have hx1:=hS.look
 simp only[↓DD,UU,xA,xE]
 refine newB_intro fun y hy f3 f4=>?_
 have nxy:(x=y)=False:=f3 x (by rw[hx1];rfl)
 have nyx:(y=x)=False:=f4 x (by rw[hx1];rfl)
 have hS:=(hS.new f3 (.cells #[.int .i64 o.k,.int .i64 o.a,.int .i64 o.n] 34 (0,0)))
 have hx1:=hS.lk 1 rfl
 have hy1:=hS.look
 have ry:=fun o n=>rdn_of hy1 o n
 simp only[ry,↓DD,UU,↓reduceIte,xA,xC,xE,xF]
 refine callT_of (c_wdo (x:=⟨2,c,o,0⟩) (bias:=0) hX hP (shrv_zero _ (by omega) (by omega)).symm (by omega) (by omega) (Sep.over (X:=[_,_]) (L:=P) hS)) ?_
 rintro v H' ⟨rfl,pv',P',hP',hpv,hS⟩
 have hS:=Sep.over (X:=P') (L:=[_,_]) hS
 have hx1:=hS.lk 1 rfl
 have hX1:(X.act ⟨2,c,o,0⟩).1.wf:=Wo.act_wf hX (Wo.fit0 hX)
 have hs1:(X.act ⟨2,c,o,0⟩).1.s=X.s:=Wo.act_s
 have hln:=Wo.act_len (W:=X) (x:=⟨2,c,o,0⟩)
 unfold Wo.answ Wo.okd Wo.ended Wo.askd
 have hask:=Wo.act_asked (c:=c) (o:=o) hX
 generalize hA:X.act ⟨2,c,o,0⟩ = A at *
 obtain⟨X1,e1⟩:=A
 dsimp only at *
 by_cases he:e1=0
 rotate_left
 ·have g1:(e1 != 0)=true:=by simpa using he
  simp only[g1,↓DD,UU,xA,xE,ne_eq]
  rw[if_pos he]
  have g2:(e1 == 0)=false:=by simpa using he
  rw[g2]
  exact⟨rfl,pv',P',hP',hS.tail.tail⟩
 subst he
 have g1:((0:Int) != 0)=false:=rfl
 simp only[g1,↓DD,UU,xA,xE,xP,ne_eq]
 obtain⟨c0,c1,cl,hcl⟩:=hask rfl
 refine callT_of (c_wclient (c:=c) hP' (Sep.over (X:=[_,_]) (L:=P') hS)) ?_
 rintro v H' ⟨rfl,hS⟩
 have hS:=Sep.over (X:=P') (L:=[_,_]) hS
 have gif:(if 0≤c∧c<X1.s.c then pv' c.toNat else .pointer none)=pv' c.toNat:=if_pos ⟨c0,by rw[hs1];exact c1⟩
 rw[gif]
 have hcn:c.toNat<X1.s.c.toNat:=by rw[hs1];omega
 obtain⟨kk,hkk⟩:=WoP.ptr hX1 hP' hcn hcl
 simp only[hkk,↓DD,UU,↓reduceIte,xA]
 have hsm:steps X.s.p X.s.c X.s.m=110*X.s.p+4*X.s.m+60:=by unfold steps;rw[if_pos hX.m]
 obtain⟨S,hSS⟩:∃ S:Nat,(S:Int)=110*X.s.p+4*X.s.m+60:=⟨(110*X.s.p+4*X.s.m+60).toNat,by omega⟩
 have hS3:(110*X.s.p+4*X.s.m+60).toNat=S:=by omega
 simp only[hcl,hS3,Option.isSome_some,Bool.true_and]
 have hS2:Ev.Sep (P' ++ (sg x (.cells #[.int .i64 X.s.p,.int .i64 X.s.c,.int .i64 X.s.m] 23 (0,0)) :: l)) H':=Sep.over (X:=[_]) (L:=P') hS.tail
 refine loop_intro (asI X.s c S X1 (X.tr.length+3) (X.sp.length+1) pv' k x l) (fun F' _=>(110*X.s.p+4*X.s.m+60 - iv (gt F' 11)).toNat) ⟨0,X1,P',by omega,by simp [gt],⟨by simp [gt],by simp [gt],by simp [gt],by simp [gt,hkk]⟩,⟨hX1,hs1,rfl,by omega,by omega,cl,hcl⟩,hP',hS2⟩ ?_
 clear hS hS2 hx1 hP'
 rintro F' H' ⟨i,Xi,Pi,hi,e11,⟨e0,e2,e5,e10⟩,⟨hXi,hsi,hgo,hti,hpi,cli,hcli⟩,hPi,hS⟩
 have hx1:H' x=_:=hS.outL.look
 have rx:=fun o n=>rdn_of hx1 o n
 have hcn:c.toNat<Xi.s.c.toNat:=by rw[hsi];omega
 have hwi:=c_widle (W:=W) hXi hPi hcn hcli hS
 by_cases hlt:i<S
 have d1:decide ((i:Int)<110*X.s.p+4*X.s.m+60)=true:=decide_eq_true (by omega)
 obtain⟨M,hM⟩:∃ M,S - i=M+1:=⟨S - i - 1,by omega⟩
 rw[hkk]at hwi
 simp only[e11,e5,e10,hkk,rx,v_steps,hsm,d1,↓DD,UU,↓reduceIte,xA,xC,xE,xF]
 refine callT_of hwi ?_
 rintro v H' ⟨rfl,hS⟩
 cases hbu:cli.busy
 rotate_left
 ·simp only[e0,e2,↓DD,UU,xA,xE]
  have hps:Xi.s.p=X.s.p:=by rw[hsi]
  refine callT_of (c_wdo (x:=⟨3,c,Go.Ma.Op.zero,0⟩) (bias:=0) hXi hPi (shrv_zero _ (by omega) (by omega)).symm (by omega) (by omega) hS) ?_
  rintro v H' ⟨rfl,pv2,P2,hP2,hpv,hS⟩
  obtain rfl:=hpv (.inl rfl)
  have hX2:(Xi.act ⟨3,c,Go.Ma.Op.zero,0⟩).1.wf:=Wo.act_wf hXi (Wo.fit0 hXi)
  have hs2:(Xi.act ⟨3,c,Go.Ma.Op.zero,0⟩).1.s=Xi.s:=Wo.act_s
  have hln2:=Wo.act_len (W:=Xi) (x:=⟨3,c,Go.Ma.Op.zero,0⟩)
  have hli:=Wo.act_lives (c:=c) (o:=Go.Ma.Op.zero) hXi hcli
  have wi:w64 ((i:Int)+1)=(i:Int)+1:=w64_eq (by omega) (by omega)
  simp only[e11,wi,wrap_w64,↓DD,UU,xE]
  refine⟨⟨i+1,_,P2,by omega,rfl,⟨e0,e2,e5,e10⟩,⟨hX2,hs2.trans hsi,?_,by omega,by omega,hli⟩,hP2,hS⟩,?_⟩
  ·rw[← hgo,hM,show S - (i+1)=M by omega]
   show _=if Xi.busy c then _ else _
   unfold Wo.busy;rw[hcli];dsimp only;rw[if_pos hbu]
  ·show _<(_ - (i:Int)).toNat
   show(_ - ((i:Int)+1)).toNat<_
   omega
 ·have d1:decide ((i:Int)<110*X.s.p+4*X.s.m+60)=false:=decide_eq_false (by omega)
  have hgx:X1.go c S=Xi:=by rw[← hgo,show S - i=0 by omega];rfl
  simp only[e11,e0,e5,rx,v_steps,hsm,d1,↓DD,UU,↓reduceIte,xA,xC,xE,xF]
  refine callT_of (c_trace (by omega) hPi hS) ?_
  rintro v H' ⟨a,cap,g',rfl,hE,hS⟩
  have hwi:=c_widle (W:=W) hXi hPi hcn hcli (Sep.over (X:=[g']) (L:=Pi) hS)
  rw[hkk]at hwi
  simp only[e10,hkk,↓DD,UU,xE]
  refine callT_of hwi ?_
  rintro v H' ⟨rfl,hS⟩
  have hS:=Sep.over (X:=Pi) (L:=[g']) hS
  rw[hgx]
  unfold Wo.heard Wo.busy
  rw[hcli]
  cases hb:cli.busy
  rotate_left
  ·simp only[hb,↓DD,UU,xE]
   exact⟨rfl,pv',Pi,hPi,hS.tail.outL.tail⟩
  by_cases hn:Xi.tr.length=0
  ·have h1:Xi.tr.isEmpty=true:=by rw[List.isEmpty_iff];exact List.length_eq_zero_iff.1 hn
   simp only[hb,hn,h1,↓DD,UU,xE]
   exact⟨rfl,pv',Pi,hPi,hS.tail.outL.tail⟩
  have h1:Xi.tr.isEmpty=false:=by rw[Bool.eq_false_iff];intro h;rw[List.isEmpty_iff]at h;exact hn (by rw[h];rfl)
  have hla:Xi.tr[Xi.tr.length - 1]? = some Xi.lastE:=by
   unfold Wo.lastE
   rw[List.getLastD_eq_getLast?,List.getLast?_eq_getElem?]
   cases e:Xi.tr[Xi.tr.length - 1]? with
   | none=>rw[List.getElem?_eq_none_iff]at e;omega
   | some y=>rfl
  obtain⟨z,rfl,hr⟩:=EvR.at' hE (Sep.at_sub hS 0) hla
  have w1:w64 ((Xi.tr.length:Int) - 1)=(Xi.tr.length:Int) - 1:=w64_eq (by omega) (by omega)
  have w2:((Xi.tr.length:Int) - 1).toNat=Xi.tr.length - 1:=by omega
  have w3:((Xi.tr.length:Int) == 0)=false:=beq_eq_false_iff_ne.2 (by omega)
  have l1:(0:Int)≤(Xi.tr.length:Int) - 1:=by omega
  have l2:(Xi.tr.length:Int) - 1<Xi.tr.length:=by omega
  have hr0:Ev.rd H' z ((Xi.tr.length - 1)*8)=some (.int .i64 Xi.lastE.k):=hr 0 (by omega)
  have hr1:Ev.rd H' z ((Xi.tr.length - 1)*8+1)=some (.int .i64 Xi.lastE.c):=hr 1 (by omega)
  have hr7:Ev.rd H' z ((Xi.tr.length - 1)*8+7)=some (.int .i64 Xi.lastE.e):=hr 7 (by omega)
  by_cases g5:Xi.lastE.k=5
  rotate_left
  ·have g6:(Xi.lastE.k == 5)=false:=beq_eq_false_iff_ne.2 g5
   have g7:(Xi.lastE.k != 5)=true:=bne_iff_ne.2 g5
   simp only[hb,h1,w1,w2,w3,l1,l2,hr0,g6,g7,wrap_w64,↓DD,UU,xE]
   exact⟨rfl,pv',Pi,hPi,hS.tail.outL.tail⟩
  have g6:(Xi.lastE.k == 5)=true:=beq_iff_eq.2 g5
  have g7:(Xi.lastE.k != 5)=false:=by unfold bne;rw[g6];rfl
  by_cases gc:Xi.lastE.c=c
  rotate_left
  ·have g8:(Xi.lastE.c == c)=false:=beq_eq_false_iff_ne.2 gc
   have g9:(Xi.lastE.c != c)=true:=bne_iff_ne.2 gc
   simp only[hb,h1,w1,w2,w3,l1,l2,hr0,hr1,e2,g6,g7,g8,g9,wrap_w64,↓DD,UU,↓reduceIte,xE]
   exact⟨pv',Pi,hPi,hS.tail.outL.tail⟩
  have g8:(Xi.lastE.c == c)=true:=beq_iff_eq.2 gc
  have g9:(Xi.lastE.c != c)=false:=by unfold bne;rw[g8];rfl
  simp only[hb,h1,w1,w2,w3,l1,l2,hr0,hr1,hr7,e2,g6,g7,g8,g9,wrap_w64,↓DD,UU,↓reduceIte,xE]
  exact⟨pv',Pi,hPi,hS.tail.outL.tail⟩
 have hgx:X1.go c S=Xi:=by rw[← hgo,hM];unfold Wo.go Wo.busy;rw[hcli];dsimp only;rw[if_neg (by rw[hbu];exact Bool.false_ne_true)]
 simp only[e0,↓DD,UU,xE]
 refine callT_of (c_trace (by omega) hPi hS) ?_
 rintro v H' ⟨a,cap,g',rfl,hE,hS⟩
 have hwi:=c_widle (W:=W) hXi hPi hcn hcli (Sep.over (X:=[g']) (L:=Pi) hS)
 rw[hkk]at hwi
 simp only[e10,hkk,↓DD,UU,xE]
 refine callT_of hwi ?_
 rintro v H' ⟨rfl,hS⟩
 have hS:=Sep.over (X:=Pi) (L:=[g']) hS
 rw[hgx]
 unfold Wo.heard Wo.busy
 rw[hcli]
 cases hb:cli.busy
 rotate_left
 ·simp only[hb,↓DD,UU,xE]
  exact⟨rfl,pv',Pi,hPi,hS.tail.outL.tail⟩
 by_cases hn:Xi.tr.length=0
 ·have h1:Xi.tr.isEmpty=true:=by rw[List.isEmpty_iff];exact List.length_eq_zero_iff.1 hn
  simp only[hb,hn,h1,↓DD,UU,xE]
  exact⟨rfl,pv',Pi,hPi,hS.tail.outL.tail⟩
 have h1:Xi.tr.isEmpty=false:=by rw[Bool.eq_false_iff];intro h;rw[List.isEmpty_iff]at h;exact hn (by rw[h];rfl)
 have hla:Xi.tr[Xi.tr.length - 1]? = some Xi.lastE:=by
  unfold Wo.lastE
  rw[List.getLastD_eq_getLast?,List.getLast?_eq_getElem?]
  cases e:Xi.tr[Xi.tr.length - 1]? with
  | none=>rw[List.getElem?_eq_none_iff]at e;omega
  | some y=>rfl
 obtain⟨z,rfl,hr⟩:=EvR.at' hE (Sep.at_sub hS 0) hla
 have w1:w64 ((Xi.tr.length:Int) - 1)=(Xi.tr.length:Int) - 1:=w64_eq (by omega) (by omega)
 have w2:((Xi.tr.length:Int) - 1).toNat=Xi.tr.length - 1:=by omega
 have w3:((Xi.tr.length:Int) == 0)=false:=beq_eq_false_iff_ne.2 (by omega)
 have l1:(0:Int)≤(Xi.tr.length:Int) - 1:=by omega
 have l2:(Xi.tr.length:Int) - 1<Xi.tr.length:=by omega
 have hr0:Ev.rd H' z ((Xi.tr.length - 1)*8)=some (.int .i64 Xi.lastE.k):=hr 0 (by omega)
 have hr1:Ev.rd H' z ((Xi.tr.length - 1)*8+1)=some (.int .i64 Xi.lastE.c):=hr 1 (by omega)
 have hr7:Ev.rd H' z ((Xi.tr.length - 1)*8+7)=some (.int .i64 Xi.lastE.e):=hr 7 (by omega)
 by_cases g5:Xi.lastE.k=5
 rotate_left
 ·have g6:(Xi.lastE.k == 5)=false:=beq_eq_false_iff_ne.2 g5
  have g7:(Xi.lastE.k != 5)=true:=bne_iff_ne.2 g5
  simp only[hb,h1,w1,w2,w3,l1,l2,hr0,g6,g7,wrap_w64,↓DD,UU,xE]
  exact⟨rfl,pv',Pi,hPi,hS.tail.outL.tail⟩
 have g6:(Xi.lastE.k == 5)=true:=beq_iff_eq.2 g5
 have g7:(Xi.lastE.k != 5)=false:=by unfold bne;rw[g6];rfl
 by_cases gc:Xi.lastE.c=c
 rotate_left
 ·have g8:(Xi.lastE.c == c)=false:=beq_eq_false_iff_ne.2 gc
  have g9:(Xi.lastE.c != c)=true:=bne_iff_ne.2 gc
  simp only[hb,h1,w1,w2,w3,l1,l2,hr0,hr1,e2,g6,g7,g8,g9,wrap_w64,↓DD,UU,↓reduceIte,xE]
  exact⟨pv',Pi,hPi,hS.tail.outL.tail⟩
 have g8:(Xi.lastE.c == c)=true:=beq_iff_eq.2 gc
 have g9:(Xi.lastE.c != c)=false:=by unfold bne;rw[g8];rfl
 simp only[hb,h1,w1,w2,w3,l1,l2,hr0,hr1,hr7,e2,g6,g7,g8,g9,wrap_w64,↓DD,UU,↓reduceIte,xE]
 exact⟨pv',Pi,hPi,hS.tail.outL.tail⟩
theorem aw_said:((aw0.okd 0 ⟨1,0,100⟩,aw0.answ 0 ⟨1,0,100⟩),(aw1.okd 0 ⟨1,0,1⟩,aw1.answ 0 ⟨1,0,1⟩),(aw2.okd 0 ⟨2,0,0⟩,aw2.answ 0 ⟨2,0,0⟩),(Cn.all (livW ⟨2,1,1⟩ aw3.w.ws) ⟨2,1,1⟩ aw3.w.ws 2).fr)=((true,0),(true,3),(true,0),128):=by decide +kernel
theorem c_awakeT (hS:Sep l H):CallP Tryz.prog W 10 #[] H fun v H'=>v=.bool true∧Sep l H':=by
 refine CallP.of mixed Tryz.func10 tr10 (by show 0≤_;decide) fun W _=>?_
 simp only[↓DD,UU,xA]
 refine newB_intro fun x hx f1 f2=>?_
 have hS:=(hS.new f1 (.cells #[.int .i64 2,.int .i64 1,.int .i64 1] 23 (0,0)))
 have hx1:=hS.look
 have r1:=fun o n=>rdn_of hx1 o n
 simp only[r1,↓DD,UU,↓reduceIte,xA,xC,xE,xF]
 refine callT_of (c_begin (sh:=⟨2,1,1⟩) (n:=36) (by decide) (by decide) hS) ?_
 rintro v H' ⟨k,j,pv,P,rfl,hP,hS⟩
 have hw0:(Wo.new ⟨2,1,1⟩ (Wd.zero 36)).wf:=Wo.new_wf (by decide) (by decide)
 simp only[↓DD,UU,↓reduceIte,xE]
 refine callT_of (c_wdo (x:=⟨1,0,Go.Ma.Op.zero,0⟩) (bias:=0) hw0 hP (shrv_zero _ (by decide) (by decide)).symm (by decide) (by decide) hS) ?_
 rintro v H' ⟨rfl,pv0,P0,hP0,-,hS⟩
 have hx1:=hS.outL.look
 have r1:=fun o n=>rdn_of hx1 o n
 obtain⟨⟨n0,n0'⟩,⟨n1,n1'⟩,n2,n2'⟩:=aw_len
 obtain⟨s1,s2,s3,s4⟩:=by
  have h:=aw_said
  simp only[Prod.mk.injEq]at h
  exact h
 simp only[r1,↓DD,UU,↓reduceIte,xA,xC,xE,xF]
 refine callT_of (c_ask (X:=aw0) (c:=0) (o:=⟨1,0,100⟩) aw0_wf hP0 (by omega) (by omega) hS) ?_
 rintro v H' ⟨rfl,pv1,P1,hP1,hS⟩
 have hx1:=hS.outL.look
 have r1:=fun o n=>rdn_of hx1 o n
 simp only[r1,s1,↓DD,UU,↓reduceIte,xA,xC,xE,xF]
 refine callT_of (c_ask (X:=aw1) (c:=0) (o:=⟨1,0,1⟩) aw1_wf hP1 (by omega) (by omega) hS) ?_
 rintro v H' ⟨rfl,pv2,P2,hP2,hS⟩
 have hx1:=hS.outL.look
 have r1:=fun o n=>rdn_of hx1 o n
 simp only[r1,s2,↓DD,UU,↓reduceIte,xA,xC,xE,xF]
 refine callT_of (c_ask (X:=aw2) (c:=0) (o:=⟨2,0,0⟩) aw2_wf hP2 (by omega) (by omega) hS) ?_
 rintro v H' ⟨rfl,pv3,P3,hP3,hS⟩
 have hx1:=hS.outL.look
 have r1:=fun o n=>rdn_of hx1 o n
 simp only[s3,↓DD,UU,xE]
 refine draw_intro [(x,#[.int .i64 2,.int .i64 1,.int .i64 1],[])] (by simp only[hx1,↓DD,UU]) ?_
 simp only[r1,s1,s2,↓DD,UU,↓reduceIte,xA,xC,xE,xF]
 refine callT_of (c_wordsW aw3_wf hP3 hS) ?_
 rintro v H' ⟨a,cap,g,rfl,hR,hS⟩
 have hx1:=hS.tail.outL.look
 have hs3:aw3.s=⟨2,1,1⟩:=by unfold aw3 aw2 aw1;rw[Wo.ended_s,Wo.ended_s,Wo.ended_s];unfold aw0;rw[Wo.act_s];rfl
 have hn3:(aw3.w.n:Int)=words 2 1 1:=by have:=aw3_wf.w.n;rw[hs3]at this;exact this
 refine⟨by simp only[hx1,↓DD,UU],?_⟩
 simp only[↓DD,UU,xE]
 refine callT_of (c_awords (sh:=⟨2,1,1⟩) (by decide) hn3 hR (fun i _=>aw3_wf.w.u i) hS) ?_
 rintro v H' ⟨rfl,hS⟩
 have hx1:=hS.tail.outL.look
 refine⟨by simp only[hx1,↓DD,UU],?_⟩
 simp only[awC,↓DD,UU,xE,xM]
 exact⟨by rw[s4];rfl,hS.tail.dropF.tail⟩
end
end Go.Proofs.YtkjpgikjcfhckaaGreat
set_option maxRecDepth 8000
namespace Go.Proofs.YtkjpgikjcfhckaaGreat
open Go Go.Ev Go.Pl Go.Ma
def chq (s:Sh) (x:Chr):Ch:=⟨x.k,x.c,x.o,shrv x.b s.p⟩
theorem chq_fit {X:Wo} (hX:X.wf) (x:Chr):X.fit (chq X.s x):=by
 have hb:=(may_iff _ _ _).1 hX.m
 have:=shrv_bd x.b (n:=X.s.p) (by omega) (by omega)
 exact⟨this.1,this.2⟩
section
variable {P:Program} {W:World} {L:Fr→Hp→Prop} {F:Fr} {H:Hp} {R:List (Nat×Array Value×List Nat)}
def altT (p:Prop) (_x:Tag p:=.mk):Prop:=p
end
theorem AcR.cells {a:Option Addr} {cap:Nat} {l:List Acs} {g:Hp} (h:AcR a cap l g) {i:Nat} {e:Acs} (he:l[i]? = some e):∃ z c T f,a=some ⟨z,0,none⟩∧g=sg z (.cells c T f)∧∀ j,j<6→c[i*6+j]? = (acV e)[j]?:=by
 have hi:i<l.length:=(List.getElem?_eq_some_iff.1 he).1
 obtain⟨hl,⟨rfl,h0,rfl,rfl⟩|⟨z,c,rfl,rfl,h1,h2,h3⟩⟩:=h
 ·omega
 ·refine⟨z,c,_,_,rfl,rfl,fun j hj=>?_⟩
  have:(c.extract 0 (l.length*6))[i*6+j]? = (l.flatMap acV).toArray[i*6+j]?:=by rw[h3]
  rw[Array.getElem?_extract,if_pos (by omega),Nat.zero_add]at this
  rw[this,List.getElem?_toArray,fm_at (f:=acV) (K:=6) (fun _=>rfl) l i j hj,he]
  rfl
theorem EvR.cells {a:Option Addr} {cap:Nat} {l:List Evt} {g:Hp} (h:EvR a cap l g) {i:Nat} {e:Evt} (he:l[i]? = some e):∃ z c T f,a=some ⟨z,0,none⟩∧g=sg z (.cells c T f)∧∀ j,j<8→c[i*8+j]? = (evV e)[j]?:=by
 have hi:i<l.length:=(List.getElem?_eq_some_iff.1 he).1
 obtain⟨hl,⟨rfl,h0,rfl,rfl⟩|⟨z,c,rfl,rfl,h1,h2,h3⟩⟩:=h
 ·omega
 ·refine⟨z,c,_,_,rfl,rfl,fun j hj=>?_⟩
  have:(c.extract 0 (l.length*8))[i*8+j]? = (l.flatMap evV).toArray[i*8+j]?:=by rw[h3]
  rw[Array.getElem?_extract,if_pos (by omega),Nat.zero_add]at this
  rw[this,List.getElem?_toArray,fm_at (f:=evV) (K:=8) (fun _=>rfl) l i j hj,he]
  rfl
section
variable {W:World} {H g:Hp} {l P:List Hp} {k cap n b:Nat} {a:Option Addr} {sh:Sh} {X:Wo} {pv:Nat→Value} {c:Int} {o:Go.Ma.Op}
theorem c_few (m:Int) (hS:Sep l H):CallP Tryz.prog W 11 #[.slice a n cap,.int .i64 m] H fun v H'=>v=.bool (decide ((n:Int)≤m))∧Sep l H':=by
 refine CallP.of mixed Tryz.func11 tr11 (by show 2≤_;decide) fun W _=>?_
 simp only[↓DD,UU,xA,xE]
 exact hS
theorem c_choice (x:Chr) (hS:Sep l H):CallP Tryz.prog W 14 #[.agg (cv x)] H fun v H'=>v=.agg (cv x)∧Sep l H':=by
 refine CallP.of mixed Tryz.func14 tr14 (by show 1≤_;decide) fun W _=>?_
 unfold cv
 simp only[↓DD,UU]
 refine newB_intro fun y hy f1 f2=>?_
 have hS:=(hS.new f1 (.cells #[.int .i64 x.k,.int .i64 x.c,.int .i64 x.o.k,.int .i64 x.o.a,.int .i64 x.o.n,.float .f64 x.b] 39 (0,0)))
 have hy1:=hS.look
 have ry:=fun o=>rd_of hy1 o
 have rn:=fun o n=>rdn_of hy1 o n
 simp only[↓DD,UU]
 refine newB_intro fun z hz f3 f4=>?_
 have hY:=hS
 have hS:=(hS.new f3 (.cells #[.int .i64 0,.int .i64 0,.int .i64 0,.int .i64 0,.int .i64 0,.float .f64 0] 37 (0,0)))
 have hz1:=hS.look
 have hy1:=hS.lk 1 rfl
 have ry:=fun o=>rd_of hy1 o
 have rn:=fun o n=>rdn_of hy1 o n
 have fc:(Value.float .f64 x.b).cells=#[.float .f64 x.b]:=rfl
 have fo:Value.oneCell' (.float .f64 x.b)=true:=rfl
 have rz:=fun o n=>rdn_of (hS.set (.cells #[.int .i64 x.k,.int .i64 x.c,.int .i64 x.o.k,.int .i64 x.o.a,.int .i64 x.o.n,.float .f64 x.b] 37 (0,0))).look o n
 simp only[hz1,ry,rn,fc,fo,↓DD,UU,↓reduceIte,xA,xC,xE,xF]
 exact(hY.new f3 _).tail.tail
end
end Go.Proofs.YtkjpgikjcfhckaaGreat
