/-
Who finds no memory. Conditions: none.
-/
import Derived.Test.YtkjpgikjcfhckaaGreatRefPack
import Derived.Test.YtkjpgikjcfhckaaGreatLawK
import Derived.Test.YtkjpgikjcfhckaaGreatCode
import Derived.Test.YtkjpgikjcfhckaaGreatCodeX
import Derived.Test.YtkjpgikjcfhckaaGreatAskX
import Derived.Test.YtkjpgikjcfhckaaGreatRefPlan
import Derived.Test.YtkjpgikjcfhckaaGreatMaT
open Nat renaming reduceAdd→xA,reduceMul→xB,reduceSub→xC,reduceEqDiff→xD,reduceBEq→xE,reduceLeDiff→xF,reduceLT→xG
open Int renaming reduceAdd→xH,reduceMul→xI,reduceSub→xJ,reduceLT→xK,reduceLE→xL,reduceToNat→xM,reduceEq→xN,reduceNe→xO,reduceBEq→xP,reduceBNe→xQ
set_option linter.unusedVariables false
set_option linter.unusedSimpArgs false
set_option maxRecDepth 8000
namespace Go.Proofs.YtkjpgikjcfhckaaGreat
open Go Go.Ev Go.Pl Go.Ma

theorem q_readsl {w:Int} (hw:U w):PureC Tryz.prog 62 #[.int .u64 w] (.agg #[.int .i64 (slK w),.int .i64 (slA w)]):=by
 refine PureC.of mixed Tryz.func62 (by kernel_rfl) tr62 (by show 1≤_;decide) fun W H=>?_
 have a0:bits .and .u64 w 15=w % 16:=and15 hw
 have a1:bits .and .u64 (w / 16) 255=pt w 16:=and255 (U_div hw 16 (by decide))
 have b0:w64 (w % 16)=w % 16:=w64_nib
 have b1:w64 (pt w 16)=pt w 16:=w64_byte
 simp only[↓DD,UU]
 refine newB_intro fun x hx f1 f2=>?_
 simp only[shr4,a0,a1,wrap_w64,b0,b1,↓DD,UU,xA,xE,xL,xM]
 refine newB_intro fun y hy f3 f4=>?_
 have nxy:(x=y)=False:=f3 x (by rw[upd_same];rfl)
 have nyx:(y=x)=False:=f4 x (by rw[upd_same];rfl)
 by_cases e1:putSl (w % 16) (pt w 16)=w
 ·have g1:(putSl (w % 16) (pt w 16) != w)=false:=by simp [e1]
  have hok:okSl w=true:=decide_eq_true e1
  simp only[u_putsl,g1,nxy,↓DD,UU,↓reduceIte,xA,xC,xE,xF]
  simp only[slK,slA,hok,if_true]
  exact⟨trivial,((((Sep.one H).new f1 _).new f3 _).p1.set _).tail.tail.head⟩
 ·have g1:(putSl (w % 16) (pt w 16) != w)=true:=by simp [e1]
  have hok:okSl w=false:=decide_eq_false e1
  simp only[u_putsl,g1,nxy,↓DD,UU,↓reduceIte,xA,xC,xE,xF]
  simp only[slK,slA,hok,Bool.false_eq_true,if_false]
  exact⟨trivial,((((Sep.one H).new f1 _).new f3 _).p1.set _).tail.tail.head⟩
theorem u_readsl {w:Int} (hw:U w):pv Tryz.prog 62 #[.int .u64 w] = some (.agg #[.int .i64 (slK w),.int .i64 (slA w)]):=pv_of (q_readsl hw)

section
variable {W:World} {H h:Hp} {l:List Hp} {n cap:Nat} {a:Option Addr} {ws:Nat→Int} {sh:Sh}
def spX (sh:Sh) (ws:Nat→Int) (q:Int):Int:=ws (page sh.p sh.c sh.m q).toNat
theorem cells_of {H:Hp} {b o:Nat} {v:Value} (h:rd H b o=some v):∃ c T f,H b=some (.cells c T f)∧c[o]? = some v:=by
 unfold rd at h
 split at h
 ·rename_i c T f e;exact⟨c,T,f,e,h⟩
 ·cases h
theorem words_ge (hm:may sh.p sh.c sh.m=true) (hn:(n:Int)=words sh.p sh.c sh.m):sh.c+sh.p*17+sh.c*sh.m=(n:Int)∧0≤sh.c*sh.m∧sh.c*sh.m≤96:=by
 have hb:=(may_iff _ _ _).1 hm
 have hml:=mul_bd sh.c sh.m (by omega) hb.2.2.2.1 hb.2.2.2.2.1 hb.2.2.2.2.2
 rw[hn];unfold words;rw[if_pos hm];omega
def spG (p:Int) (n cap:Nat) (a:Option Addr) (x y:Nat) (F':Fr):Prop:=gt F' 1=.slice a n cap∧gt F' 2=.int .i64 p∧gt F' 4=.pointer (some ⟨x,0,none⟩)∧gt F' 7=.pointer (some ⟨y,0,none⟩)
def spI (r:Nat) (p:Int) (n cap:Nat) (a:Option Addr) (x y:Nat) (L:List Hp) (F':Fr) (H':Hp):Prop:=
 ∃ i:Nat,i≤16∧gt F' r=.int .i64 (i:Int)∧spG p n cap a x y F'∧Sep L H'
def spL (A p:Int) (n cap:Nat) (a:Option Addr) (x y:Nat) (L:List Hp) (F':Fr) (H':Hp):Prop:=
 ∃ i:Int,1≤i∧(i=1∨i≤A)∧gt F' 16=.int .i64 i∧spG p n cap a x y F'∧Sep L H'
end
end Go.Proofs.YtkjpgikjcfhckaaGreat
set_option linter.unusedSectionVars false
set_option maxRecDepth 8000
namespace Go.Proofs.YtkjpgikjcfhckaaGreat
open Go Go.Ev Go.Pl Go.Ma
section
variable {W:World} {H g h:Hp} {l:List Hp} {cap:Nat} {a:Option Addr} {ws:Nat→Int} {sh:Sh} {c n:Int}
def AcO (g:Hp) (a:Option Addr) (L:List Acs):Prop:=∀ i e,L[i]? = some e→∃ z o,a=some ⟨z,o,none⟩∧rdn g z (o+i*6) 6=some #[.int .i64 e.c,.int .i64 e.k,.int .i64 e.at',.int .u64 e.was,.int .u64 e.pt,.bool e.ok]
def clI (sh:Sh) (a:Option Addr) (cap:Nat) (c n:Int) (x:Nat) (A:List Acs) (L:List Hp) (F':Fr) (H':Hp):Prop:=
 ∃ i:Nat,i≤A.length∧(gt F' 11=.int .i64 (i:Int)∧gt F' 1=.slice a A.length cap∧gt F' 2=.int .i64 c∧gt F' 4=.pointer (some ⟨x,0,none⟩)∧gt F' 9=.int .i64 (cls n)∧gt F' 10=.bool (small n))∧(∀ j e,j<i→A[j]? = some e→¬ Clm sh c n e)∧Sep L H'
set_option maxHeartbeats 4000000 in
theorem c_claimed {A:List Acs} (hm:may sh.p sh.c sh.m=true) (hA:A.length≤1000000000) (hE:AcO g a A) (hS:Sep (g :: l) H) :
  CallP Tryz.prog W 21 #[.agg #[.int .i64 sh.p,.int .i64 sh.c,.int .i64 sh.m],.slice a A.length cap,.int .i64 c,.int .i64 n] H fun v H'=>(∃ b,v=.bool b∧((∃ e,e∈A∧Clm sh c n e)→b=true))∧Sep (g :: l) H':=by
 refine CallP.of mixed Tryz.func21 tr21 (by show 4≤_;decide) fun W _=>?_
 simp only[↓DD,UU,xA]
 refine newB_intro fun x hx f1 f2=>?_
 have hS:=(hS.new f1 (.cells #[.int .i64 sh.p,.int .i64 sh.c,.int .i64 sh.m] 23 (0,0)))
 simp only[u_class,↓DD,UU,xA,xE]
 refine loop_intro (clI sh a cap c n x A (sg x (.cells #[.int .i64 sh.p,.int .i64 sh.c,.int .i64 sh.m] 23 (0,0)) :: g :: l)) (fun F' _=>((A.length:Int) - iv (gt F' 11)).toNat) ⟨0,by omega,⟨by simp [gt],by simp [gt],by simp [gt],by simp [gt],by simp [gt],by simp [gt]⟩,fun j e g=>by omega,hS⟩ ?_
 clear hS
 rintro F' H' ⟨i,hi,⟨e11,e1,e2,e4,e9,e10⟩,hno,hS⟩
 by_cases hlt:i<A.length
 rotate_left
 ·have d1:decide ((i:Int)<(A.length:Int))=false:=decide_eq_false (by omega)
  simp only[e11,e1,d1,↓DD,UU,xE]
  refine⟨⟨false,rfl,fun ⟨e,h1,h2⟩=>?_⟩,hS.tail⟩
  obtain⟨j,hj,ej⟩:=List.mem_iff_getElem.1 h1
  exact absurd h2 (hno j e (by omega) (by rw[List.getElem?_eq_getElem hj,ej]))
 have d1:decide ((i:Int)<(A.length:Int))=true:=decide_eq_true (by omega)
 have i0:(0:Int)≤(i:Int):=by omega
 have l1:(i:Int)<(A.length:Int):=by omega
 have wi:w64 ((i:Int)+1)=(i:Int)+1:=w64_eq (by omega) (by omega)
 have ms:((A.length:Int) - ((i:Int)+1)).toNat<((A.length:Int) - (i:Int)).toNat:=by omega
 obtain⟨e,he⟩:∃ e,A[i]? = some e:=⟨_,List.getElem?_eq_getElem hlt⟩
 obtain⟨z,o,ea,hrd⟩:=hE i e he
 have hrd:=rdn_sub hrd (hS.sb g (by simp))
 have e1':gt F' 1=.slice (some ⟨z,o,none⟩) A.length cap:=by rw[e1,ea]
 have hx1:=hS.look
 have rx:=fun o n=>rdn_of hx1 o n
 simp only[e11,e1',i0,l1,hrd,Int.toNat_natCast,↓DD,UU,xE]
 refine newB_intro fun y hy f3 f4=>?_
 have nxy:(x=y)=False:=f3 x (by rw[hx1];rfl)
 have nyx:(y=x)=False:=f4 x (by rw[hx1];rfl)
 have hS:=(hS.new f3 (.cells #[.int .i64 e.c,.int .i64 e.k,.int .i64 e.at',.int .u64 e.was,.int .u64 e.pt,.bool e.ok] 52 (0,0)))
 have hp0:pv Tryz.prog 28 #[.agg #[.int .i64 sh.p,.int .i64 sh.c,.int .i64 sh.m],.int .i64 0] = _:=u_page sh.p sh.c sh.m 0
 have on:∀ {H':Hp},¬ Clm sh c n e→Sep (sg x (.cells #[.int .i64 sh.p,.int .i64 sh.c,.int .i64 sh.m] 23 (0,0)) :: g :: l) H'→∀ F2:Fr,gt F2 11=.int .i64 ((i:Int)+1)∧gt F2 1=gt F' 1∧gt F2 2=gt F' 2∧gt F2 4=gt F' 4∧gt F2 9=gt F' 9∧gt F2 10=gt F' 10 →
   clI sh a cap c n x A (sg x (.cells #[.int .i64 sh.p,.int .i64 sh.c,.int .i64 sh.m] 23 (0,0)) :: g :: l) F2 H':=fun hc hS F2⟨g1,g2,g3,g4,g5,g6⟩=>
  ⟨i+1,by omega,⟨g1,g2.trans e1,g3.trans e2,g4.trans e4,g5.trans e9,g6.trans e10⟩,fun j e' hj hj'=>by
   by_cases k:j=i
   ·subst k;rw[he]at hj';injection hj' with hj';subst hj';exact hc
   ·exact hno j e' (by omega) hj',hS⟩
 by_cases k1:e.c=c
 ·have g1:(e.c == c)=true:=beq_iff_eq.2 k1
  simp only[e11,e2,g1,wi,wrap_w64,Ev.upd_upd,↓DD,UU,↓reduceIte,xA,xE,xF]
  refine⟨on (fun g=>g.1 k1) hS.tail _ (by simp [gt]),?_⟩
  exact ms
 have g1:(e.c == c)=false:=beq_eq_false_iff_ne.2 k1
 by_cases k2:e.k=2
 rotate_left
 ·have g2:(e.k != 2)=true:=bne_iff_ne.2 k2
  simp only[e11,e2,g1,g2,wi,wrap_w64,Ev.upd_upd,↓DD,UU,↓reduceIte,xA,xE,xF]
  refine⟨on (fun g=>k2 g.2.1) hS.tail _ (by simp [gt]),?_⟩
  exact ms
 have g2:(e.k != 2)=false:=by rw[k2];rfl
 cases k3:e.ok
 ·rw[k3]at hS
  simp only[e11,e2,g1,g2,wi,wrap_w64,Ev.upd_upd,↓DD,UU,↓reduceIte,xA,xE,xF]
  refine⟨on (fun g=>by have:=g.2.2.1;rw[k3]at this;cases this) hS.tail _ (by simp [gt]),?_⟩
  exact ms
 rw[k3]at hS
 by_cases r1:page sh.p sh.c sh.m 0≤e.at'∧e.at'<slot sh.p sh.c sh.m 0 0
 ·have p1:decide (page sh.p sh.c sh.m 0≤e.at')=true:=decide_eq_true r1.1
  have p2:decide (e.at'<slot sh.p sh.c sh.m 0 0)=true:=decide_eq_true r1.2
  by_cases r2:e.was=0
  ·have p3:(e.was == 0)=true:=beq_iff_eq.2 r2
   simp only[e2,e4,e9,g1,g2,rx,nxy,p1,p2,p3,u_page,u_slot,u_putsl,Ev.upd_upd,↓DD,UU,↓reduceIte,xA,xC,xE,xF]
   exact⟨⟨true,rfl,fun _=>rfl⟩,hS.tail.tail⟩
  have p3:(e.was == 0)=false:=beq_eq_false_iff_ne.2 r2
  simp only[e11,e2,e4,e9,g1,g2,rx,nxy,p1,p2,p3,wi,wrap_w64,u_page,u_slot,u_putsl,Ev.upd_upd,↓DD,UU,↓reduceIte,xA,xC,xE,xF]
  refine⟨on (fun g=>by rcases g.2.2.2 with g | g;exact r2 g.2.2;exact g.1 r1) hS.tail _ (by simp [gt]),?_⟩
  exact ms
 have no1:¬ (small n=true∧e.was=opn (cls n))→¬ Clm sh c n e:=fun z g=>by
  rcases g.2.2.2 with g | g
  ·exact r1 ⟨g.1,g.2.1⟩
  ·exact z g.2
 by_cases r2:page sh.p sh.c sh.m 0≤e.at'
 case' pos=>
  have p1:decide (page sh.p sh.c sh.m 0≤e.at')=true:=decide_eq_true r2
  have p2:decide (e.at'<slot sh.p sh.c sh.m 0 0)=false:=decide_eq_false fun g=>r1 ⟨r2,g⟩
 case' neg=>
  have p1:decide (page sh.p sh.c sh.m 0≤e.at')=false:=decide_eq_false r2
  have p2:=p1
 all_goals
  cases k4:small n
  ·rw[k4]at e10
   simp only[e11,e2,e4,e9,e10,g1,g2,rx,nxy,p1,p2,wi,wrap_w64,u_page,u_slot,u_putsl,Ev.upd_upd,↓DD,UU,↓reduceIte,xA,xC,xE,xF]
   refine⟨on (no1 fun g=>by rw[k4]at g;cases g.1) hS.tail _ (by simp [gt]),?_⟩
   exact ms
  rw[k4]at e10
  by_cases r5:e.was=putSl 1 (cls n)
  ·have p5:(e.was == putSl 1 (cls n))=true:=beq_iff_eq.2 r5
   simp only[e2,e4,e9,e10,g1,g2,rx,nxy,p1,p2,p5,u_page,u_slot,u_putsl,Ev.upd_upd,↓DD,UU,↓reduceIte,xA,xC,xE,xF]
   exact⟨⟨true,rfl,fun _=>rfl⟩,hS.tail.tail⟩
  have p5:(e.was == putSl 1 (cls n))=false:=beq_eq_false_iff_ne.2 r5
  simp only[e11,e2,e4,e9,e10,g1,g2,rx,nxy,p1,p2,p5,wi,wrap_w64,u_page,u_slot,u_putsl,Ev.upd_upd,↓DD,UU,↓reduceIte,xA,xC,xE,xF]
  refine⟨on (no1 fun g=>r5 g.2) hS.tail _ (by simp [gt]),?_⟩
  exact ms
theorem slk1 {x k:Int} (h1:slK x=1) (h2:slA x=k) (k0:0≤k) (k1:k≤255):x=1+16*k:=by
 unfold slK at h1
 unfold slA at h2
 by_cases g:okSl x=true
 ·rw[if_pos g]at h1 h2
  unfold okSl at g
  have g:=of_decide_eq_true g
  rw[h1,h2]at g
  rw[← g]
  exact Ow.opn_v k0 k1
 ·rw[if_neg g]at h1;cases h1
def mN (n:Int):Int:=if small n=true then 1 else pages n
theorem non_row {r' p:Int} (hge:mN n≤r') (r1:r'≤p+1) (p0:0≤p) (p1:p<sh.p) (hrow:∀ q,p+1 - r'≤q→q<p+1→pgAt sh ws q=0):¬ Non sh c n ws:=fun g=>by
 unfold Non at g
 unfold mN at hge
 split at g
 ·rename_i e
  rw[if_pos e]at hge
  exact g.2.2 p p0 p1 (hrow p (by omega) (by omega))
 ·rename_i e
  rw[if_neg e]at hge
  exact g (p+1 - pages n) (by omega) (by omega) fun q a b=>hrow q (by omega) (by omega)
def hsF (sh:Sh) (a:Option Addr) (N cap:Nat) (c n:Int) (x:Nat) (F':Fr):Prop:=
 gt F' 1=.slice a N cap∧gt F' 2=.int .i64 c∧gt F' 4=.pointer (some ⟨x,0,none⟩)∧gt F' 9=.int .i64 (cls n)∧gt F' 10=.bool (small n)∧gt F' 11=.int .i64 (mN n)
def hsI (sh:Sh) (ws:Nat→Int) (a:Option Addr) (N cap:Nat) (c n:Int) (x:Nat) (L:List Hp) (F':Fr) (H':Hp):Prop:=
 ∃ (p:Nat) (r:Int),(p:Int)≤sh.p∧0≤r∧r≤p∧(∀ q,(p:Int) - r≤q→q<p→pgAt sh ws q=0)∧gt F' 14=.int .i64 (p:Int)∧gt F' 13=.int .i64 r∧hsF sh a N cap c n x F'∧Sep L H'
def hsJ (sh:Sh) (a:Option Addr) (N cap:Nat) (c n:Int) (x p:Nat) (r:Int) (L:List Hp) (F':Fr) (H':Hp):Prop:=
 ∃ i:Nat,i≤16∧gt F' 15=.int .i64 (i:Int)∧gt F' 14=.int .i64 (p:Int)∧gt F' 13=.int .i64 r∧hsF sh a N cap c n x F'∧Sep L H'
def hsM (sh:Sh) (a:Option Addr) (N cap:Nat) (c n:Int) (x:Nat) (L:List Hp) (F':Fr) (H':Hp):Prop:=
 ∃ i:Nat,(i:Int)≤sh.m∧gt F' 17=.int .i64 (i:Int)∧hsF sh a N cap c n x F'∧Sep L H'
def hsE (sh:Sh) (a:Option Addr) (N cap:Nat) (c n:Int) (x i:Nat) (P S K:Int) (ok:Bool) (L:List Hp) (F':Fr) (H':Hp):Prop:=
 gt F' 17=.int .i64 (i:Int)∧hsF sh a N cap c n x F'∧gt F' 19=.bool ok∧∃ v,gt F' 18=.pointer (some ⟨v,0,none⟩)∧Sep (sg v (.cells #[.int .i64 P,.int .i64 S,.int .i64 K] 63 (0,0)) :: L) H'
set_option maxHeartbeats 8000000 in
theorem c_has {N:Nat} (hm:may sh.p sh.c sh.m=true) (hn:(N:Int)=words sh.p sh.c sh.m) (hr:RowU h a N ws) (hU:∀ i,i<N→U (ws i)) (c0:0≤c) (c1:c<sh.c) (hS:Sep (h :: l) H) :
    CallP Tryz.prog W 22 #[.agg #[.int .i64 sh.p,.int .i64 sh.c,.int .i64 sh.m],.slice a N cap,.int .i64 c,.int .i64 n] H fun v H'=>(∃ b,v=.bool b∧(Non sh c n ws→b=false))∧Sep (h :: l) H':=by
  refine CallP.of mixed Tryz.func22 tr22 (by show 4≤_;decide) fun W _=>?_
  have hb:=(may_iff _ _ _).1 hm
  have hw:=words_ge hm hn
  have cb:=clsb n
  obtain⟨xb,xo,rfl,-⟩:=hr.at' (i:=0) (by omega)
  have row:∀ {H':Hp},Sub h H'→∀ i,i<N→rd H' xb (xo+i)=some (.int .u64 (ws i)):=fun hs i hi=>by
    obtain⟨b,o,e,g⟩:=(hr.sub hs).at' hi
    injection e with e;injection e with e1 e2;subst e1;subst e2;exact g
  obtain⟨c9,T9,f9',h9,-⟩:=cells_of (row (hS.sb h (by simp)) 0 (by omega))
  simp only[↓DD,UU,xA]
  refine newB_intro fun x hx f1 f2=>?_
  have mx:(xb=x)=False:=f1 xb (by rw[h9];rfl)
  have xm:(x=xb)=False:=eq_false fun e=>(of_eq_false mx) e.symm
  have hS:=(hS.new f1 (.cells #[.int .i64 sh.p,.int .i64 sh.c,.int .i64 sh.m] 23 (0,0)))
  have yes:∀ {H':Hp},¬ Non sh c n ws→Sep (sg x (.cells #[.int .i64 sh.p,.int .i64 sh.c,.int .i64 sh.m] 23 (0,0)) :: h :: l) H'→(∃ b,Value.bool true=.bool b∧(Non sh c n ws→b=false))∧Sep (h :: l) H':=fun g hS=>⟨⟨true,rfl,fun g2=>absurd g2 g⟩,hS.tail⟩
  clear hr h9
  cases hs:small n
  all_goals
    simp only[u_class,u_run,hs,↓DD,UU,xA,xE]
    refine loop_intro (hsI sh ws (some ⟨xb,xo,none⟩) N cap c n x (sg x (.cells #[.int .i64 sh.p,.int .i64 sh.c,.int .i64 sh.m] 23 (0,0)) :: h :: l)) (fun F' _=>(sh.p - iv (gt F' 14)).toNat) ⟨0,0,by omega,by omega,by omega,fun q q0 q1=>by omega,by simp [gt],by simp [gt],⟨by simp [gt],by simp [gt],by simp [gt],by simp [gt],by simp [gt,hs],by simp [gt,mN,hs]⟩,hS⟩ ?_
    clear hS
    rintro F' H' ⟨p,r,hp,r0,r1,hrow,e14,e13,⟨e1,e2,e4,e9,e10,e11⟩,hS⟩
    have hx1:=hS.look
    have rx:=fun o=>rd_of hx1 o
    have rxn:=fun o n=>rdn_of hx1 o n
    by_cases hlt:(p:Int)<sh.p
    rotate_left
    · have d1:decide ((p:Int)<sh.p)=false:=decide_eq_false hlt
      simp only[e14,e4,rx,d1,↓DD,UU,xE]
      refine loop_intro (hsM sh (some ⟨xb,xo,none⟩) N cap c n x (sg x (.cells #[.int .i64 sh.p,.int .i64 sh.c,.int .i64 sh.m] 23 (0,0)) :: h :: l)) (fun F' _=>(sh.m - iv (gt F' 17)).toNat) ⟨0,by omega,by simp [gt],by simp [hsF,gt,e1,e2,e4,e9,e10,e11],hS⟩ ?_
      clear hS hx1 rx rxn e1 e2 e4 e9 e10 e11 e14 e13
      rintro F' H' ⟨i,hi,e17,⟨e1,e2,e4,e9,e10,e11⟩,hS⟩
      have hx1:=hS.look
      have rx:=fun o=>rd_of hx1 o
      have rxn:=fun o n=>rdn_of hx1 o n
      rw[hs]at e10
      have no:(∃ b,Value.bool false=.bool b∧(Non sh c n ws→b=false))∧Sep (h :: l) H':=⟨⟨false,rfl,fun _=>rfl⟩,hS.tail⟩
      by_cases hlt:(i:Int)<sh.m
      rotate_left
      · have d1:decide ((i:Int)<sh.m)=false:=decide_eq_false hlt
        simp only[e17,e4,rx,d1,↓DD,UU,xE]
        exact no
      have d1:decide ((i:Int)<sh.m)=true:=decide_eq_true hlt
      simp only[e17,e4,e10,rx,d1,↓DD,UU,xE]
      try exact no
      all_goals
        have om:=Int.mul_nonneg c0 (by omega:0≤sh.m)
        have om2:=Int.mul_le_mul_of_nonneg_right (by omega:c+1≤sh.c) (by omega:0≤sh.m)
        rw[Int.add_mul]at om2
        have hmg:mag sh.p sh.c sh.m c i=sh.c+sh.p+sh.p*16+c*sh.m+i:=mag_yes hm c0 c1 (by omega) hlt
        have p0:(0:Int)≤sh.c+sh.p+sh.p*16+c*sh.m+i:=by omega
        have p1:sh.c+sh.p+sh.p*16+c*sh.m+i<(N:Int):=by omega
        have hrd:=row (hS.sb h (by simp)) (sh.c+sh.p+sh.p*16+c*sh.m+i).toNat (by omega)
        obtain⟨cb',Tb,fb,hcb,hco⟩:=cells_of hrd
        have rb:=fun o=>rd_of hcb o
        have hu:U (ws (sh.c+sh.p+sh.p*16+c*sh.m+i).toNat):=hU _ (by omega)
        have hsa:ws (sh.c+sh.p+sh.p*16+c*sh.m+i).toNat=mgAt sh ws c i:=rfl
        have e3:=u_readen sh hu
        obtain⟨P3,hP3⟩:∃ b,enP sh (mgAt sh ws c i)=b:=⟨_,rfl⟩
        obtain⟨S3,hS3⟩:∃ b,enS sh (mgAt sh ws c i)=b:=⟨_,rfl⟩
        obtain⟨K3,hK3⟩:∃ b,enK sh (mgAt sh ws c i)=b:=⟨_,rfl⟩
        obtain⟨o3,ho3⟩:∃ b,okEn sh (mgAt sh ws c i)=b:=⟨_,rfl⟩
        rw[hsa,ho3,hP3,hS3,hK3]at e3
        rw[hsa]at hco
        have wi:w64 ((i:Int)+1)=(i:Int)+1:=w64_eq (by omega) (by omega)
        refine draw_cut [(x,#[.int .i64 sh.p,.int .i64 sh.c,.int .i64 sh.m],[]),(xb,cb',[])] (hsE sh (some ⟨xb,xo,none⟩) N cap c n x i P3 S3 K3 o3 (sg x (.cells #[.int .i64 sh.p,.int .i64 sh.c,.int .i64 sh.m] 23 (0,0)) :: h :: l)) (by simp only[hx1,hcb,↓DD,UU]) ?_ ?_
        · simp only[e1,e2,e4,e17,hx1,hcb,rxn,rb,mx,u_mag,hmg,p0,p1,hco,e3,↓e_dalt2,↓DD,UU,↓reduceIte,xA,xC,xE,xF]
          refine⟨⟨?_,?_⟩,?_⟩
          all_goals
            refine newB_intro fun v hv f9 f0=>?_
            have nxw:(x=v)=False:=f9 x (by rw[hx1];rfl)
            have nbw:(xb=v)=False:=f9 xb (by rw[hcb];rfl)
            have hS:=(hS.new f9 (.cells #[.int .i64 P3,.int .i64 S3,.int .i64 K3] 63 (0,0)))
            simp only[hx1,hcb,rb,mx,nxw,nbw,u_mag,hmg,p0,p1,hco,e3,Ev.upd_upd,↓DD,UU,↓reduceIte,xA,xE,xF]
            exact⟨by simp [gt,e17],by simp [hsF,gt,e1,e2,e4,e9,e10,hs,e11],by simp [gt],v,by simp [gt],hS⟩
        · clear hS hx1 rx rxn e1 e2 e4 e9 e10 e11 e17 hcb hco rb hrd
          rintro F' H' ⟨e17,⟨e1,e2,e4,e9,e10,e11⟩,e19,v,e18,hS⟩
          have hv1:=hS.look
          have rv:=fun o=>rd_of hv1 o
          have back:hsM sh (some ⟨xb,xo,none⟩) N cap c n x (sg x (.cells #[.int .i64 sh.p,.int .i64 sh.c,.int .i64 sh.m] 23 (0,0)) :: h :: l) ((17,.int .i64 ((i:Int)+1)) :: F') H':=⟨i+1,by omega,by simp [gt],by simp [hsF,gt,e1,e2,e4,e9,e10,e11],hS.tail⟩
          cases o3
          · simp only[e19,e17,wi,wrap_w64,↓DD,UU,xE]
            refine⟨⟨i+1,by omega,by simp [gt],by simp [hsF,gt,e1,e2,e4,e9,e10,e11],hS.tail⟩,?_⟩
            show(_ - ((i:Int)+1)).toNat<(_ - (i:Int)).toNat
            omega
          by_cases hk:K3=cls n
          · have g:(K3 == cls n)=true:=beq_iff_eq.2 hk
            simp only[e19,e18,e9,rv,g,↓DD,UU,xE]
            refine yes (fun g=>?_) hS.tail
            unfold Non at g
            rw[if_pos hs]at g
            exact g.1 i (by omega) hlt ⟨ho3,by rw[hK3];exact hk⟩
          have g:(K3 == cls n)=false:=beq_eq_false_iff_ne.2 hk
          simp only[e19,e18,e17,e9,rv,g,wi,wrap_w64,↓DD,UU,xE]
          refine⟨⟨i+1,by omega,by simp [gt],by simp [hsF,gt,e1,e2,e4,e9,e10,e11],hS.tail⟩,?_⟩
          show(_ - ((i:Int)+1)).toNat<(_ - (i:Int)).toNat
          omega
    have d1:decide ((p:Int)<sh.p)=true:=decide_eq_true hlt
    have hpg:page sh.p sh.c sh.m p=sh.c+p:=page_yes hm (by omega) hlt
    have p0:(0:Int)≤sh.c+p:=by omega
    have p1:sh.c+p<(N:Int):=by omega
    have hrd:=row (hS.sb h (by simp)) (sh.c+p).toNat (by omega)
    have hsa:ws (sh.c+(p:Int)).toNat=pgAt sh ws p:=by unfold pgAt;rw[hpg]
    rw[hsa]at hrd
    have wr:w64 (r+1)=r+1:=w64_eq (by omega) (by omega)
    have wp:w64 ((p:Int)+1)=(p:Int)+1:=w64_eq (by omega) (by omega)
    have w0:∃ r',0≤r'∧r'≤(p:Int)+1∧(∀ q,(p:Int)+1 - r'≤q→q<(p:Int)+1→pgAt sh ws q=0)∧r'=(if pgAt sh ws p=0 then r+1 else 0):=by
      refine⟨_,?_,?_,?_,rfl⟩
      · split<;>omega
      · split<;>omega
      · intro q a b
        split at a
        · rename_i g
          by_cases k:q=p
          · rw[k];exact g
          · exact hrow q (by omega) (by omega)
        · omega
    obtain⟨r',q0,q1,hrow',er⟩:=w0
    have ms:(sh.p - ((p:Int)+1)).toNat<(sh.p - (p:Int)).toNat:=by omega
    by_cases hz:pgAt sh ws p=0
    case' pos=>
      have g0:(pgAt sh ws p != 0)=false:=by rw[hz];rfl
      rw[if_pos hz]at er
      have wr:w64 (r+1)=r':=by rw[er];exact wr
      have d20:=wr
    case' neg=>
      have g0:(pgAt sh ws p != 0)=true:=bne_iff_ne.2 hz
      rw[if_neg hz]at er
      have d20:decide (mN n≤0)=decide (mN n≤r'):=by rw[er]
    all_goals
      by_cases hge:mN n≤r'
      · have d2:decide (mN n≤r')=true:=decide_eq_true hge
        simp only[e1,e4,e13,e14,e11,rx,rxn,d1,u_page,hpg,p0,p1,hrd,g0,wr,d20,d2,wrap_w64,↓DD,UU,↓reduceIte,xA,xC,xE,xF]
        exact yes (non_row hge q1 (by omega) hlt hrow') hS
      have d2:decide (mN n≤r')=false:=decide_eq_false hge
      simp only[e1,e4,e13,e14,e11,rx,rxn,d1,u_page,hpg,p0,p1,hrd,g0,wr,d20,d2,wrap_w64,↓DD,UU,↓reduceIte,xA,xC,xE,xF]
      refine loop_intro (hsJ sh (some ⟨xb,xo,none⟩) N cap c n x p r' (sg x (.cells #[.int .i64 sh.p,.int .i64 sh.c,.int .i64 sh.m] 23 (0,0)) :: h :: l)) (fun F' _=>((16:Int) - iv (gt F' 15)).toNat) ⟨0,by omega,by simp [gt],by simp [gt,e14],by simp [gt,er],by simp [hsF,gt,e1,e2,e4,e9,e10,e11],hS⟩ ?_
      clear hS hx1 rx rxn e1 e2 e4 e9 e10 e11 e14 e13 hrd
      rintro F' H' ⟨i,hi,e15,e14,e13,⟨e1,e2,e4,e9,e10,e11⟩,hS⟩
      have hx1:=hS.look
      have rx:=fun o=>rd_of hx1 o
      have rxn:=fun o n=>rdn_of hx1 o n
      rw[hs]at e10
      have on:∀ F2:Fr,gt F2 14=.int .i64 ((p:Int)+1)→gt F2 13=gt F' 13→hsF sh (some ⟨xb,xo,none⟩) N cap c n x F2→hsI sh ws (some ⟨xb,xo,none⟩) N cap c n x (sg x (.cells #[.int .i64 sh.p,.int .i64 sh.c,.int .i64 sh.m] 23 (0,0)) :: h :: l) F2 H':=fun F2 g1 g2 g3=>
        ⟨p+1,_,by omega,q0,by omega,fun q a b=>hrow' q (by omega) (by omega),by rw[g1];simp,g2.trans e13,g3,hS⟩
      by_cases hi16:(i:Int)<16
      rotate_left
      · have d3:decide ((i:Int)<16)=false:=decide_eq_false hi16
        simp only[e15,e14,d3,wp,wrap_w64,↓DD,UU,xE]
        refine⟨on _ (by simp [gt]) (by simp [gt]) (by simp [hsF,gt,e1,e2,e4,e9,e10,hs,e11]),?_⟩
        exact ms
      have d3:decide ((i:Int)<16)=true:=decide_eq_true hi16
      first
      | (have hs2 : small n = false := hs
         simp only[e15,e14,e10,d3,wp,wrap_w64,↓DD,UU,xE]
         refine⟨on _ (by simp [gt]) (by simp [gt]) (by simp [hsF,gt,e1,e2,e4,e9,e10,hs,e11]),?_⟩
         exact ms)
      | skip
      all_goals
        have hsl:slot sh.p sh.c sh.m p i=sh.c+sh.p+p*16+i:=slot_yes hm (by omega) hlt (by omega) hi16
        have z0:(0:Int)≤sh.c+sh.p+p*16+i:=by omega
        have z1:sh.c+sh.p+p*16+i<(N:Int):=by omega
        have hrd:=row (hS.sb h (by simp)) (sh.c+sh.p+(p:Int)*16+i).toNat (by omega)
        have hu:U (ws (sh.c+sh.p+(p:Int)*16+i).toNat):=hU _ (by omega)
        have hsa:ws (sh.c+sh.p+(p:Int)*16+i).toNat=slAt sh ws p i:=rfl
        have us:=u_readsl hu
        rw[hsa]at hrd us
        have wi:w64 ((i:Int)+1)=(i:Int)+1:=w64_eq (by omega) (by omega)
        simp only[e15,e14,e10,e1,e4,d3,rxn,u_slot,hsl,z0,z1,hrd,us,↓DD,UU,↓reduceIte,xA,xC,xE,xF]
        refine newB_intro fun v hv f9 f0=>?_
        have hS:=(hS.new f9 (.cells #[.int .i64 (slK (slAt sh ws p i)),.int .i64 (slA (slAt sh ws p i))] 121 (0,0)))
        have back:∀ F2:Fr,gt F2 15=.int .i64 ((i:Int)+1)→gt F2 14=gt F' 14→gt F2 13=gt F' 13→hsF sh (some ⟨xb,xo,none⟩) N cap c n x F2→hsJ sh (some ⟨xb,xo,none⟩) N cap c n x p r' (sg x (.cells #[.int .i64 sh.p,.int .i64 sh.c,.int .i64 sh.m] 23 (0,0)) :: h :: l) F2 (upd H' v (.cells #[.int .i64 (slK (slAt sh ws p i)),.int .i64 (slA (slAt sh ws p i))] 121 (0,0))):=fun F2 g1 g2 g3 g4=>
          ⟨i+1,by omega,by rw[g1];simp,g2.trans e14,g3.trans e13,g4,hS.tail⟩
        by_cases k1:slK (slAt sh ws p i)=1
        rotate_left
        · have t1:(slK (slAt sh ws p i) == 1)=false:=beq_eq_false_iff_ne.2 k1
          simp only[e15,t1,wi,wrap_w64,Ev.upd_upd,↓DD,UU,↓reduceIte,xA,xE,xF]
          refine⟨back _ (by simp [gt]) (by simp [gt]) (by simp [gt]) (by simp [hsF,gt,e1,e2,e4,e9,e10,hs,e11]),?_⟩
          show(_ - ((i:Int)+1)).toNat<(_ - (i:Int)).toNat
          omega
        have t1:(slK (slAt sh ws p i) == 1)=true:=beq_iff_eq.2 k1
        by_cases k2:slA (slAt sh ws p i)=cls n
        rotate_left
        · have t2:(slA (slAt sh ws p i) == cls n)=false:=beq_eq_false_iff_ne.2 k2
          simp only[e15,e9,t1,t2,wi,wrap_w64,Ev.upd_upd,↓DD,UU,↓reduceIte,xA,xE,xF]
          refine⟨back _ (by simp [gt]) (by simp [gt]) (by simp [gt]) (by simp [hsF,gt,e1,e2,e4,e9,e10,hs,e11]),?_⟩
          show(_ - ((i:Int)+1)).toNat<(_ - (i:Int)).toNat
          omega
        have t2:(slA (slAt sh ws p i) == cls n)=true:=beq_iff_eq.2 k2
        simp only[e9,t1,t2,Ev.upd_upd,↓DD,UU,↓reduceIte,xA,xE,xF]
        refine yes (fun g=>?_) hS.tail
        unfold Non at g
        rw[if_pos hs]at g
        exact g.2.1 p i (by omega) hlt (by omega) hi16 (slk1 k1 k2 cb.1 (by omega))
end
end Go.Proofs.YtkjpgikjcfhckaaGreat
set_option maxRecDepth 8000
namespace Go.Proofs.YtkjpgikjcfhckaaGreat
open Go Go.Ev Go.Pl Go.Ma
section
variable {W:World} {H g:Hp} {l P:List Hp} {k cap n b:Nat} {a:Option Addr} {sh:Sh} {X:Wo} {pv:Nat→Value} {c:Int} {o:Go.Ma.Op}
theorem AcR.drop {A:List Acs} {R:Nat} (h:AcR a cap A g) (hR:R≤A.length):AcO g (if cap=R then a else a.map (·.add (R*6))) (A.drop R):=fun i e he=>by
 rw[List.getElem?_drop]at he
 obtain⟨z,cz,T,f,rfl,rfl,hc⟩:=h.cells he
 have hi:R+i<A.length:=(List.getElem?_eq_some_iff.1 he).1
 have hle:A.length≤cap:=by
  obtain⟨-,⟨-,h0,-,-⟩|⟨_,_,-,-,h1,-,-⟩⟩:=h
  ·omega
  ·exact h1
 rw[if_neg (by omega)]
 refine⟨z,0+R*6,congrArg some (Addr_add ..),?_⟩
 have h5:=hc 5 (by omega)
 have hsz:(R+i)*6+6≤cz.size:=by
  have:cz[(R+i)*6+5]? = some (.bool e.ok):=h5
  have:=(Array.getElem?_eq_some_iff.1 this).1;omega
 have e1:0+R*6+i*6=(R+i)*6:=by omega
 rw[e1,rdn_of (show sg z (.cells cz T f) z=some (.cells cz T f) by unfold sg;simp),if_pos hsz]
 congr 1
 apply Array.ext
 ·simp;omega
 ·intro j j1 j2
  have hj:j<6:=by simpa using j2
  have hg:=hc j hj
  simp only[Array.getElem_extract]
  rcases (by omega:j=0∨j=1∨j=2∨j=3∨j=4∨j=5) with rfl | rfl | rfl | rfl | rfl | rfl
  all_goals exact(Array.getElem?_eq_some_iff.1 hg).2
def Fw (N:Nat) (G:List Hp) (v:Value):Option (Nat→Int)→Prop
 | none=>v=.slice none 0 0
 | some ws=>∃ b o cap h,v=.slice (some ⟨b,o,none⟩) N cap∧h∈G∧RowU h (some ⟨b,o,none⟩) N ws∧∀ i,i<N→U (ws i)
theorem Fw.more {N:Nat} {G:List Hp} {v:Value} {f:Option (Nat→Int)} (h:Fw N G v f) (g:Hp):Fw N (g :: G) v f:=by
 cases f with
 | none=>exact h
 |some ws=>
  obtain⟨b,o,cap,h,e,hm,hr,hU⟩:=h
  exact⟨b,o,cap,h,e,List.mem_cons_of_mem _ hm,hr,hU⟩
theorem c_has' {N:Nat} {h:Hp} {ws:Nat→Int} {n:Int} {L:List Hp} (hm:may sh.p sh.c sh.m=true) (hn:(N:Int)=words sh.p sh.c sh.m) (hr:RowU h a N ws) (hU:∀ i,i<N→U (ws i)) (c0:0≤c) (c1:c<sh.c) (hh:h∈L) (hS:Sep L H) :
  CallP Tryz.prog W 22 #[.agg #[.int .i64 sh.p,.int .i64 sh.c,.int .i64 sh.m],.slice a N cap,.int .i64 c,.int .i64 n] H fun v H'=>(∃ b,v=.bool b∧(Non sh c n ws→b=false))∧Sep L H':=by
 obtain⟨s,t,rfl⟩:=List.append_of_mem hh
 have hp:(s ++ h :: t).Perm (h :: (s ++ t)):=List.perm_middle
 exact(c_has hm hn hr hU c0 c1 (hS.perm hp)).mono fun v H' ⟨h1,h2⟩=>⟨h1,h2.perm hp.symm⟩
theorem F2_step {x:Ch} {evs:List Evt} {F:Nat→Option (Nat→Int)} {m:Nat} {e:Evt} (he:evs[m]? = some e):F2 x (evs.take (m+1)) F=fun d=>if d=x.c.toNat∧e.k=5 then none else F2 x (evs.take m) F d:=by
 funext d
 have ht:evs.take (m+1)=evs.take m ++ [e]:=by rw[List.take_add_one,he];rfl
 unfold F2
 rw[ht]
 by_cases hd:d=x.c.toNat
 ·by_cases h1:∃ y,y∈evs.take m∧y.k=5
  ·obtain⟨y,y1,y2⟩:=h1
   rw[if_pos ⟨hd,y,List.mem_append_left _ y1,y2⟩,if_pos (c:=d=x.c.toNat∧∃ e,e∈evs.take m∧e.k=5) ⟨hd,y,y1,y2⟩]
   split<;>rfl
  ·by_cases h2:e.k=5
   ·rw[if_pos ⟨hd,e,List.mem_append_right _ (List.mem_singleton.2 rfl),h2⟩,if_pos ⟨hd,h2⟩]
   ·rw[if_neg,if_neg (fun z=>h2 z.2),if_neg (fun z=>h1 z.2)]
    rintro⟨-,y,y1,y2⟩
    rcases List.mem_append.1 y1 with y1 | y1
    ·exact h1 ⟨y,y1,y2⟩
    ·rw[List.mem_singleton.1 y1]at y2;exact h2 y2
 ·rw[if_neg (fun z=>hd z.1),if_neg (fun z=>hd z.1),if_neg (fun z=>hd z.1)]
theorem F2_le {x:Ch} {evs:List Evt} {F:Nat→Option (Nat→Int)} {d:Nat} {ws:Nat→Int} (h:F2 x evs F d=some ws):F d=some ws:=by
 unfold F2 at h
 split at h
 ·cases h
 ·exact h
def noF (a:Option Addr) (n cap x k xf xg C:Nat) (F':Fr):Prop:=
 gt F' 1=.slice a n cap∧gt F' 2=.pointer (some ⟨x,0,none⟩)∧gt F' 5=.pointer (some ⟨k,0,none⟩)∧gt F' 7=.slice (some ⟨xf,0,none⟩) C C∧gt F' 8=.slice (some ⟨xg,0,none⟩) C C
def noL (sh:Sh) (x xf xg C:Nat) (fv gv:Nat→Value) (L:List Hp):List Hp:=
 sg xf (.cells (vrow C fv) 43 (0,0)) :: sg xg (.cells (vrow C gv) 3 (0,0)) :: sg x (.cells #[.int .i64 sh.p,.int .i64 sh.c,.int .i64 sh.m] 23 (0,0)) :: L
def noR (N:Nat) (G:List Hp) (fv gv:Nat→Value) (F:Nat→Option (Nat→Int)) (R:Nat→Nat):Prop:=(∀ d,Fw N G (fv d) (F d))∧∀ d,F d≠none→gv d=.int .i64 (R d)
def noI (sh:Sh) (N:Nat) (a:Option Addr) (n cap x k xf xg:Nat) (L:List Hp) (F':Fr) (H':Hp):Prop:=
 ∃ (i:Nat) (X:Wo) (pv:Nat→Value) (P:List Hp) (fv gv:Nat→Value) (F:Nat→Option (Nat→Int)) (R:Nat→Nat) (G:List Hp),i≤n∧gt F' 9=.int .i64 (i:Int)∧noF a n cap x k xf xg sh.c.toNat F' ∧
  (Nv X F R∧X.s=sh∧X.tr.length≤3*i∧X.sp.length≤i∧0≤X.w.st∧X.w.st≤i)∧noR N G fv gv F R∧WoP k pv X P∧Sep (P ++ noL sh x xf xg sh.c.toNat fv gv (G ++ L)) H'
def noJ (sh:Sh) (N:Nat) (a:Option Addr) (n cap x k xf xg i n0:Nat) (P:List Hp) (gv:Nat→Value) (y:Ch) (evs:List Evt) (F:Nat→Option (Nat→Int)) (R:Nat→Nat) (G:List Hp) (a3:Option Addr) (n3 cap3:Nat) (g3:Hp) (L:List Hp) (F':Fr) (H':Hp):Prop:=
 ∃ (m:Nat) (fv:Nat→Value),m≤evs.length∧gt F' 9=.int .i64 (i:Int)∧gt F' 14=.int .i64 ((n0+m:Nat):Int)∧gt F' 13=.slice a3 n3 cap3∧noF a n cap x k xf xg sh.c.toNat F' ∧
  noR N G fv gv (F2 y (evs.take m) F) R∧Sep (P ++ (g3 :: noL sh x xf xg sh.c.toNat fv gv (G ++ L))) H'
def noD (sh:Sh) (a:Option Addr) (n cap x k xf xg i j:Nat) (c:Int) (a3:Option Addr) (n3 cap3:Nat) (L:List Hp) (F':Fr) (H':Hp):Prop:=
 gt F' 153=.bool false∧gt F' 9=.int .i64 (i:Int)∧gt F' 14=.int .i64 (j:Int)∧gt F' 13=.slice a3 n3 cap3∧gt F' 15=.int .i64 c∧noF a n cap x k xf xg sh.c.toNat F'∧Sep L H'
theorem cho_cell {H:Hp} {b o:Nat} {y:Chr} (h:rdn H b o 6=some (cv y)):∃ c T f,H b=some (.cells c T f)∧c[o+1]? = some (.int .i64 y.c):=by
 obtain⟨c,T,f,h1,h2⟩:=rdn_blk h
 refine⟨c,T,f,h1,?_⟩
 split at h2
 ·injection h2 with h2
  have:=congrArg (fun z=>z[1]?) h2
  simp only[Array.getElem?_extract,cv]at this
  rw[if_pos (by omega)]at this
  exact this
 ·cases h2
set_option maxHeartbeats 4000000 in
theorem c_topnomemory {ch:Nat→Chr} (hn:n≤9223372036854775807) (hr:RowC g a n ch) (hS:Sep (g :: l) H) :
  CallP Tryz.prog W 5 #[.agg #[.int .i64 sh.p,.int .i64 sh.c,.int .i64 sh.m],.slice a n cap] H fun v H'=>v=.bool true∧Sep (g :: l) H':=by
 refine CallP.of mixed Tryz.func5 tr5 (by show 2≤_;decide) fun W _=>?_
 simp only[↓DD,UU,xA]
 refine newB_intro fun x hx f1 f2=>?_
 have hS:=(hS.new f1 (.cells #[.int .i64 sh.p,.int .i64 sh.c,.int .i64 sh.m] 23 (0,0)))
 simp only[↓DD,UU,xA]
 refine callT_of (c_awakeT hS) ?_
 rintro v H' ⟨rfl,hS⟩
 simp only[↓DD,UU,xA,xE]
 refine callT_of (c_few 2000 hS) ?_
 rintro v H' ⟨rfl,hS⟩
 by_cases hle:n≤2000
 rotate_left
 ·have g1:decide ((n:Int)≤2000)=false:=decide_eq_false (by omega)
  simp only[g1,↓DD,UU,xA]
  exact hS.tail
 have g1:decide ((n:Int)≤2000)=true:=decide_eq_true (by omega)
 have hx1:=hS.look
 have r1:=fun o n=>rdn_of hx1 o n
 simp only[g1,r1,↓DD,UU,↓reduceIte,xA,xC,xE,xF]
 cases hm:may sh.p sh.c sh.m
 ·refine callT_of (c_begin_no hm hS) ?_
  rintro v H' ⟨rfl,hS⟩
  simp only[↓DD,UU,↓reduceIte,xA,xE]
  exact hS.tail
 have hb:=(may_iff _ _ _).1 hm
 obtain⟨N,hN⟩:∃ N:Nat,(N:Int)=words sh.p sh.c sh.m:=⟨(words sh.p sh.c sh.m).toNat,by have:=words_le hm;omega⟩
 refine callT_of (c_begin hm hN hS) ?_
 rintro v H' ⟨k,j0,pv,P,rfl,hP,hS⟩
 have hx1:=hS.dropF.look
 have rx:=fun o=>rd_of hx1 o
 have q0:0≤sh.c:=by omega
 have q1:24*sh.c≤281474976710656:=by omega
 have q2:8*sh.c≤281474976710656:=by omega
 have q3:sh.c≤9223372036854775807:=by omega
 have q4:sh.c≤sh.c:=Int.le_refl _
 simp only[rx,q0,q1,q3,q4,↓DD,UU,↓reduceIte,xA,xE]
 refine newB_intro fun xf hxf f3 f4=>?_
 have nf:∀ q,(g q).isSome=true→(q=xf)=False:=fun q hq=>f3 q (by
  obtain⟨v,hv⟩:=Option.isSome_iff_exists.1 hq
  rw[hS.sb g (by simp) q v hv];rfl)
 have hS:=hS.new f3 (.cells (Array.replicate sh.c.toNat (.slice none 0 0)) 43 (0,0))
 have nxf:(x=xf)=False:=f3 x (by rw[hx1];rfl)
 simp only[rx,nxf,q0,q2,q3,q4,↓DD,UU,↓reduceIte,xA,xE]
 refine newB_intro fun xg hxg f5 f6=>?_
 have ng:∀ q,(g q).isSome=true→(q=xg)=False:=fun q hq=>f5 q (by
  obtain⟨v,hv⟩:=Option.isSome_iff_exists.1 hq
  rw[hS.sb g (by simp) q v hv];rfl)
 have hS:=hS.new f5 (.cells (Array.replicate sh.c.toNat (.int .i64 0)) 3 (0,0))
 rw[vrow_same,vrow_same]at hS
 simp only[vrow_same,↓DD,UU,xA]
 have hw:(Wo.new sh (Wd.zero N)).wf:=Wo.new_wf hm hN
 have hS:Sep (P ++ noL sh x xf xg sh.c.toNat (fun _=>.slice none 0 0) (fun _=>.int .i64 0) ([] ++ (g :: l))) _:=Sep.over (X:=[_,_]) (L:=P) (hS.sel 2 [1,0] (by decide) (by decide))
 refine loop_intro (noI sh N a n cap x k xf xg (g :: l)) (fun F' _=>((n:Int) - iv (gt F' 9)).toNat) ⟨0,_,pv,P,_,_,fun _=>none,fun _=>0,[],by omega,by simp [gt],⟨by simp [gt],by simp [gt],by simp [gt],by simp [gt],by simp [gt]⟩,⟨Nv.new hm hw.w fun _=>rfl,rfl,by show 0≤_;omega,by show 0≤_;omega,by show(0:Int)≤0;omega,by show(0:Int)≤_;omega⟩,⟨fun d=>rfl,fun d e=>absurd rfl e⟩,hP,hS⟩ ?_
 clear hS hx1 r1 rx hP hw
 rintro F' H' ⟨i,X,pv,P,fv,gv,F,R,G,hi,e9,⟨e1,e2,e5,e7,e8⟩,⟨hT,hXs,tu,su,s0,s1⟩,⟨hF,hG⟩,hP,hS⟩
 by_cases hlt:i<n
 rotate_left
 ·have d1:decide ((i:Int)<(n:Int))=false:=decide_eq_false (by omega)
  simp only[e9,e1,d1,↓DD,UU,xE]
  exact hS.dropF.tail.tail.tail.dropF
 have d1:decide ((i:Int)<(n:Int))=true:=decide_eq_true (by omega)
 have i0:(0:Int)≤(i:Int):=by omega
 have l1:(i:Int)<(n:Int):=by omega
 have wi:w64 ((i:Int)+1)=(i:Int)+1:=w64_eq (by omega) (by omega)
 simp only[e9,e1,e5,d1,↓DD,UU,xE]
 refine callT_of (c_wordsW hT.ti.wf hP hS) ?_
 rintro v H' ⟨a2,cap2,g2,rfl,hr2,hS⟩
 simp only[e5,↓DD,UU,xE]
 refine callT_of (c_stepsW (by omega) hP (Sep.inL (L:=P) hS)) ?_
 rintro v H' ⟨a3,cap3,g3,rfl,-,hS⟩
 have hS:=hS.tail
 simp only[e5,↓DD,UU,xE]
 refine callT_of (c_trace (by omega) hP hS) ?_
 rintro v H' ⟨a3,cap3,g3,rfl,-,hS⟩
 have hS:=hS.tail
 obtain⟨b1,o1,ea1,hrd1⟩:=hr.at' hlt
 have hsub:=hS.sb g (by simp [noL])
 have hrd:=rdn_sub hrd1 hsub
 have e1':gt F' 1=.slice (some ⟨b1,o1,none⟩) n cap:=by rw[e1,ea1]
 simp only[e9,e1',e5,i0,l1,hrd,Int.toNat_natCast,↓DD,UU,xE]
 refine callT_of (c_choice _ hS) ?_
 rintro v H' ⟨rfl,hS⟩
 simp only[↓DD,UU,xE]
 refine callT_of (c_wdo (x:=chq sh (ch i)) (bias:=(ch i).b) hT.ti.wf hP (by rw[hXs];rfl) (by omega) (by omega) hS) ?_
 rintro v H' ⟨rfl,pv,P,hP,-,hS⟩
 have hfit:X.fit (chq sh (ch i)):=by rw[← hXs];exact chq_fit hT.ti.wf (ch i)
 have hln:=Wo.act_len (W:=X) (x:=chq sh (ch i))
 have hs2:=(Wo.act_s (W:=X) (x:=chq sh (ch i))).trans hXs
 have hac:=hT.ti.acc (x:=chq sh (ch i))
 have hst:=Wo.act_st2 (W:=X) (x:=chq sh (ch i)) hT.ti.wf ⟨s0,by omega⟩
 obtain⟨evs,htr,hE,hT2⟩:=hT.act hfit s0 (by omega)
 have nX:X.w.n=N:=by have:=hT.ti.wf.w.n;rw[hXs]at this;omega
 have hUX:=hT.ti.wf.w.u
 rw[nX]at hr2
 generalize hA:X.act (chq sh (ch i))=A at *
 obtain⟨X2,er⟩:=A
 dsimp only at *
 simp only[e5,nX,↓DD,UU,xE]
 refine callT_of (c_trace (by omega) hP hS) ?_
 rintro v H' ⟨a3,cap3,g3,rfl,hE3,hS⟩
 simp only[e5,↓DD,UU,xE]
 refine callT_of (c_stepsW (by omega) hP (Sep.inL (L:=P) hS)) ?_
 rintro v H' ⟨a4,cap4,g4,rfl,-,hS⟩
 have hS:=hS.tail
 have hS:Sep (P ++ (g3 :: noL sh x xf xg sh.c.toNat fv gv (g2 :: (G ++ g :: l)))) H':=by
  refine hS.perm (List.Perm.append_left P (List.Perm.cons _ ?_))
  exact((List.perm_middle (l₁:=[_,_,_])).symm)
 have hSq:Sep (P ++ (g3 :: noL sh x xf xg sh.c.toNat fv gv (G ++ g :: l))) H':=Sep.outL (L:=P ++ [g3,_,_,_]) (l:=G ++ g :: l) (by simpa [noL] using hS) |>.tail |> (by simpa [noL] using ·)
 obtain⟨yy,hyy⟩:∃ yy,yy=chq sh (ch i):=⟨_,rfl⟩
 have hyc:yy.c=(ch i).c:=by rw[hyy];rfl
 rw[← hyy]at hac hE hT2
 have hQ:=hS.dropF
 have hxf:=hQ.lk 1 rfl
 have hxg:=hQ.lk 2 rfl
 have nfg:=hQ.neq 1 2 (by decide) rfl rfl
 have ngf:=hQ.qen 1 2 (by decide) rfl rfl
 obtain⟨c1',T1,fz1,hb1,hcc⟩:=cho_cell (rdn_sub hrd1 (hS.sb g (by simp [noL])))
 have hgb:(g b1).isSome=true:=by
  obtain⟨_,_,_,q,-⟩:=cho_cell hrd1
  rw[q];rfl
 have nbf:=nf b1 hgb
 have nbg:=ng b1 hgb
 have rxf:=fun o=>rd_of hxf o
 have rb1:=fun o=>rd_of hb1 o
 rcases hac with hsp |⟨w',hsp,one,mb,hcl,c0,c1,hU'⟩
 case' inl=>
  have d2:decide (((X.sp.length:Nat):Int)<((X2.sp.length:Nat):Int))=false:=decide_eq_false (by rw[hsp];omega)
  have hR':noR N G fv gv (F1 X X2 yy F) (R1 X X2 yy F R):=by
   rw[(F1_same (x:=yy) (F:=F) (R:=R) hsp).1,(F1_same (x:=yy) (F:=F) (R:=R) hsp).2];exact⟨hF,hG⟩
  simp only[e9,d2,↓DD,UU,xE]
  obtain⟨fv1,gv1,G1,hR',hS'⟩:∃ fv1 gv1 G1,noR N G1 fv1 gv1 (F1 X X2 yy F) (R1 X X2 yy F R)∧Sep (P ++ (g3 :: noL sh x xf xg sh.c.toNat fv1 gv1 (G1 ++ g :: l))) H':=⟨fv,gv,G,hR',hSq⟩
 case' inr=>
  have d2:decide (((X.sp.length:Nat):Int)<((X2.sp.length:Nat):Int))=true:=decide_eq_true (by rw[hsp];simp;omega)
  rw[hyc]at c0 c1
  rw[hXs]at c1
  have cl:(ch i).c.toNat<sh.c.toNat:=by omega
  have c1'':(ch i).c<((sh.c.toNat:Nat):Int):=by omega
  cases hFc:F (ch i).c.toNat
 case' inr.none=>
  have hv:=hF (ch i).c.toNat
  rw[hFc]at hv
  have hv:fv (ch i).c.toNat=.slice none 0 0:=hv
  simp only[e9,e1',e7,d2,i0,l1,rb1,hcc,c0,c1'',rxf,vrow_at cl,hv,Int.toNat_natCast,↓DD,UU,↓reduceIte,xE]
  refine draw_intro [(b1,c1',[])] (by simp only[hb1,↓DD,UU]) ?_
  simp only[e9,e1',e7,e8,i0,l1,hb1,rb1,hcc,c0,c1'',hxf,hxg,nbf,ngf,vrow_size,vrow_set,cl,nX,Int.toNat_natCast,↓DD,UU,↓reduceIte,xE]
  obtain⟨fv1,gv1,G1,hR',hS'⟩:∃ fv1 gv1 G1,noR N G1 fv1 gv1 (F1 X X2 yy F) (R1 X X2 yy F R)∧Sep (P ++ (g3 :: noL sh x xf xg sh.c.toNat fv1 gv1 (G1 ++ g :: l))) (upd (upd H' xf (.cells (vrow sh.c.toNat fun j=>if j=(ch i).c.toNat then .slice a2 N cap2 else fv j) 43 (0,0))) xg (.cells (vrow sh.c.toNat fun j=>if j=(ch i).c.toNat then .int .i64 (X.sp.length:Int) else gv j) 3 (0,0))):=by
   refine⟨fun j=>if j=(ch i).c.toNat then .slice a2 N cap2 else fv j,fun j=>if j=(ch i).c.toNat then .int .i64 (X.sp.length:Int) else gv j,g2 :: G,⟨fun d=>?_,fun d hd=>?_⟩,?_⟩
   rotate_left 2
   ·have h1:Sep (sg xf (.cells (vrow sh.c.toNat fv) 43 (0,0)) :: sg xg (.cells (vrow sh.c.toNat gv) 3 (0,0)) :: g3 :: sg x (.cells #[.int .i64 sh.p,.int .i64 sh.c,.int .i64 sh.m] 23 (0,0)) :: ((g2 :: (G ++ g :: l)) ++ P)) H':=
     (show Sep (g3 :: sg xf _ :: sg xg _ :: sg x _ :: ((g2 :: (G ++ g :: l)) ++ P)) H' from hS.perm List.perm_append_comm).sel 4 [1,2,0,3] (by decide) (by decide)
    have h2:=(h1.set (.cells (vrow sh.c.toNat fun j=>if j=(ch i).c.toNat then .slice a2 N cap2 else fv j) 43 (0,0))).sel 4 [1,0,2,3] (by decide) (by decide)
    have h3:=(h2.set (.cells (vrow sh.c.toNat fun j=>if j=(ch i).c.toNat then .int .i64 (X.sp.length:Int) else gv j) 3 (0,0))).sel 4 [2,1,0,3] (by decide) (by decide)
    exact Sep.perm (l:=(g3 :: noL sh x xf xg sh.c.toNat _ _ (g2 :: (G ++ g :: l))) ++ P) h3 List.perm_append_comm
   ·unfold F1
    by_cases k:d=(ch i).c.toNat
    ·dsimp only
     rw[if_pos k,if_pos ⟨by rw[hyc];exact k,by rw[hsp];simp,by rw[k];exact hFc⟩]
     obtain⟨b5,o5,rfl,-⟩:=hr2.at' (i:=0) (by have:=words_ge hm hN;omega)
     exact⟨b5,o5,cap2,g2,rfl,List.mem_cons_self,hr2,fun i _=>hUX i⟩
    ·dsimp only
     rw[if_neg k,if_neg (fun z=>k (by rw[z.1,hyc]))]
     exact(hF d).more g2
   ·unfold F1 at hd
    unfold R1
    by_cases k:d=(ch i).c.toNat
    ·dsimp only
     rw[if_pos k,if_pos ⟨by rw[hyc];exact k,by rw[hsp];simp,by rw[k];exact hFc⟩]
    ·dsimp only
     rw[if_neg (fun z=>k (by rw[z.1,hyc]))]at hd
     rw[if_neg k,if_neg (fun z=>k (by rw[z.1,hyc]))]
     exact hG d hd
 case' inr.some ws0=>
  obtain⟨b5,o5,cap5,h5,hv,-,-,-⟩:Fw N G (fv (ch i).c.toNat) (some ws0):=by have:=hF (ch i).c.toNat;rw[hFc]at this;exact this
  simp only[e9,e1',e7,d2,i0,l1,rb1,hcc,c0,c1'',rxf,vrow_at cl,hv,Int.toNat_natCast,↓DD,UU,↓reduceIte,xE]
  obtain⟨fv1,gv1,G1,hR',hS'⟩:∃ fv1 gv1 G1,noR N G1 fv1 gv1 (F1 X X2 yy F) (R1 X X2 yy F R)∧Sep (P ++ (g3 :: noL sh x xf xg sh.c.toNat fv1 gv1 (G1 ++ g :: l))) H':=by
   refine⟨fv,gv,G,?_,hSq⟩
   have f1:F1 X X2 yy F=F:=by
    funext d;unfold F1;rw[if_neg];rintro⟨z1,-,z2⟩;rw[z1,hyc,hFc]at z2;cases z2
   have r1:R1 X X2 yy F R=R:=by
    funext d;unfold R1;rw[if_neg];rintro⟨z1,-,z2⟩;rw[z1,hyc,hFc]at z2;cases z2
   rw[f1,r1];exact⟨hF,hG⟩
 all_goals
  refine loop_intro (noJ sh N a n cap x k xf xg i X.tr.length P gv1 yy evs (F1 X X2 yy F) (R1 X X2 yy F R) G1 a3 X2.tr.length cap3 g3 (g :: l)) (fun F' _=>((X2.tr.length:Int) - iv (gt F' 14)).toNat)
   ⟨0,fv1,by omega,by simp [gt,e9],by simp [gt],by simp [gt],by simp [noF,gt,e1,e2,e5,e7,e8],by rw[List.take_zero,F2_nil];exact hR',hS'⟩ ?_
  clear hS' hR' hS hSq hQ hxf hxg nfg ngf hb1 hcc rxf rb1 e1 e2 e5 e7 e8 e9 e1' hrd hsub hF hG
  rintro F' H' ⟨m,fv2,hm2,e9,e14,e13,⟨e1,e2,e5,e7,e8⟩,⟨hF2,hG2⟩,hS⟩
  by_cases hl:m<evs.length
  rotate_left
  ·have d3:decide (((X.tr.length+m:Nat):Int)<((X2.tr.length:Nat):Int))=false:=decide_eq_false (by rw[htr,List.length_append];omega)
   simp only[e9,e14,e13,d3,wi,wrap_w64,↓DD,UU,xE]
   have me:evs.take m=evs:=List.take_of_length_le (by omega)
   rw[me]at hF2 hG2
   refine⟨⟨i+1,X2,pv,P,fv2,gv1,_,_,G1,by omega,by simp [gt],by simp [noF,gt,e1,e2,e5,e7,e8],⟨hT2,hs2,by omega,by omega,by omega,by omega⟩,⟨hF2,hG2⟩,hP,hS.outL.tail⟩,?_⟩
   try rw[e9]
   show(_ - ((i:Int)+1)).toNat<(_ - (i:Int)).toNat
   omega
  have d3:decide (((X.tr.length+m:Nat):Int)<((X2.tr.length:Nat):Int))=true:=decide_eq_true (by rw[htr,List.length_append];omega)
  obtain⟨e,he⟩:∃ e,evs[m]? = some e:=⟨_,List.getElem?_eq_getElem hl⟩
  have he':X2.tr[X.tr.length+m]? = some e:=by rw[htr,List.getElem?_append_right (by omega)];rw[show X.tr.length+m - X.tr.length=m by omega];exact he
  obtain⟨z,cz,Tz,qz,rfl,rfl,hcz⟩:=hE3.cells he'
  have k0:=hcz 0 (by omega)
  have k1:=hcz 1 (by omega)
  have k4:=hcz 4 (by omega)
  have k7:=hcz 7 (by omega)
  have k0:cz[(X.tr.length+m)*8]? = some (.int .i64 e.k):=k0
  have k1:cz[(X.tr.length+m)*8+1]? = some (.int .i64 e.c):=k1
  have k4:cz[(X.tr.length+m)*8+4]? = some (.int .i64 e.o.n):=k4
  have k7:cz[(X.tr.length+m)*8+7]? = some (.int .i64 e.e):=k7
  have hQ:=hS.dropF
  have hz1:=hQ.look
  have rz:=fun o=>rd_of hz1 o
  have z0:(0:Int)≤((X.tr.length+m:Nat):Int):=by omega
  have z1:((X.tr.length+m:Nat):Int)<((X2.tr.length:Nat):Int):=of_decide_eq_true d3
  have wj:w64 (((X.tr.length+m:Nat):Int)+1)=((X.tr.length+(m+1):Nat):Int):=by rw[w64_eq (by omega) (by omega)];omega
  have ms:((X2.tr.length:Int) - ((X.tr.length+(m+1):Nat):Int)).toNat<((X2.tr.length:Int) - ((X.tr.length+m:Nat):Int)).toNat:=by omega
  by_cases h5:e.k=5
  rotate_left
  ·have g5:(e.k != 5)=true:=bne_iff_ne.2 h5
   have f2:F2 yy (evs.take (m+1)) (F1 X X2 yy F)=F2 yy (evs.take m) (F1 X X2 yy F):=by
    rw[F2_step he];funext d;rw[if_neg (fun z=>h5 z.2)]
   simp only[e14,e13,z0,z1,rz,k0,k1,g5,wj,Int.toNat_natCast,wrap_w64,↓DD,UU,xE]
   refine⟨⟨m+1,fv2,by omega,by simp [gt,e9],by simp [gt],by simp [gt,e13],by simp [noF,gt,e1,e2,e5,e7,e8],⟨by rw[f2];exact hF2,by rw[f2];exact hG2⟩,hS⟩,?_⟩
   try rw[e14]
   exact ms
  have g5:(e.k != 5)=false:=by rw[h5];rfl
  obtain⟨ec,c0,c1,him⟩:=hE e (List.mem_of_getElem? he) h5
  have c1:yy.c<sh.c:=by rw[← hXs];exact c1
  have cl:yy.c.toNat<sh.c.toNat:=by omega
  have c1'':yy.c<((sh.c.toNat:Nat):Int):=by omega
  rw[ec]at k1
  have hxf:=hQ.lk 1 rfl
  have hxg:=hQ.lk 2 rfl
  have hx1:=hQ.lk 3 rfl
  have n10:=hQ.qen 0 1 (by decide) rfl rfl
  have n20:=hQ.qen 0 2 (by decide) rfl rfl
  have n30:=hQ.qen 0 3 (by decide) rfl rfl
  have n21:=hQ.qen 1 2 (by decide) rfl rfl
  have n31:=hQ.qen 1 3 (by decide) rfl rfl
  have n32:=hQ.qen 2 3 (by decide) rfl rfl
  have rxf:=fun o=>rd_of hxf o
  have rxg:=fun o=>rd_of hxg o
  have rx:=fun o n=>rdn_of hx1 o n
  have vf:=vrow_at (f:=fv2) cl
  have vg:=vrow_at (f:=gv1) cl
  simp only[e14,e13,z0,z1,rz,k0,k1,g5,Int.toNat_natCast,↓DD,UU,xE]
  refine draw_cut [(z,cz,[]),(xf,vrow sh.c.toNat fv2,[]),(xg,vrow sh.c.toNat gv1,[]),(x,#[.int .i64 sh.p,.int .i64 sh.c,.int .i64 sh.m],[])]
   (noD sh a n cap x k xf xg i (X.tr.length+m) yy.c (some ⟨z,0,none⟩) X2.tr.length cap3 (P ++ (sg z (.cells cz Tz qz) :: noL sh x xf xg sh.c.toNat fv2 gv1 (G1 ++ g :: l)))) (by simp only[hz1,hxf,hxg,hx1,↓DD,UU]) ?_ ?_
  ·by_cases h3:e.e=3
   rotate_left
   ·have g3':(e.e == 3)=false:=beq_eq_false_iff_ne.2 h3
    simp only[e14,e13,z0,z1,rz,k7,g3',Int.toNat_natCast,↓DD,UU,↓reduceIte,xE]
    exact⟨by simp [gt],by simp [gt,e9],by simp [gt,e14],by simp [gt,e13],by simp [gt],by simp [noF,gt,e1,e2,e5,e7,e8],hS⟩
   have g3':(e.e == 3)=true:=beq_iff_eq.2 h3
   have hFd:=hF2 yy.c.toNat
   cases hFc:F2 yy (evs.take m) (F1 X X2 yy F) yy.c.toNat
   ·rw[hFc]at hFd
    have hv:fv2 yy.c.toNat=.slice none 0 0:=hFd
    simp only[e14,e13,e7,z0,z1,rz,k7,g3',c0,c1'',vf,hv,rxf,n10,Int.toNat_natCast,↓DD,UU,↓reduceIte,xE]
    exact⟨by simp [gt],by simp [gt,e9],by simp [gt,e14],by simp [gt,e13],by simp [gt],by simp [noF,gt,e1,e2,e5,e7,e8],hS⟩
   rename_i ws0
   rw[hFc]at hFd
   obtain⟨b5,o5,cap5,h5',hv,hm5,hr5,hU5⟩:Fw N G1 (fv2 yy.c.toNat) (some ws0):=hFd
   have hg:=hG2 yy.c.toNat (by rw[hFc];exact fun z=>by cases z)
   have hRl:=hT2.l yy.c.toNat
   have hcn:=him h3 ws0 (F2_le hFc)
   obtain⟨Rc,hRc⟩:∃ r,R1 X X2 yy F R yy.c.toNat=r:=⟨_,rfl⟩
   rw[hRc]at hg hRl hcn
   simp only[e14,e13,e7,e8,e5,e2,z0,z1,rz,k7,k4,g3',c0,c1'',vf,vg,hv,hg,rxf,rxg,rx,n10,n20,n30,n21,n31,n32,Int.toNat_natCast,↓DD,UU,↓reduceIte,xA,xC,xE,xF]
   refine callT_of (c_stepsW (by omega) hP hS) ?_
   rintro v H' ⟨a5,cap6,g5',rfl,hE5,hS⟩
   have hQ:=hS.tail.dropF
   have hz1:=hQ.look
   have hxf:=hQ.lk 1 rfl
   have hxg:=hQ.lk 2 rfl
   have hx1:=hQ.lk 3 rfl
   have hle:X2.sp.length≤cap6:=by
    obtain⟨-,⟨-,h0,-,-⟩|⟨_,_,-,-,h1,-,-⟩⟩:=hE5
    ·omega
    ·exact h1
   have y0:(0:Int)≤(Rc:Int):=by omega
   have y1:(Rc:Int)≤((X2.sp.length:Nat):Int):=by omega
   have y2:((X2.sp.length:Nat):Int)≤(cap6:Int):=by omega
   refine⟨by simp only[hz1,hxf,hxg,hx1,↓DD,UU],?_⟩
   simp only[y0,y1,y2,Int.toNat_natCast,↓DD,UU,xE]
   have cc:=c_claimed (W:=W) (c:=yy.c) (n:=e.o.n) (A:=X2.sp.drop Rc) (cap:=cap6 - Rc) hm (by rw[List.length_drop];omega) (AcR.drop hE5 hRl) hS
   rw[List.length_drop]at cc
   refine callT_of cc ?_
   clear cc hQ hz1 hxf hxg hx1
   rintro v H' ⟨⟨bb,rfl,hbb⟩,hS⟩
   have hQ:=hS.tail.dropF
   have hz1:=hQ.look
   have hxf:=hQ.lk 1 rfl
   have hxg:=hQ.lk 2 rfl
   have hx1:=hQ.lk 3 rfl
   have rx:=fun o n=>rdn_of hx1 o n
   have rz:=fun o=>rd_of hz1 o
   have rxf:=fun o=>rd_of hxf o
   refine⟨by simp only[hz1,hxf,hxg,hx1,↓DD,UU],?_⟩
   cases bb
   rotate_left
   ·simp only[↓DD,UU,xE]
    exact⟨by simp [gt],by simp [gt,e9],by simp [gt,e14],by simp [gt,e13],by simp [gt],by simp [noF,gt,e1,e2,e5,e7,e8],hS.tail⟩
   have hno:Non sh yy.c e.o.n ws0:=by
    rw[← hXs]
    refine hcn.resolve_left fun ⟨q,q1,q2⟩=>?_
    rw[hXs]at q2
    exact absurd (hbb ⟨q,q1,q2⟩) (by decide)
   simp only[e14,e13,e7,e2,z0,z1,rz,k4,c0,c1'',vf,hv,rxf,rx,n10,n30,n31,n32,Int.toNat_natCast,↓DD,UU,↓reduceIte,xA,xC,xE,xF]
   refine callT_of (c_has' hm hN hr5 hU5 c0 c1 (by simp [noL,hm5]) hS) ?_
   clear hQ hz1 hxf hxg hx1 rx rz rxf
   rintro v H' ⟨⟨b2,rfl,hb2⟩,hS⟩
   have hb2:=hb2 hno
   subst hb2
   have hQ:=hS.tail.dropF
   have hz1:=hQ.look
   have hxf:=hQ.lk 1 rfl
   have hxg:=hQ.lk 2 rfl
   have hx1:=hQ.lk 3 rfl
   refine⟨by simp only[hz1,hxf,hxg,hx1,↓DD,UU],?_⟩
   simp only[↓DD,UU,xE]
   exact⟨by simp [gt],by simp [gt,e9],by simp [gt,e14],by simp [gt,e13],by simp [gt],by simp [noF,gt,e1,e2,e5,e7,e8],hS.tail⟩
  ·clear hS hQ hz1 rz hxf hxg hx1 rxf rxg rx e1 e2 e5 e7 e8 e9 e13 e14
   rintro F' H' ⟨e153,e9,e14,e13,e15,⟨e1,e2,e5,e7,e8⟩,hS⟩
   have hxf:=hS.dropF.lk 1 rfl
   have f2:F2 yy (evs.take (m+1)) (F1 X X2 yy F)=fun d=>if d=yy.c.toNat then none else F2 yy (evs.take m) (F1 X X2 yy F) d:=by
    rw[F2_step he];funext d
    by_cases k:d=yy.c.toNat
    ·rw[if_pos ⟨k,h5⟩,if_pos k]
    ·rw[if_neg (fun z=>k z.1),if_neg k]
   simp only[e153,e7,e15,e14,c0,c1'',hxf,vrow_size,vrow_set,cl,wj,wrap_w64,↓DD,UU,xE]
   refine⟨⟨m+1,fun j=>if j=yy.c.toNat then .slice none 0 0 else fv2 j,by omega,by simp [gt,e9],by simp [gt],by simp [gt,e13],by simp [noF,gt,e1,e2,e5,e7,e8],⟨fun d=>?_,fun d hd=>?_⟩,?_⟩,?_⟩
   ·rw[f2]
    by_cases k:d=yy.c.toNat
    ·dsimp only
     rw[if_pos k,if_pos k];exact rfl
    ·dsimp only
     rw[if_neg k,if_neg k];exact hF2 d
   ·rw[f2]at hd
    by_cases k:d=yy.c.toNat
    ·dsimp only at hd
     rw[if_pos k]at hd;exact absurd rfl hd
    ·dsimp only at hd
     rw[if_neg k]at hd;exact hG2 d hd
   ·have h1:Sep (sg xf (.cells (vrow sh.c.toNat fv2) 43 (0,0)) :: sg z (.cells cz Tz qz) :: (sg xg (.cells (vrow sh.c.toNat gv1) 3 (0,0)) :: sg x (.cells #[.int .i64 sh.p,.int .i64 sh.c,.int .i64 sh.m] 23 (0,0)) :: (G1 ++ g :: l) ++ P)) H':=
     (show Sep (sg z _ :: sg xf _ :: (sg xg _ :: sg x _ :: (G1 ++ g :: l) ++ P)) H' from hS.perm List.perm_append_comm).sel 2 [1,0] (by decide) (by decide)
    have h2:=(h1.set (.cells (vrow sh.c.toNat fun j=>if j=yy.c.toNat then .slice none 0 0 else fv2 j) 43 (0,0))).sel 2 [1,0] (by decide) (by decide)
    exact Sep.perm (l:=(sg z (.cells cz Tz qz) :: noL sh x xf xg sh.c.toNat _ _ (G1 ++ g :: l)) ++ P) h2 List.perm_append_comm
   ·try rw[e14]
    exact ms
theorem l_topnomemory {W:World} {ch:Nat→Chr} (p c m:Int) (_:-9223372036854775808≤p∧p≤9223372036854775807) (_:-9223372036854775808≤c∧c≤9223372036854775807) (_:-9223372036854775808≤m∧m≤9223372036854775807) (hn:n≤9223372036854775807) (hr:RowC (memOf W) a n ch) :
  CallP Tryz.prog W 5 #[.agg #[.int .i64 p,.int .i64 c,.int .i64 m],.slice a n cap] (memOf W) fun v H'=>v=.bool true∧Sub (memOf W) H':=
 (c_topnomemory (sh:=⟨p,c,m⟩) hn hr (Sep.one _)).mono fun v H' ⟨h1,h2⟩=>⟨h1,h2.head⟩
end
end Go.Proofs.YtkjpgikjcfhckaaGreat
