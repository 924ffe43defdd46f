/-
The document's readers of a heap's pages and slots. Conditions: none.
What an access may do to the words, as the statement asks. Conditions: none.
TopBound, walked: each access does what it may. Conditions: none.
-/
import Derived.Test.YtkjpgikjcfhckaaGreatRefPack
import Derived.Test.YtkjpgikjcfhckaaGreatLawK
import Derived.Test.YtkjpgikjcfhckaaGreatCode
import Derived.Test.YtkjpgikjcfhckaaGreatCodeX
import Derived.Test.YtkjpgikjcfhckaaGreatAskX
import Derived.Test.YtkjpgikjcfhckaaGreatRefPlan
import Derived.Test.YtkjpgikjcfhckaaGreatAlt
import Derived.Test.YtkjpgikjcfhckaaGreatMaT
open Nat renaming reduceAdd→xA,reduceMul→xB,reduceSub→xC,reduceEqDiff→xD,reduceBEq→xE,reduceLeDiff→xF,reduceLT→xG
open Int renaming reduceAdd→xH,reduceMul→xI,reduceSub→xJ,reduceLT→xK,reduceLE→xL,reduceToNat→xM,reduceEq→xN,reduceNe→xO,reduceBEq→xP,reduceBNe→xQ
set_option linter.unusedVariables false
set_option linter.unusedSimpArgs false
set_option maxRecDepth 8000
namespace Go.Proofs.YtkjpgikjcfhckaaGreat
open Go Go.Ev Go.Pl Go.Ma

theorem q_readsl {w:Int} (hw:U w):PureC Tryz.prog 62 #[.int .u64 w] (.agg #[.int .i64 (slK w),.int .i64 (slA w)]):=by
 refine PureC.of mixed Tryz.func62 (by kernel_rfl) tr62 (by show 1≤_;decide) fun W H=>?_
 have a0:bits .and .u64 w 15=w % 16:=and15 hw
 have a1:bits .and .u64 (w / 16) 255=pt w 16:=and255 (U_div hw 16 (by decide))
 have b0:w64 (w % 16)=w % 16:=w64_nib
 have b1:w64 (pt w 16)=pt w 16:=w64_byte
 simp only[↓DD,UU]
 refine newB_intro fun x hx f1 f2=>?_
 simp only[shr4,a0,a1,wrap_w64,b0,b1,↓DD,UU,xA,xE,xL,xM,eq_self]
 refine newB_intro fun y hy f3 f4=>?_
 have nxy:(x=y)=False:=f3 x (by rw[upd_same];rfl)
 have nyx:(y=x)=False:=f4 x (by rw[upd_same];rfl)
 by_cases e1:putSl (w % 16) (pt w 16)=w
 ·have g1:(putSl (w % 16) (pt w 16) != w)=false:=by simp [e1]
  have hok:okSl w=true:=decide_eq_true e1
  simp only[u_putsl,g1,nxy,↓DD,UU,↓reduceIte,xA,xC,xE,xF,eq_self]
  simp only[slK,slA,hok,if_true]
  exact⟨trivial,((((Sep.one H).new f1 _).new f3 _).p1.set _).tail.tail.head⟩
 ·have g1:(putSl (w % 16) (pt w 16) != w)=true:=by simp [e1]
  have hok:okSl w=false:=decide_eq_false e1
  simp only[u_putsl,g1,nxy,↓DD,UU,↓reduceIte,xA,xC,xE,xF,eq_self]
  simp only[slK,slA,hok,Bool.false_eq_true,if_false]
  exact⟨trivial,((((Sep.one H).new f1 _).new f3 _).p1.set _).tail.tail.head⟩
theorem u_readsl {w:Int} (hw:U w):pv Tryz.prog 62 #[.int .u64 w] = some (.agg #[.int .i64 (slK w),.int .i64 (slA w)]):=pv_of (q_readsl hw)

section
variable {W:World} {H h:Hp} {l:List Hp} {n cap:Nat} {a:Option Addr} {ws:Nat→Int} {sh:Sh}
def spX (sh:Sh) (ws:Nat→Int) (q:Int):Int:=ws (page sh.p sh.c sh.m q).toNat
theorem cells_of {H:Hp} {b o:Nat} {v:Value} (h:rd H b o=some v):∃ c T f,H b=some (.cells c T f)∧c[o]? = some v:=by
 unfold rd at h
 split at h
 ·rename_i c T f e;exact⟨c,T,f,e,h⟩
 ·cases h
theorem words_ge (hm:may sh.p sh.c sh.m=true) (hn:(n:Int)=words sh.p sh.c sh.m):sh.c+sh.p*17+sh.c*sh.m=(n:Int)∧0≤sh.c*sh.m∧sh.c*sh.m≤96:=by
 have hb:=(may_iff _ _ _).1 hm
 have hml:=mul_bd sh.c sh.m (by omega) hb.2.2.2.1 hb.2.2.2.2.1 hb.2.2.2.2.2
 rw[hn];unfold words;rw[if_pos hm];omega
def spG (p:Int) (n cap:Nat) (a:Option Addr) (x y:Nat) (F':Fr):Prop:=gt F' 1=.slice a n cap∧gt F' 2=.int .i64 p∧gt F' 4=.pointer (some ⟨x,0,none⟩)∧gt F' 7=.pointer (some ⟨y,0,none⟩)
def spI (r:Nat) (p:Int) (n cap:Nat) (a:Option Addr) (x y:Nat) (L:List Hp) (F':Fr) (H':Hp):Prop:=
 ∃ i:Nat,i≤16∧gt F' r=.int .i64 (i:Int)∧spG p n cap a x y F'∧Sep L H'
def spL (A p:Int) (n cap:Nat) (a:Option Addr) (x y:Nat) (L:List Hp) (F':Fr) (H':Hp):Prop:=
 ∃ i:Int,1≤i∧(i=1∨i≤A)∧gt F' 16=.int .i64 i∧spG p n cap a x y F'∧Sep L H'
end
end Go.Proofs.YtkjpgikjcfhckaaGreat
set_option linter.unusedSectionVars false
set_option maxRecDepth 8000
namespace Go.Proofs.YtkjpgikjcfhckaaGreat
open Go Go.Ev Go.Pl Go.Ma
section
variable {W:World} {H h:Hp} {l:List Hp} {n cap:Nat} {a:Option Addr} {ws:Nat→Int} {sh:Sh}
def Mn (sh:Sh) (ws:Nat→Int) (c who:Int):Prop:=0≤c∧c<sh.c∧0≤who∧who<sh.c∧(c=who∨ws c.toNat=3+16*who)
theorem c_mine {c who:Int} (hm:may sh.p sh.c sh.m=true) (hn:(n:Int)=words sh.p sh.c sh.m) (hr:RowU h a n ws) (hU:∀ i,i<n→U (ws i)) (hmn:Mn sh ws c who) (hS:Sep (h :: l) H) :
  CallP Tryz.prog W 59 #[.agg #[.int .i64 sh.p,.int .i64 sh.c,.int .i64 sh.m],.slice a n cap,.int .i64 c,.int .i64 who] H fun v H'=>v=.bool true∧Sep (h :: l) H':=by
 refine CallP.of mixed Tryz.func59 tr59 (by show 4≤_;decide) fun W _=>?_
 obtain⟨c0,c1,w0,w1,hh⟩:=hmn
 have hb:=(may_iff _ _ _).1 hm
 have hw:=words_ge hm hn
 simp only[↓DD,UU,xA]
 refine newB_intro fun x hx f1 f2=>?_
 have hS:=(hS.new f1 (.cells #[.int .i64 sh.p,.int .i64 sh.c,.int .i64 sh.m] 23 (0,0)))
 have hx1:=hS.look
 have r1:=fun o n=>rdn_of hx1 o n
 by_cases e:c=who
 ·have g:(c == who)=true:=beq_iff_eq.2 e
  simp only[g,↓DD,UU,xA,xE,eq_self]
  exact hS.tail
 have g:(c == who)=false:=beq_eq_false_iff_ne.2 e
 have e3:ws c.toNat=3+16*who:=hh.resolve_left e
 have hs:status sh.p sh.c sh.m c=c:=status_yes hm c0 c1
 have d1:decide (c<0)=false:=decide_eq_false (by omega)
 obtain⟨xb,xo,rfl,hrd⟩:=(hr.sub (hS.sb h (by simp))).at' (i:=c.toNat) (by omega)
 have q1:c<(n:Int):=by omega
 have hrs:=u_readst (hU c.toNat (by omega))
 have h1:Go.Ma.pt (3+16*who) 16=who:=by unfold Go.Ma.pt;omega
 have h2:(3+16*who) % 16=3:=by omega
 have h3:putSt 3 who=3+16*who:=by unfold putSt;rw[if_pos (by omega)]
 have h4:stK (3+16*who)=3:=by unfold stK;rw[h1,h2,h3,if_pos rfl]
 have h5:Go.Ma.stB (3+16*who)=who:=by unfold Go.Ma.stB;rw[h1,h2,h3,if_pos rfl]
 rw[e3]at hrd hrs
 have q3:((3:Int) == 3)=true:=rfl
 have q4:(who == who)=true:=beq_self_eq_true _
 simp only[g,r1,u_status,hs,d1,hrd,c0,q1,hrs,h4,h5,q3,q4,↓DD,UU,↓reduceIte,xA,xC,xE,xF,eq_self]
 exact hS.tail
def aV (c kd at' was pt:Int) (ok:Bool):Array Value:=#[.int .i64 c,.int .i64 kd,.int .i64 at',.int .u64 was,.int .u64 pt,.bool ok]
inductive MyP (sh:Sh) (ws:Nat→Int) (c kd q was pt:Int):Prop
 | c (k:pgK sh q was=0∨pgK sh q was=3) (k2:kd=2) (y:pgK sh q pt=1) (z:pgA sh q pt=c)
 | s (A:Int) (k:pgK sh q was=2) (hA:pgA sh q was=A) (all:∀ i,0≤i→i<slots A→slK (slAt sh ws q i)=2∧slA (slAt sh ws q i)=c) (y:pgK sh q pt=1) (z:pgA sh q pt=c)
 | h (k:pgK sh q was=1) (m:Mn sh ws (pgA sh q was) c)
 | b (A:Int) (k:pgK sh q was=4) (hA:pgA sh q was=A) (A0:0≤A) (A1:A<sh.p) (o:okPg sh A (pgAt sh ws A)=true) (k1:pgK sh A (pgAt sh ws A)=1) (m:Mn sh ws (pgA sh A (pgAt sh ws A)) c) (y:pgK sh q pt=0)
def myL (sh:Sh) (x y z1 z2:Nat) (c kd at' was pt:Int) (ok:Bool) (K1 A1 B1 K2 A2 B2:Int) (L:List Hp):List Hp:=
 sg z2 (.cells #[.int .i64 K2,.int .i64 A2,.int .i64 B2] 69 (0,0)) :: sg z1 (.cells #[.int .i64 K1,.int .i64 A1,.int .i64 B1] 69 (0,0)) :: sg y (.cells #[.int .i64 c,.int .i64 kd,.int .i64 at',.int .u64 was,.int .u64 pt,.bool ok] 52 (0,0)) :: sg x (.cells #[.int .i64 sh.p,.int .i64 sh.c,.int .i64 sh.m] 23 (0,0)) :: L
def myI (sh:Sh) (a:Option Addr) (n cap:Nat) (q A:Int) (x y z1 z2:Nat) (L:List Hp) (F':Fr) (H':Hp):Prop:=
 ∃ i:Nat,(i:Int)≤slots A∧(gt F' 13=.int .i64 (i:Int)∧gt F' 1=.slice a n cap∧gt F' 3=.int .i64 q∧gt F' 4=.pointer (some ⟨x,0,none⟩)∧gt F' 6=.pointer (some ⟨y,0,none⟩)∧gt F' 9=.pointer (some ⟨z1,0,none⟩)∧gt F' 11=.pointer (some ⟨z2,0,none⟩))∧Sep L H'
def myC (sh:Sh) (a:Option Addr) (n cap:Nat) (x y z2:Nat) (K A B:Int) (L:List Hp) (F':Fr) (H':Hp):Prop:=
 (gt F' 16=.bool true∧gt F' 1=.slice a n cap∧gt F' 4=.pointer (some ⟨x,0,none⟩)∧gt F' 6=.pointer (some ⟨y,0,none⟩)∧gt F' 11=.pointer (some ⟨z2,0,none⟩))∧∃ v,gt F' 15=.pointer (some ⟨v,0,none⟩) ∧
  Sep (sg v (.cells #[.int .i64 K,.int .i64 A,.int .i64 B] 69 (0,0)) :: L) H'
set_option maxHeartbeats 4000000 in
theorem c_maypage {c kd at' was pt q:Int} {ok:Bool} (hm:may sh.p sh.c sh.m=true) (hn:(n:Int)=words sh.p sh.c sh.m) (hr:RowU h a n ws) (hU:∀ i,i<n→U (ws i)) (hw:U was) (hp:U pt) (q0:0≤q) (q1:q<sh.p)
  (o1:okPg sh q was=true) (o2:okPg sh q pt=true) (hmy:MyP sh ws c kd q was pt) (hS:Sep (h :: l) H) :
  CallP Tryz.prog W 56 #[.agg #[.int .i64 sh.p,.int .i64 sh.c,.int .i64 sh.m],.slice a n cap,.agg (aV c kd at' was pt ok),.int .i64 q] H fun v H'=>v=.bool true∧Sep (h :: l) H':=by
 refine CallP.of mixed Tryz.func56 tr56 (by show 4≤_;decide) fun W _=>?_
 have hb:=(may_iff _ _ _).1 hm
 have hwd:=words_ge hm hn
 simp only[aV,↓DD,UU,xA]
 have hS0:=hS
 refine newB_intro fun x hx f1 f2=>?_
 have hS:=(hS.new f1 (.cells #[.int .i64 sh.p,.int .i64 sh.c,.int .i64 sh.m] 23 (0,0)))
 simp only[↓DD,UU,xA,xE,eq_self]
 refine newB_intro fun y hy f3 f4=>?_
 have hS:=(hS.new f3 (.cells #[.int .i64 c,.int .i64 kd,.int .i64 at',.int .u64 was,.int .u64 pt,.bool ok] 52 (0,0)))
 have hx1:=hS.lk 1 rfl
 have hy1:=hS.look
 have nyx:=hS.neq 0 1 (by decide) rfl rfl
 have nxy:=hS.qen 0 1 (by decide) rfl rfl
 have r1:=fun o n=>rdn_of hx1 o n
 have ry:=fun o=>rd_of hy1 o
 have e1:=u_readpg sh q hw
 have e2:=u_readpg sh q hp
 obtain⟨K1,hK1⟩:∃ k,pgK sh q was=k:=⟨_,rfl⟩
 obtain⟨A1,hA1⟩:∃ k,pgA sh q was=k:=⟨_,rfl⟩
 obtain⟨B1,hB1⟩:∃ k,pgB sh q was=k:=⟨_,rfl⟩
 obtain⟨K2,hK2⟩:∃ k,pgK sh q pt=k:=⟨_,rfl⟩
 obtain⟨A2,hA2⟩:∃ k,pgA sh q pt=k:=⟨_,rfl⟩
 obtain⟨B2,hB2⟩:∃ k,pgB sh q pt=k:=⟨_,rfl⟩
 rw[hK1,hA1,hB1,o1]at e1
 rw[hK2,hA2,hB2,o2]at e2
 simp only[r1,ry,e1,↓DD,UU,↓reduceIte,xA,xC,xE,xF,eq_self]
 refine newB_intro fun z1 hz1 f5 f6=>?_
 have hS:=(hS.new f5 (.cells #[.int .i64 K1,.int .i64 A1,.int .i64 B1] 69 (0,0)))
 have nxz:(x=z1)=False:=f5 x (by rw[hx1];rfl)
 have nzx:(z1=x)=False:=f6 x (by rw[hx1];rfl)
 have nyz:(y=z1)=False:=f5 y (by rw[hy1];rfl)
 have nzy:(z1=y)=False:=f6 y (by rw[hy1];rfl)
 simp only[r1,ry,nxz,nyz,e2,Ev.upd_upd,↓DD,UU,↓reduceIte,xA,xC,xE,xF,eq_self]
 refine newB_intro fun z2 hz2 f7 f8=>?_
 have hz1:=hS.look
 have hx1:=hS.lk 2 rfl
 have hy1:=hS.lk 1 rfl
 have nxv:(x=z2)=False:=f7 x (by rw[hx1];rfl)
 have nvx:(z2=x)=False:=f8 x (by rw[hx1];rfl)
 have nyv:(y=z2)=False:=f7 y (by rw[hy1];rfl)
 have nvy:(z2=y)=False:=f8 y (by rw[hy1];rfl)
 have nzv:(z1=z2)=False:=f7 z1 (by rw[hz1];rfl)
 have nvz:(z2=z1)=False:=f8 z1 (by rw[hz1];rfl)
 have hS:=(hS.new f7 (.cells #[.int .i64 K2,.int .i64 A2,.int .i64 B2] 69 (0,0)))
 have rz1:=fun o=>rd_of hz1 o
 simp only[rz1,nzv,Ev.upd_upd,↓DD,UU,↓reduceIte,xA,xE,xF,eq_self]
 have hS:Sep (myL sh x y z1 z2 c kd at' was pt ok K1 A1 B1 K2 A2 B2 (h :: l)) _:=hS
 have hz2:=hS.look
 have hz1:=hS.lk 1 rfl
 have hy1:=hS.lk 2 rfl
 have hx1:=hS.lk 3 rfl
 have rz2:=fun o=>rd_of hz2 o
 have rz1:=fun o=>rd_of hz1 o
 have ry:=fun o=>rd_of hy1 o
 have rx:=fun o=>rd_of hx1 o
 have rxn:=fun o n=>rdn_of hx1 o n
 have fin:∀ H',Sep (myL sh x y z1 z2 c kd at' was pt ok K1 A1 B1 K2 A2 B2 (h :: l)) H'→Sep (h :: l) H':=fun H' h2=>h2.tail.tail.tail.tail
 cases hmy with
 |c k k2 yy zz=>
  rw[hK1]at k
  rw[hK2]at yy
  rw[hA2]at zz
  have g2:(kd == 2)=true:=beq_iff_eq.2 k2
  have g3:(K2 == 1)=true:=beq_iff_eq.2 yy
  have g4:(A2 == c)=true:=beq_iff_eq.2 zz
  by_cases k0:K1=0
  ·have g0:(K1 == 0)=true:=beq_iff_eq.2 k0
   simp only[g0,g2,g3,g4,ry,rz2,↓DD,UU,xA,xE,eq_self]
   exact fin _ hS
  ·have g0:(K1 == 0)=false:=beq_eq_false_iff_ne.2 k0
   have g1:(K1 == 3)=true:=beq_iff_eq.2 (k.resolve_left k0)
   simp only[g0,g1,g2,g3,g4,ry,rz2,↓DD,UU,xA,xE,eq_self]
   exact fin _ hS
 |s A k hA all yy zz=>
  rw[hK1]at k
  rw[hK2]at yy
  rw[hA2]at zz
  rw[hA1]at hA
  subst hA
  have g0:(K1 == 0)=false:=by rw[k];rfl
  have g1:(K1 == 3)=false:=by rw[k];rfl
  have g2:(K1 == 2)=true:=by rw[k];rfl
  have g3:(K2 == 1)=true:=beq_iff_eq.2 yy
  have g4:(A2 == c)=true:=beq_iff_eq.2 zz
  have sb:=slots_bd A1
  simp only[g0,g1,g2,↓DD,UU,xA,xE,eq_self]
  refine loop_intro (myI sh a n cap q A1 x y z1 z2 (myL sh x y z1 z2 c kd at' was pt ok K1 A1 B1 K2 A2 B2 (h :: l))) (fun F' _=>(slots A1 - iv (gt F' 13)).toNat) ⟨0,by omega,⟨by simp [gt],by simp [gt],by simp [gt],by simp [gt],by simp [gt],by simp [gt],by simp [gt]⟩,hS⟩ ?_
  clear hS hz2 hz1 hy1 hx1 rz2 rz1 ry rx rxn
  rintro F' H' ⟨i,hi,⟨e13,e1',e3,e4,e6,e9,e11⟩,hS⟩
  have hz2:=hS.look
  have hz1:=hS.lk 1 rfl
  have hy1:=hS.lk 2 rfl
  have hx1:=hS.lk 3 rfl
  have rz2:=fun o=>rd_of hz2 o
  have rz1:=fun o=>rd_of hz1 o
  have ry:=fun o=>rd_of hy1 o
  have rxn:=fun o n=>rdn_of hx1 o n
  by_cases hlt:(i:Int)<slots A1
  rotate_left
  ·have d1:decide ((i:Int)<slots A1)=false:=decide_eq_false hlt
   simp only[e13,e9,e11,e6,rz1,u_slots,d1,rz2,ry,g3,g4,↓DD,UU,xE,eq_self]
   exact fin _ hS
  have d1:decide ((i:Int)<slots A1)=true:=decide_eq_true hlt
  have wi:w64 ((i:Int)+1)=(i:Int)+1:=w64_eq (by omega) (by omega)
  have hsl:slot sh.p sh.c sh.m q i=sh.c+sh.p+q*16+i:=slot_yes hm q0 q1 (by omega) (by omega)
  have p0:(0:Int)≤sh.c+sh.p+q*16+i:=by omega
  have p1:sh.c+sh.p+q*16+i<(n:Int):=by omega
  obtain⟨xb,xo,ea,hrd⟩:=(hr.sub (hS.sb h (by simp [myL]))).at' (i:=(sh.c+sh.p+q*16+i).toNat) (by omega)
  have e1'':gt F' 1=.slice (some ⟨xb,xo,none⟩) n cap:=by rw[e1',ea]
  have hu:U (ws (sh.c+sh.p+q*16+i).toNat):=hU _ (by omega)
  have hsa:ws (sh.c+sh.p+q*16+i).toNat=slAt sh ws q i:=rfl
  obtain⟨s1,s2⟩:=all i (by omega) hlt
  have us:=u_readsl hu
  rw[hsa,s1,s2]at us
  rw[hsa]at hrd
  simp only[e13,e1'',e3,e4,e9,rz1,u_slots,d1,rxn,u_slot,hsl,p0,p1,hrd,us,↓DD,UU,↓reduceIte,xA,xC,xE,xF,eq_self]
  refine newB_intro fun v hv f9 f0=>?_
  have nyv':(y=v)=False:=f9 y (by rw[hy1];rfl)
  have nvy':(v=y)=False:=f0 y (by rw[hy1];rfl)
  have hS:=(hS.new f9 (.cells #[.int .i64 2,.int .i64 c] 121 (0,0)))
  have t2:((2:Int) != 2)=false:=rfl
  have tc:(c != c)=false:=bne_self_eq_false' ..
  simp only[e13,e6,ry,nyv',t2,tc,wi,wrap_w64,Ev.upd_upd,↓DD,UU,↓reduceIte,xA,xE,xF,eq_self]
  refine⟨⟨i+1,by omega,⟨by simp [gt],by simp [gt,e1'],by simp [gt,e3],by simp [gt,e4],by simp [gt,e6],by simp [gt,e9],by simp [gt,e11]⟩,hS.tail⟩,?_⟩
  show(_ - ((i:Int)+1)).toNat<(_ - (i:Int)).toNat
  omega
 |h k m=>
  rw[hK1]at k
  rw[hA1]at m
  have g0:(K1 == 0)=false:=by rw[k];rfl
  have g1:(K1 == 3)=false:=by rw[k];rfl
  have g2:(K1 == 2)=false:=by rw[k];rfl
  have g3:(K1 == 1)=true:=by rw[k];rfl
  simp only[g0,g1,g2,g3,rz1,ry,rxn,↓DD,UU,↓reduceIte,xA,xC,xE,xF,eq_self]
  have hS:Sep (h :: myL sh x y z1 z2 c kd at' was pt ok K1 A1 B1 K2 A2 B2 l) _:=hS.sel 5 [4,0,1,2,3] (by decide) (by decide)
  refine callT_of (c_mine hm hn hr hU m hS) ?_
  rintro v H' ⟨rfl,hS⟩
  simp only[↓DD,UU,xA,eq_self]
  exact hS.p1.tail.p1.tail.p1.tail.p1.tail
 |b A k hA A0 A1' o k1 m yy=>
  rw[hK1]at k
  rw[hA1]at hA
  subst hA
  rw[hK2]at yy
  have g0:(K1 == 0)=false:=by rw[k];rfl
  have g1:(K1 == 3)=false:=by rw[k];rfl
  have g2:(K1 == 2)=false:=by rw[k];rfl
  have g3:(K1 == 1)=false:=by rw[k];rfl
  simp only[g0,g1,g2,g3,↓DD,UU,xA,xE,eq_self]
  have hpg:page sh.p sh.c sh.m A1=sh.c+A1:=page_yes hm A0 A1'
  have p0:(0:Int)≤sh.c+A1:=by omega
  have p1:sh.c+A1<(n:Int):=by omega
  obtain⟨xb,xo,ea,hrd⟩:=(hr.sub (hS.sb h (by simp [myL]))).at' (i:=(sh.c+A1).toNat) (by omega)
  obtain⟨cb,Tb,fb,hcb,hco⟩:=cells_of hrd
  have rb:=fun o=>rd_of hcb o
  have hu:U (ws (sh.c+A1).toNat):=hU _ (by omega)
  have hsa:ws (sh.c+A1).toNat=pgAt sh ws A1:=by unfold pgAt;rw[hpg]
  have e3:=u_readpg sh A1 hu
  obtain⟨B3,hB3⟩:∃ b,pgB sh A1 (pgAt sh ws A1)=b:=⟨_,rfl⟩
  obtain⟨A3,hA3⟩:∃ b,pgA sh A1 (pgAt sh ws A1)=b:=⟨_,rfl⟩
  rw[hA3]at m
  rw[hsa,o,k1,hA3,hB3]at e3
  rw[hsa]at hco
  subst ea
  obtain⟨xb',xo',e9,hrd'⟩:=(hr.sub (hS0.sb h (by simp))).at' (i:=(sh.c+A1).toNat) (by omega)
  injection e9 with e9
  injection e9 with e91 e92
  subst e91
  obtain⟨c9,T9,f9',h9,-⟩:=cells_of hrd'
  have mx:(xb=x)=False:=f1 xb (by rw[h9];rfl)
  have mz:(xb=z1)=False:=f5 xb (by rw[is_upd,is_upd,h9];simp)
  have xm:(x=xb)=False:=eq_false fun e=>(of_eq_false mx) e.symm
  have zm:(z1=xb)=False:=eq_false fun e=>(of_eq_false mz) e.symm
  refine draw_cut [(x,#[.int .i64 sh.p,.int .i64 sh.c,.int .i64 sh.m],[]),(z1,#[.int .i64 K1,.int .i64 A1,.int .i64 B1],[]),(xb,cb,[])] (myC sh (some ⟨xb,xo,none⟩) n cap x y z2 1 A3 B3 (myL sh x y z1 z2 c kd at' was pt ok K1 A1 B1 K2 A2 B2 (h :: l))) (by simp only[hx1,hz1,hcb,↓DD,UU]) ?_ ?_
  ·simp only[hx1,hz1,hcb,rxn,rz1,rb,mx,mz,nzx,u_page,hpg,p0,p1,hco,e3,↓e_dalt2,↓DD,UU,↓reduceIte,xA,xC,xE,xF,eq_self]
   refine⟨⟨?_,?_⟩,?_⟩
   all_goals
    refine newB_intro fun v hv f9 f0=>?_
    have nxw:(x=v)=False:=f9 x (by rw[hx1];rfl)
    have nwx:(v=x)=False:=f0 x (by rw[hx1];rfl)
    have nzw:(z1=v)=False:=f9 z1 (by rw[hz1];rfl)
    have nwz:(v=z1)=False:=f0 z1 (by rw[hz1];rfl)
    have nbw:(xb=v)=False:=f9 xb (by rw[hcb];rfl)
    have nwb:(v=xb)=False:=f0 xb (by rw[hcb];rfl)
    have hS:=(hS.new f9 (.cells #[.int .i64 1,.int .i64 A3,.int .i64 B3] 69 (0,0)))
    simp only[hx1,hz1,hcb,rb,mx,mz,nxw,nzw,nbw,u_page,hpg,p0,p1,hco,e3,Ev.upd_upd,↓DD,UU,↓reduceIte,xA,xE,xF,eq_self]
    exact⟨⟨by simp [gt],by simp [gt],by simp [gt],by simp [gt],by simp [gt]⟩,v,by simp [gt],hS⟩
  ·rintro F' H' ⟨⟨e16,e1',e4,e6,e11⟩,v,e15,hS⟩
   have hv1:=hS.look
   have rv:=fun o=>rd_of hv1 o
   have hz2:=hS.lk 1 rfl
   have rz2:=fun o=>rd_of hz2 o
   have hy1:=hS.lk 3 rfl
   have ry:=fun o=>rd_of hy1 o
   have hx1:=hS.lk 4 rfl
   have rxn:=fun o n=>rdn_of hx1 o n
   have t1:((1:Int) == 1)=true:=rfl
   have t2:(K2 == 0)=true:=beq_iff_eq.2 yy
   simp only[e16,e1',e4,e6,e15,rv,ry,rxn,t1,↓DD,UU,↓reduceIte,xA,xC,xE,xF,eq_self]
   have hS:Sep (h :: sg v (.cells #[.int .i64 1,.int .i64 A3,.int .i64 B3] 69 (0,0)) :: myL sh x y z1 z2 c kd at' was pt ok K1 A1 B1 K2 A2 B2 l) _:=hS.sel 6 [5,0,1,2,3,4] (by decide) (by decide)
   refine callT_of (c_mine hm hn hr hU m hS) ?_
   rintro vv H' ⟨rfl,hS⟩
   have hz2:=hS.lk 2 rfl
   have rz2:=fun o=>rd_of hz2 o
   simp only[e11,rz2,t2,↓DD,UU,xE,eq_self]
   exact hS.p1.tail.p1.tail.p1.tail.p1.tail.p1.tail
inductive MyS (sh:Sh) (ws:Nat→Int) (c kd q was pt:Int):Prop
 | h (k:pgK sh q (pgAt sh ws q)=1) (m:Mn sh ws (pgA sh q (pgAt sh ws q)) c)
 | c (A:Int) (k:pgK sh q (pgAt sh ws q)=2) (hA:pgA sh q (pgAt sh ws q)=A) (k2:kd=2) (x:slK was=1∨slK was=3) (z:slA was=A) (y:slK pt=2) (w:slA pt=c)
 | w (A:Int) (k:pgK sh q (pgAt sh ws q)=2) (hA:pgA sh q (pgAt sh ws q)=A) (x:slK was=2) (m:Mn sh ws (slA was) c) (y:slK pt=1∨slK pt=3) (z:slA pt=A)
def msL (sh:Sh) (x y:Nat) (c kd at' was pt:Int) (ok:Bool) (L:List Hp):List Hp:=
 sg y (.cells #[.int .i64 c,.int .i64 kd,.int .i64 at',.int .u64 was,.int .u64 pt,.bool ok] 52 (0,0)) :: sg x (.cells #[.int .i64 sh.p,.int .i64 sh.c,.int .i64 sh.m] 23 (0,0)) :: L
def msG (a:Option Addr) (n cap x y:Nat) (F':Fr):Prop:=gt F' 1=.slice a n cap∧gt F' 3=.pointer (some ⟨x,0,none⟩)∧gt F' 5=.pointer (some ⟨y,0,none⟩)
def msC (a:Option Addr) (n cap x y:Nat) (K A B:Int) (L:List Hp) (F':Fr) (H':Hp):Prop:=
 msG a n cap x y F'∧∃ v,gt F' 9=.pointer (some ⟨v,0,none⟩)∧Sep (sg v (.cells #[.int .i64 K,.int .i64 A,.int .i64 B] 69 (0,0)) :: L) H'
def msD (a:Option Addr) (n cap x y v:Nat) (K1 A1 K2 A2:Int) (L:List Hp) (F':Fr) (H':Hp):Prop:=
 (msG a n cap x y F'∧gt F' 9=.pointer (some ⟨v,0,none⟩))∧∃ u t,gt F' 11=.pointer (some ⟨u,0,none⟩)∧gt F' 12=.pointer (some ⟨t,0,none⟩) ∧
  Sep (sg u (.cells #[.int .i64 K1,.int .i64 A1] 121 (0,0)) :: sg t (.cells #[.int .i64 K2,.int .i64 A2] 121 (0,0)) :: L) H'
set_option maxHeartbeats 4000000 in
theorem c_mayslot {c kd at' was pt q i:Int} {ok:Bool} (hm:may sh.p sh.c sh.m=true) (hn:(n:Int)=words sh.p sh.c sh.m) (hr:RowU h a n ws) (hU:∀ i,i<n→U (ws i)) (hw:U was) (hp:U pt) (q0:0≤q) (q1:q<sh.p) (i0:0≤i) (i1:i<16)
  (hat:at'=slot sh.p sh.c sh.m q i) (hmy:MyS sh ws c kd q was pt) (hS:Sep (h :: l) H) :
  CallP Tryz.prog W 58 #[.agg #[.int .i64 sh.p,.int .i64 sh.c,.int .i64 sh.m],.slice a n cap,.agg (aV c kd at' was pt ok)] H fun v H'=>v=.bool true∧Sep (h :: l) H':=by
 refine CallP.of mixed Tryz.func58 tr58 (by show 3≤_;decide) fun W _=>?_
 have hb:=(may_iff _ _ _).1 hm
 have hwd:=words_ge hm hn
 have hsl:slot sh.p sh.c sh.m q i=sh.c+sh.p+q*16+i:=slot_yes hm q0 q1 i0 i1
 have hs0:slot sh.p sh.c sh.m 0 0=sh.c+sh.p:=by rw[slot_yes hm (by decide) (by omega) (by decide) (by decide)];omega
 rw[hsl]at hat
 have wsub:w64 (at' - (sh.c+sh.p))=q*16+i:=by rw[hat];rw[show sh.c+sh.p+q*16+i - (sh.c+sh.p)=q*16+i by omega];exact w64_eq (by omega) (by omega)
 have td:(q*16+i).tdiv 16=q:=by rw[Int.tdiv_eq_ediv_of_nonneg (by omega)];omega
 have wq:w64 q=q:=w64_eq (by omega) (by omega)
 have hpg:page sh.p sh.c sh.m q=sh.c+q:=page_yes hm q0 q1
 have p0:(0:Int)≤sh.c+q:=by omega
 have p1:sh.c+q<(n:Int):=by omega
 obtain⟨xb,xo,ea,hrd⟩:=(hr.sub (hS.sb h (by simp))).at' (i:=(sh.c+q).toNat) (by omega)
 obtain⟨cb,Tb,fb,hcb,hco⟩:=cells_of hrd
 have hu:U (ws (sh.c+q).toNat):=hU _ (by omega)
 have hsa:ws (sh.c+q).toNat=pgAt sh ws q:=by unfold pgAt;rw[hpg]
 have e3:=u_readpg sh q hu
 obtain⟨K3,hK3⟩:∃ b,pgK sh q (pgAt sh ws q)=b:=⟨_,rfl⟩
 obtain⟨A3,hA3⟩:∃ b,pgA sh q (pgAt sh ws q)=b:=⟨_,rfl⟩
 obtain⟨B3,hB3⟩:∃ b,pgB sh q (pgAt sh ws q)=b:=⟨_,rfl⟩
 obtain⟨o3,ho3⟩:∃ b,okPg sh q (pgAt sh ws q)=b:=⟨_,rfl⟩
 rw[hsa,ho3,hK3,hA3,hB3]at e3
 rw[hsa]at hco
 simp only[aV,↓DD,UU,xA]
 refine newB_intro fun x hx f1 f2=>?_
 have mx:(xb=x)=False:=f1 xb (by rw[hcb];rfl)
 have xm:(x=xb)=False:=f2 xb (by rw[hcb];rfl)
 have hS:=(hS.new f1 (.cells #[.int .i64 sh.p,.int .i64 sh.c,.int .i64 sh.m] 23 (0,0)))
 simp only[↓DD,UU,xA,xE,eq_self]
 refine newB_intro fun y hy f3 f4=>?_
 have my:(xb=y)=False:=f3 xb (by rw[is_upd,hcb];simp)
 have hS:=(hS.new f3 (.cells #[.int .i64 c,.int .i64 kd,.int .i64 at',.int .u64 was,.int .u64 pt,.bool ok] 52 (0,0)))
 have hS:Sep (msL sh x y c kd at' was pt ok (h :: l)) _:=hS
 have hx1:=hS.lk 1 rfl
 have hy1:=hS.look
 have nyx:=hS.neq 0 1 (by decide) rfl rfl
 have nxy:=hS.qen 0 1 (by decide) rfl rfl
 have r1:=fun o n=>rdn_of hx1 o n
 have ry:=fun o=>rd_of hy1 o
 have hcb2:upd (upd H x (.cells #[.int .i64 sh.p,.int .i64 sh.c,.int .i64 sh.m] 23 (0,0))) y (.cells #[.int .i64 c,.int .i64 kd,.int .i64 at',.int .u64 was,.int .u64 pt,.bool ok] 52 (0,0)) xb=some (.cells cb Tb fb):=by
  rw[upd_at,if_neg (fun e=>by rw[e]at my;simp at my),upd_at,if_neg (fun e=>by rw[e]at mx;simp at mx)];exact hcb
 have rb:=fun o=>rd_of hcb2 o
 subst ea
 simp only[r1,ry,u_slot,hs0,wsub,td,wq,wrap_w64,↓DD,UU,↓reduceIte,xA,xC,xE,xF,xN,ne_eq,eq_self]
 refine draw_cut [(x,#[.int .i64 sh.p,.int .i64 sh.c,.int .i64 sh.m],[]),(xb,cb,[])] (msC (some ⟨xb,xo,none⟩) n cap x y K3 A3 B3 (msL sh x y c kd at' was pt ok (h :: l))) (by simp only[hx1,hcb2,↓DD,UU]) ?_ ?_
 ·simp only[hx1,hcb2,r1,rb,mx,u_page,hpg,p0,p1,hco,e3,↓e_dalt2,↓DD,UU,↓reduceIte,xA,xC,xE,xF,eq_self]
  refine⟨⟨?_,?_⟩,?_⟩
  all_goals
   refine newB_intro fun v hv f9 f0=>?_
   have nxw:(x=v)=False:=f9 x (by rw[hx1];rfl)
   have nwx:(v=x)=False:=f0 x (by rw[hx1];rfl)
   have nbw:(xb=v)=False:=f9 xb (by rw[hcb2];rfl)
   have nwb:(v=xb)=False:=f0 xb (by rw[hcb2];rfl)
   have hS:=(hS.new f9 (.cells #[.int .i64 K3,.int .i64 A3,.int .i64 B3] 69 (0,0)))
   simp only[hx1,hcb2,rb,mx,nxw,nbw,u_page,hpg,p0,p1,hco,e3,Ev.upd_upd,↓DD,UU,↓reduceIte,xA,xE,xF,eq_self]
   exact⟨⟨by simp [gt],by simp [gt],by simp [gt]⟩,v,by simp [gt],hS⟩
 ·clear hS hx1 hy1 r1 ry hcb2 rb nyx nxy
  rintro F' H' ⟨⟨e1',e3',e5⟩,v,e9,hS⟩
  have hv1:=hS.look
  have hy1:=hS.lk 1 rfl
  have hx1:=hS.lk 2 rfl
  have rv:=fun o=>rd_of hv1 o
  have ry:=fun o=>rd_of hy1 o
  have r1:=fun o n=>rdn_of hx1 o n
  have hcs:(K3=1∧Mn sh ws A3 c)∨(K3=2∧((kd=2∧(slK was=1∨slK was=3)∧slA was=A3∧slK pt=2∧slA pt=c)∨(slK was=2∧Mn sh ws (slA was) c∧(slK pt=1∨slK pt=3)∧slA pt=A3))):=by
   cases hmy with
   | h k m=>exact .inl ⟨by rw[← hK3];exact k,by rw[← hA3];exact m⟩
   | c A k hA k2 xx zz yy ww=>exact .inr ⟨by rw[← hK3];exact k,.inl ⟨k2,xx,by rw[zz,← hA3];exact hA.symm,yy,ww⟩⟩
   | w A k hA xx m yy zz=>exact .inr ⟨by rw[← hK3];exact k,.inr ⟨xx,m,yy,by rw[zz,← hA3];exact hA.symm⟩⟩
  clear hmy
  rcases hcs with⟨k,m⟩|⟨k,hcs⟩
  ·have g:(K3 == 1)=true:=beq_iff_eq.2 k
   simp only[e1',e3',e5,e9,rv,ry,r1,g,↓DD,UU,↓reduceIte,xA,xC,xE,xF,eq_self]
   have hS:Sep (h :: sg v (.cells #[.int .i64 K3,.int .i64 A3,.int .i64 B3] 69 (0,0)) :: msL sh x y c kd at' was pt ok l) _:=hS.sel 4 [3,0,1,2] (by decide) (by decide)
   refine callT_of (c_mine hm hn hr hU m hS) ?_
   rintro vv H' ⟨rfl,hS⟩
   simp only[↓DD,UU,eq_self]
   exact hS.p1.tail.p1.tail.p1.tail
  have g:(K3 == 1)=false:=by rw[k];rfl
  have g2:(K3 == 2)=true:=by rw[k];rfl
  have us1:=u_readsl hw
  have us2:=u_readsl hp
  obtain⟨S1,hS1⟩:∃ b,slK was=b:=⟨_,rfl⟩
  obtain⟨T1,hT1⟩:∃ b,slA was=b:=⟨_,rfl⟩
  obtain⟨S2,hS2⟩:∃ b,slK pt=b:=⟨_,rfl⟩
  obtain⟨T2,hT2⟩:∃ b,slA pt=b:=⟨_,rfl⟩
  rw[hS1,hT1]at us1 hcs
  rw[hS2,hT2]at us2 hcs
  simp only[e9,rv,g,↓DD,UU,eq_self]
  refine draw_cut [(y,#[.int .i64 c,.int .i64 kd,.int .i64 at',.int .u64 was,.int .u64 pt,.bool ok],[])] (msD (some ⟨xb,xo,none⟩) n cap x y v S1 T1 S2 T2 (sg v (.cells #[.int .i64 K3,.int .i64 A3,.int .i64 B3] 69 (0,0)) :: msL sh x y c kd at' was pt ok (h :: l))) (by simp only[hy1,↓DD,UU]) ?_ ?_
  ·simp only[e5,hy1,ry,us1,us2,↓e_dalt2,↓DD,UU,↓reduceIte,xE,eq_self]
   refine⟨⟨⟨?_,?_⟩,?_,?_⟩,?_,?_⟩
   all_goals
    refine newB_intro fun u hu9 f9 f0=>?_
    have nyu:(y=u)=False:=f9 y (by rw[hy1];rfl)
    have nuy:(u=y)=False:=f0 y (by rw[hy1];rfl)
    simp only[hy1,us1,us2,nyu,↓e_dalt2,↓DD,UU,↓reduceIte,xE,eq_self]
    repeat' apply And.intro
    all_goals
     refine newB_intro fun t ht9 g9 g0=>?_
     have hu1:=(hS.new f9 (.cells #[.int .i64 0,.int .i64 0] 121 (0,0))).look
     have nyt:(y=t)=False:=g9 y (by rw[is_upd,hy1];simp)
     have nty:(t=y)=False:=g0 y (by rw[is_upd,hy1];simp)
     have nut:(u=t)=False:=g9 u (by rw[hu1];rfl)
     have ntu:(t=u)=False:=g0 u (by rw[hu1];rfl)
     simp only[hy1,us1,us2,nyu,nyt,nut,ntu,hu1,Ev.upd_upd,↓DD,UU,↓reduceIte,xA,xE,xF,eq_self]
     have hA:=((((hS.new f9 (.cells #[.int .i64 0,.int .i64 0] 121 (0,0))).new g9 (.cells #[.int .i64 0,.int .i64 0] 121 (0,0))).p1.set (.cells #[.int .i64 S1,.int .i64 T1] 121 (0,0))).p1.set (.cells #[.int .i64 S2,.int .i64 T2] 121 (0,0))).p1
     have hB:=(((hS.new f9 (.cells #[.int .i64 0,.int .i64 0] 121 (0,0))).new g9 (.cells #[.int .i64 S1,.int .i64 T1] 121 (0,0))).p1.set (.cells #[.int .i64 S2,.int .i64 T2] 121 (0,0))).p1
     first
      | exact⟨⟨⟨by simp [gt,e1'],by simp [gt,e3'],by simp [gt,e5]⟩,by simp [gt,e9]⟩,u,t,by simp [gt],by simp [gt],hA⟩
      | exact⟨⟨⟨by simp [gt,e1'],by simp [gt,e3'],by simp [gt,e5]⟩,by simp [gt,e9]⟩,t,u,by simp [gt],by simp [gt],hB⟩
  ·clear hS hx1 hy1 hv1 rv ry r1
   rintro F' H' ⟨⟨⟨e1',e3',e5⟩,e9⟩,u,t,e11,e12,hS⟩
   have hu1:=hS.look
   have ht1:=hS.lk 1 rfl
   have hv1:=hS.lk 2 rfl
   have hy1:=hS.lk 3 rfl
   have hx1:=hS.lk 4 rfl
   have ru:=fun o=>rd_of hu1 o
   have rt:=fun o=>rd_of ht1 o
   have rv:=fun o=>rd_of hv1 o
   have ry:=fun o=>rd_of hy1 o
   have r1:=fun o n=>rdn_of hx1 o n
   have fin:∀ H',Sep (sg u (.cells #[.int .i64 S1,.int .i64 T1] 121 (0,0)) :: sg t (.cells #[.int .i64 S2,.int .i64 T2] 121 (0,0)) :: sg v (.cells #[.int .i64 K3,.int .i64 A3,.int .i64 B3] 69 (0,0)) :: msL sh x y c kd at' was pt ok (h :: l)) H'→Sep (h :: l) H':=fun H' h2=>h2.tail.tail.tail.tail.tail
   rcases hcs with⟨k2,xx,zz,yy,ww⟩|⟨xx,m,yy,zz⟩
   ·have q2:(kd == 2)=true:=beq_iff_eq.2 k2
    have q3:(S2 == 2)=true:=beq_iff_eq.2 yy
    have q4:(T2 == c)=true:=beq_iff_eq.2 ww
    have q5:(A3 == T1)=true:=beq_iff_eq.2 zz.symm
    by_cases s1:S1=1
    ·have q1:(S1 == 1)=true:=beq_iff_eq.2 s1
     simp only[e5,e9,e11,e12,ru,rt,rv,ry,q1,q2,q3,q4,q5,g2,↓DD,UU,xE,eq_self]
     exact fin _ hS
    ·have q1:(S1 == 1)=false:=beq_eq_false_iff_ne.2 s1
     have q6:(S1 == 3)=true:=beq_iff_eq.2 (xx.resolve_left s1)
     simp only[e5,e9,e11,e12,ru,rt,rv,ry,q1,q6,q2,q3,q4,q5,g2,↓DD,UU,xE,eq_self]
     exact fin _ hS
   ·have q1:(S1 == 1)=false:=by rw[xx];rfl
    have q3:(S1 == 3)=false:=by rw[xx];rfl
    have q2:(S1 == 2)=true:=by rw[xx];rfl
    have q5:(A3 == T2)=true:=beq_iff_eq.2 zz.symm
    simp only[e1',e3',e5,e11,ru,ry,r1,q1,q2,q3,↓DD,UU,↓reduceIte,xA,xC,xE,xF,eq_self]
    have hS:Sep (h :: sg u (.cells #[.int .i64 S1,.int .i64 T1] 121 (0,0)) :: sg t (.cells #[.int .i64 S2,.int .i64 T2] 121 (0,0)) :: sg v (.cells #[.int .i64 K3,.int .i64 A3,.int .i64 B3] 69 (0,0)) :: msL sh x y c kd at' was pt ok l) _:=hS.sel 6 [5,0,1,2,3,4] (by decide) (by decide)
    refine callT_of (c_mine hm hn hr hU m hS) ?_
    rintro vv H' ⟨rfl,hS⟩
    have ht1:=hS.lk 2 rfl
    have hv1:=hS.lk 3 rfl
    have rt:=fun o=>rd_of ht1 o
    have rv:=fun o=>rd_of hv1 o
    have hS:=hS.p1.tail.p1.tail.p1.tail.p1.tail.p1.tail
    by_cases s2:S2=1
    ·have q6:(S2 == 1)=true:=beq_iff_eq.2 s2
     simp only[e9,e12,rt,rv,q6,q5,g2,↓DD,UU,xE,eq_self]
     exact hS
    ·have q6:(S2 == 1)=false:=beq_eq_false_iff_ne.2 s2
     have q7:(S2 == 3)=true:=beq_iff_eq.2 (yy.resolve_left s2)
     simp only[e9,e12,rt,rv,q6,q7,q5,g2,↓DD,UU,xE,eq_self]
     exact hS
set_option maxHeartbeats 4000000 in
theorem c_may {c:Int} {w w':Wd} (hm:may sh.p sh.c sh.m=true) (hn:(n:Int)=words sh.p sh.c sh.m) (hr:RowU h a n w.ws) (hU:∀ i,U (w.ws i)) (hU':∀ i,U (w'.ws i)) (hcl:w'.cl=c) (one:One c w w') (c0:0≤c) (c1:c<sh.c) (hB:Ow.Bs sh w.ws) (mb:Mb sh c w.ws w') (hS:Sep (h :: l) H) :
  CallP Tryz.prog W 19 #[.agg #[.int .i64 sh.p,.int .i64 sh.c,.int .i64 sh.m],.slice a n cap,.agg (aV w'.cl w'.kd w'.pl w'.was w'.pt w'.ok)] H fun v H'=>v=.bool true∧Sep (h :: l) H':=by
 refine CallP.of mixed Tryz.func19 tr19 (by show 3≤_;decide) fun W _=>?_
 have hb:=(may_iff _ _ _).1 hm
 have hwd:=words_ge hm hn
 have one':=one.wr'
 rw[hcl]
 obtain⟨kd,hkd⟩:∃ k,w'.kd=k:=⟨_,rfl⟩
 obtain⟨at',hat⟩:∃ k,w'.pl=k:=⟨_,rfl⟩
 obtain⟨was,hwas⟩:∃ k,w'.was=k:=⟨_,rfl⟩
 obtain⟨pt,hpt⟩:∃ k,w'.pt=k:=⟨_,rfl⟩
 obtain⟨ok,hok⟩:∃ k,w'.ok=k:=⟨_,rfl⟩
 have hp0:page sh.p sh.c sh.m 0=sh.c:=by rw[page_yes hm (by decide) (by omega)];omega
 have hs0:slot sh.p sh.c sh.m 0 0=sh.c+sh.p:=by rw[slot_yes hm (by decide) (by omega) (by decide) (by decide)];omega
 rw[hkd,hat,hwas,hpt,hok]
 rw[hkd,hat,hwas,hpt,hok]at one'
 simp only[aV,↓DD,UU,xA]
 refine newB_intro fun x hx f1 f2=>?_
 have hS:=(hS.new f1 (.cells #[.int .i64 sh.p,.int .i64 sh.c,.int .i64 sh.m] 23 (0,0)))
 simp only[↓DD,UU,xA,xE,eq_self]
 refine newB_intro fun y hy f3 f4=>?_
 have hS:=(hS.new f3 (.cells #[.int .i64 c,.int .i64 kd,.int .i64 at',.int .u64 was,.int .u64 pt,.bool ok] 52 (0,0)))
 have hS:Sep (msL sh x y c kd at' was pt ok (h :: l)) _:=hS
 have hx1:=hS.lk 1 rfl
 have hy1:=hS.look
 have nyx:=hS.neq 0 1 (by decide) rfl rfl
 have nxy:=hS.qen 0 1 (by decide) rfl rfl
 have r1:=fun o n=>rdn_of hx1 o n
 have r0:=fun o=>rd_of hx1 o
 have ry:=fun o=>rd_of hy1 o
 have ryn:=fun o n=>rdn_of hy1 o n
 have fin:∀ H',Sep (msL sh x y c kd at' was pt ok (h :: l)) H'→Sep (h :: l) H':=fun H' h2=>h2.tail.tail
 by_cases hno:kd=0∨ok=false∨pt=was
 ·have h3:kd=0∨ok=false∨(pt=was∧(kd != 3)=true):=by
   rcases hno with g | g | g
   ·exact .inl g
   ·exact .inr (.inl g)
   ·rcases one' with g' | g' |⟨g',-⟩
    ·exact .inl g'
    ·exact .inr (.inl g')
    ·exact .inr (.inr ⟨g,bne_iff_ne.2 (by omega)⟩)
  by_cases k0:kd=0
  ·have q0:(kd == 0)=true:=beq_iff_eq.2 k0
   simp only[ry,q0,↓DD,UU,xA,xE,eq_self]
   exact fin _ hS
  have q0:(kd == 0)=false:=beq_eq_false_iff_ne.2 k0
  cases ok
  ·simp only[ry,q0,↓DD,UU,xA,xE,eq_self]
   exact fin _ hS
  ·obtain⟨g,g3⟩:=(h3.resolve_left k0).resolve_left (by decide)
   have q1:(pt == was)=true:=beq_iff_eq.2 g
   simp only[ry,q0,q1,g3,↓DD,UU,xA,xE,eq_self]
   exact fin _ hS
 have k0:kd≠0:=fun g=>hno (.inl g)
 have ok1:ok=true:=by
  cases ok
  ·exact absurd (.inr (.inl rfl)) hno
  ·rfl
 have ne:pt≠was:=fun g=>hno (.inr (.inr g))
 obtain⟨kd12,hww,hw'⟩:=(one'.resolve_left k0).resolve_left (by rw[ok1];decide)
 subst ok1
 have q0:(kd == 0)=false:=beq_eq_false_iff_ne.2 k0
 have q1:(pt == was)=false:=beq_eq_false_iff_ne.2 ne
 have q2:(kd == 3)=false:=beq_eq_false_iff_ne.2 (by omega)
 have Uw:U was:=by rw[hww];exact hU _
 have Up:U pt:=by
  have:=hU' at'.toNat
  rw[hw']at this
  unfold upW at this
  rw[if_pos rfl]at this;exact this
 have hww:w.ws at'.toNat=was:=hww.symm
 have place:∀ (a0:0≤at') (a1:at'<(n:Int)),decide (at'<0)=false∧decide ((n:Int)≤at')=false:=fun a0 a1=>⟨decide_eq_false (by omega),decide_eq_false (by omega)⟩
 have row:∀ (a0:0≤at') (a1:at'<(n:Int)),∃ xb xo,a=some ⟨xb,xo,none⟩∧∀ H',Sep (msL sh x y c kd at' was pt true (h :: l)) H'→rd H' xb (xo+at'.toNat)=some (.int .u64 was):=fun a0 a1=>by
  obtain⟨xb,xo,ea,hrd⟩:=(hr.sub (hS.sb h (by simp [msL]))).at' (i:=at'.toNat) (by omega)
  refine⟨xb,xo,ea,fun H' h'=>?_⟩
  obtain⟨xb',xo',ea',hrd'⟩:=(hr.sub (h'.sb h (by simp [msL]))).at' (i:=at'.toNat) (by omega)
  rw[ea]at ea'
  injection ea' with ea'
  injection ea' with e1 e2
  subst e1;subst e2
  rw[hww]at hrd';exact hrd'
 have qw:(was != was)=false:=bne_self_eq_false' ..
 have D:(0≤at'∧at'<sh.c∧(was=2∨∃ b,0≤b∧b<sh.c∧was=3+16*b))∨(∃ q,0≤q∧q<sh.p∧at'=page sh.p sh.c sh.m q∧okPg sh q was=true∧okPg sh q pt=true∧MyP sh w.ws c kd q was pt) ∨
   (∃ q i,0≤q∧q<sh.p∧0≤i∧i<16∧at'=slot sh.p sh.c sh.m q i∧MyS sh w.ws c kd q was pt)∨(∃ o j,0≤o∧o<sh.c∧0≤j∧j<sh.m∧at'=mag sh.p sh.c sh.m o j∧Mn sh w.ws o c):=by
  subst hkd;subst hat;subst hwas;subst hpt
  cases mb with
  | no g=>rw[hok]at g;exact absurd (by rcases g with g | g | g;exact .inl g;cases g;exact .inr (.inr g)) hno
  | st d d0 d1 e g=>exact .inl ⟨by omega,by omega,g⟩
  |pgH q q0 q1 e o o0 o1 own g y=>
   have r:=Ow.rd_h (s:=sh) hm q0 q1 o0 o1
   rw[← g]at r
   exact .inr (.inl ⟨q,q0,q1,e,r.1,y,.h r.2.1 (by rw[r.2.2];exact⟨o0,o1,c0,c1,own⟩)⟩)
  |pgB q q0 q1 e x x0 x1 x8 o o0 o1 own g hx y=>
   have r:=Ow.rd_b (s:=sh) hm q1 x0 x1 x8
   rw[← g]at r
   have r2:=Ow.rd_h (s:=sh) hm x0 (by omega:x<sh.p) o0 o1
   rw[← hx]at r2
   have r3:=Ow.rd_0 (s:=sh) hm q0 q1
   exact .inr (.inl ⟨q,q0,q1,e,r.1,by rw[y];exact r3.1,.b x r.2.1 r.2.2 x0 (by omega) r2.1 r2.2.1 (by rw[r2.2.2];exact⟨o0,o1,c0,c1,own⟩) (by rw[y];exact r3.2.1)⟩)
  |pgC q q0 q1 e k y g=>
   have r:=Ow.rd_h (s:=sh) hm q0 q1 c0 c1
   rw[← y]at r
   rcases g with g |⟨n',n1,n8,nq,g⟩
   ·have r2:=Ow.rd_0 (s:=sh) hm q0 q1
    exact .inr (.inl ⟨q,q0,q1,e,by rw[g];exact r2.1,r.1,.c (.inl (by rw[g];exact r2.2.1)) k r.2.1 r.2.2⟩)
   ·have r2:=Ow.rd_l (s:=sh) hm q0 q1 n1 n8 nq
    exact .inr (.inl ⟨q,q0,q1,e,by rw[g];exact r2.1,r.1,.c (.inr (by rw[g];exact r2.2.1)) k r.2.1 r.2.2⟩)
  |pgS q q0 q1 e y k g al=>
   have r:=Ow.rd_h (s:=sh) hm q0 q1 c0 c1
   rw[← y]at r
   have r2:=Ow.rd_s (s:=sh) hm q0 q1 g
   refine .inr (.inl ⟨q,q0,q1,e,r2.1,r.1,.s k r2.2.1 r2.2.2 (fun i i0 i1=>?_) r.2.1 r.2.2⟩)
   rw[al i i0 i1]
   exact Ow.rd_sl (k:=2) (a:=c) (by decide) (by decide) c0 (by omega)
  |slH q i q0 q1 i0 i1 e o o0 o1 own g=>
   have r:=Ow.rd_h (s:=sh) hm q0 q1 o0 o1
   rw[← g]at r
   exact .inr (.inr (.inl ⟨q,i,q0,q1,i0,i1,e,.h r.2.1 (by rw[r.2.2];exact⟨o0,o1,c0,c1,own⟩)⟩))
  |slW q i q0 q1 i0 i1 e k hk o o0 o1 own g y=>
   have r:=Ow.rd_s (s:=sh) hm q0 q1 hk
   have kb:=hk.bd
   have r2:=Ow.rd_sl (k:=2) (a:=o) (by decide) (by decide) o0 (by omega)
   rw[← g]at r2
   refine .inr (.inr (.inl ⟨q,i,q0,q1,i0,i1,e,.w k r.2.1 r.2.2 r2.1 (by rw[r2.2];exact⟨o0,o1,c0,c1,own⟩) ?_ ?_⟩))
   ·rcases y with y | y
    ·left;rw[y];exact(Ow.rd_sl (k:=1) (a:=k) (by decide) (by decide) kb.1 (by omega)).1
    ·right;rw[y];exact(Ow.rd_sl (k:=3) (a:=k) (by decide) (by decide) kb.1 (by omega)).1
   ·rcases y with y | y
    ·rw[y];exact(Ow.rd_sl (k:=1) (a:=k) (by decide) (by decide) kb.1 (by omega)).2
    ·rw[y];exact(Ow.rd_sl (k:=3) (a:=k) (by decide) (by decide) kb.1 (by omega)).2
  |slC q i q0 q1 i0 i1 e k hk kd g y=>
   have r:=Ow.rd_s (s:=sh) hm q0 q1 hk
   have kb:=hk.bd
   have r2:=Ow.rd_sl (k:=2) (a:=c) (by decide) (by decide) c0 (by omega)
   rw[← y]at r2
   refine .inr (.inr (.inl ⟨q,i,q0,q1,i0,i1,e,.c k r.2.1 r.2.2 kd ?_ ?_ r2.1 r2.2⟩))
   ·rcases g with g | g
    ·left;rw[g];exact(Ow.rd_sl (k:=1) (a:=k) (by decide) (by decide) kb.1 (by omega)).1
    ·right;rw[g];exact(Ow.rd_sl (k:=3) (a:=k) (by decide) (by decide) kb.1 (by omega)).1
   ·rcases g with g | g
    ·rw[g];exact(Ow.rd_sl (k:=1) (a:=k) (by decide) (by decide) kb.1 (by omega)).2
    ·rw[g];exact(Ow.rd_sl (k:=3) (a:=k) (by decide) (by decide) kb.1 (by omega)).2
  | mg o j o0 o1 j0 j1 e own=>exact .inr (.inr (.inr ⟨o,j,o0,o1,j0,j1,e,o0,o1,c0,c1,own⟩))
 clear mb
 rcases D with⟨d0,d1,g⟩|⟨q,q0',q1',e,o1,o2,my⟩|⟨q,i,q0',q1',i0,i1,e,my⟩|⟨o,j,o0,o1,j0,j1,e,mn⟩
 ·have a1:at'<(n:Int):=by omega
  obtain⟨pA,pB⟩:=place d0 a1
  obtain⟨xb,xo,ea,hrd⟩:=row d0 a1
  have hrd:=hrd _ hS
  subst ea
  have wsub:w64 (at' - sh.c)=at' - sh.c:=w64_eq (by omega) (by omega)
  have dn:decide (at' - sh.c<0)=true:=decide_eq_true (by omega)
  have urs:=u_readst Uw
  rcases g with g |⟨b,b0,b1,g⟩
  ·have s2:(stK was == 2)=true:=by rw[g];decide
   simp only[r1,ry,q0,q1,q2,pA,pB,d0,a1,hrd,qw,u_page,hp0,wsub,dn,urs,s2,wrap_w64,↓DD,UU,↓reduceIte,xA,xC,xE,xF,eq_self]
   exact fin _ hS
  ·have h1:Go.Ma.pt (3+16*b) 16=b:=by unfold Go.Ma.pt;omega
   have h2:(3+16*b) % 16=3:=by omega
   have h3:putSt 3 b=3+16*b:=by unfold putSt;rw[if_pos (by omega)]
   have h4:stK was=3:=by rw[g];unfold stK;rw[h1,h2,h3,if_pos rfl]
   have s2:(stK was == 2)=false:=by rw[h4];rfl
   have s3:(stK was == 3)=true:=by rw[h4];rfl
   simp only[r1,ry,q0,q1,q2,pA,pB,d0,a1,hrd,qw,u_page,hp0,wsub,dn,urs,s2,s3,wrap_w64,↓DD,UU,↓reduceIte,xA,xC,xE,xF,eq_self]
   exact fin _ hS
 ·have e':at'=sh.c+q:=by rw[e,page_yes hm q0' q1']
  have a0:0≤at':=by omega
  have a1:at'<(n:Int):=by omega
  obtain⟨pA,pB⟩:=place a0 a1
  obtain⟨xb,xo,ea,hrd⟩:=row a0 a1
  have hrd:=hrd _ hS
  have wsub:w64 (at' - sh.c)=q:=by rw[e',show sh.c+q - sh.c=q by omega];exact w64_eq (by omega) (by omega)
  have dn:decide (q<0)=false:=decide_eq_false (by omega)
  have dp:decide (q<sh.p)=true:=decide_eq_true q1'
  subst ea
  simp only[r1,r0,ry,ryn,q0,q1,q2,pA,pB,a0,a1,hrd,qw,u_page,hp0,wsub,dn,dp,wrap_w64,↓DD,UU,↓reduceIte,xA,xC,xE,xF,eq_self]
  have hS:Sep (h :: msL sh x y c kd at' was pt true l) _:=hS.sel 3 [2,0,1] (by decide) (by decide)
  refine callT_of (c_maypage (c:=c) (kd:=kd) (at':=at') (was:=was) (pt:=pt) (ok:=true) hm hn hr (fun i _=>hU i) Uw Up q0' q1' o1 o2 my hS) ?_
  rintro v H' ⟨rfl,hS⟩
  simp only[↓DD,UU,xA,eq_self]
  exact hS.p1.tail.p1.tail
 ·have e':at'=sh.c+sh.p+q*16+i:=by rw[e,slot_yes hm q0' q1' i0 i1]
  have a0:0≤at':=by omega
  have a1:at'<(n:Int):=by omega
  obtain⟨pA,pB⟩:=place a0 a1
  obtain⟨xb,xo,ea,hrd⟩:=row a0 a1
  have hrd:=hrd _ hS
  have wsub:w64 (at' - sh.c)=at' - sh.c:=w64_eq (by omega) (by omega)
  have dn:decide (at' - sh.c<0)=false:=decide_eq_false (by omega)
  have dp:decide (at' - sh.c<sh.p)=false:=decide_eq_false (by omega)
  have w16:w64 (sh.p*16)=sh.p*16:=w64_eq (by omega) (by omega)
  have ws16:w64 (sh.c+sh.p+sh.p*16)=sh.c+sh.p+sh.p*16:=w64_eq (by omega) (by omega)
  have ds:decide (at'<sh.c+sh.p+sh.p*16)=true:=decide_eq_true (by omega)
  subst ea
  simp only[r1,r0,ry,ryn,q0,q1,q2,pA,pB,a0,a1,hrd,qw,u_page,u_slot,hp0,hs0,wsub,dn,dp,w16,ws16,ds,wrap_w64,↓DD,UU,↓reduceIte,xA,xC,xE,xF,eq_self]
  have hS:Sep (h :: msL sh x y c kd at' was pt true l) _:=hS.sel 3 [2,0,1] (by decide) (by decide)
  refine callT_of (c_mayslot (c:=c) (kd:=kd) (at':=at') (was:=was) (pt:=pt) (ok:=true) hm hn hr (fun i _=>hU i) Uw Up q0' q1' i0 i1 e my hS) ?_
  rintro v H' ⟨rfl,hS⟩
  simp only[↓DD,UU,xA,eq_self]
  exact hS.p1.tail.p1.tail
 ·have e':at'=sh.c+sh.p+sh.p*16+o*sh.m+j:=by rw[e,mag_yes hm o0 o1 j0 j1]
  have om:=Int.mul_nonneg o0 (by omega:0≤sh.m)
  have om2:=Int.mul_le_mul_of_nonneg_right (by omega:o+1≤sh.c) (by omega:0≤sh.m)
  rw[Int.add_mul]at om2
  have a0:0≤at':=by omega
  have a1:at'<(n:Int):=by omega
  obtain⟨pA,pB⟩:=place a0 a1
  obtain⟨xb,xo,ea,hrd⟩:=row a0 a1
  have hrd:=hrd _ hS
  have wsub:w64 (at' - sh.c)=at' - sh.c:=w64_eq (by omega) (by omega)
  have dn:decide (at' - sh.c<0)=false:=decide_eq_false (by omega)
  have dp:decide (at' - sh.c<sh.p)=false:=decide_eq_false (by omega)
  have w16:w64 (sh.p*16)=sh.p*16:=w64_eq (by omega) (by omega)
  have ws16:w64 (sh.c+sh.p+sh.p*16)=sh.c+sh.p+sh.p*16:=w64_eq (by omega) (by omega)
  have ds:decide (at'<sh.c+sh.p+sh.p*16)=false:=decide_eq_false (by omega)
  have wt:w64 (at' - (sh.c+sh.p))=at' - (sh.c+sh.p):=w64_eq (by omega) (by omega)
  have wu:w64 (at' - (sh.c+sh.p) - sh.p*16)=o*sh.m+j:=by rw[show at' - (sh.c+sh.p) - sh.p*16=o*sh.m+j by omega];exact w64_eq (by omega) (by omega)
  have mx:(if(1:Int) > sh.m then(1:Int) else sh.m)=sh.m:=if_neg (by omega)
  have m0:(sh.m=0)=False:=eq_false (by omega)
  have td:(o*sh.m+j).tdiv sh.m=o:=by
   rw[Int.tdiv_eq_ediv_of_nonneg (by omega),Int.add_comm,Int.add_mul_ediv_right _ _ (by omega),Int.ediv_eq_zero_of_lt j0 j1];omega
  have wo:w64 o=o:=w64_eq (by omega) (by omega)
  subst ea
  simp only[r1,r0,ry,q0,q1,q2,pA,pB,a0,a1,hrd,qw,u_page,u_slot,hp0,hs0,wsub,dn,dp,w16,ws16,ds,wt,wu,mx,m0,td,wo,wrap_w64,↓DD,UU,↓reduceIte,xA,xC,xE,xF,ne_eq,eq_self]
  have hS:Sep (h :: msL sh x y c kd at' was pt true l) _:=hS.sel 3 [2,0,1] (by decide) (by decide)
  refine callT_of (c_mine hm hn hr (fun i _=>hU i) mn hS) ?_
  rintro v H' ⟨rfl,hS⟩
  simp only[↓DD,UU,xA,eq_self]
  exact hS.p1.tail.p1.tail
end
end Go.Proofs.YtkjpgikjcfhckaaGreat
set_option maxRecDepth 8000
namespace Go.Proofs.YtkjpgikjcfhckaaGreat
open Go Go.Ev Go.Pl Go.Ma
section
variable {W:World} {H g:Hp} {l P:List Hp} {k cap n b:Nat} {a:Option Addr} {sh:Sh} {X:Wo} {pv:Nat→Value} {c:Int} {o:Go.Ma.Op}
theorem acs_ext {i:Nat} {c:Array Value} {e:Acs} (hc:∀ j,j<6→c[i*6+j]? = (acV e)[j]?):i*6+6≤c.size∧c.extract (i*6) (i*6+6)=aV e.c e.k e.at' e.was e.pt e.ok:=by
 have h5:=hc 5 (by omega)
 have hsz:i*6+6≤c.size:=by
  have:c[i*6+5]? = some (.bool e.ok):=h5
  have:=(Array.getElem?_eq_some_iff.1 this).1;omega
 refine⟨hsz,?_⟩
 apply Array.ext
 ·simp [aV];omega
 ·intro j j1 j2
  have hj:j<6:=by simpa [aV] using j2
  have hg:=hc j hj
  simp only[Array.getElem_extract]
  rcases (by omega:j=0∨j=1∨j=2∨j=3∨j=4∨j=5) with rfl | rfl | rfl | rfl | rfl | rfl
  all_goals exact(Array.getElem?_eq_some_iff.1 hg).2
theorem acs_rdn {H:Hp} {z i:Nat} {c:Array Value} {T:TypeId} {f:Nat×Nat} {e:Acs} (hz:H z=some (.cells c T f)) (hc:∀ j,j<6→c[i*6+j]? = (acV e)[j]?):rdn H z (i*6) 6=some (aV e.c e.k e.at' e.was e.pt e.ok):=by
 obtain⟨h1,h2⟩:=acs_ext hc
 rw[rdn_of hz,if_pos h1,h2]
def tdI (sh:Sh) (a:Option Addr) (n cap k x:Nat) (L:List Hp) (F':Fr) (H':Hp):Prop:=
 ∃ (i:Nat) (X:Wo) (pv:Nat→Value) (P:List Hp),i≤n∧(gt F' 7=.int .i64 (i:Int)∧gt F' 1=.slice a n cap∧gt F' 2=.pointer (some ⟨x,0,none⟩)∧gt F' 5=.pointer (some ⟨k,0,none⟩)) ∧
  (Ti X∧X.s=sh∧X.tr.length≤3*i∧X.sp.length≤i)∧WoP k pv X P∧Sep (P ++ (sg x (.cells #[.int .i64 sh.p,.int .i64 sh.c,.int .i64 sh.m] 23 (0,0)) :: L)) H'
set_option maxHeartbeats 2000000 in
theorem c_topbound {ch:Nat→Chr} (hn:n≤9223372036854775807) (hr:RowC g a n ch) (hS:Sep (g :: l) H) :
  CallP Tryz.prog W 4 #[.agg #[.int .i64 sh.p,.int .i64 sh.c,.int .i64 sh.m],.slice a n cap] H fun v H'=>v=.bool true∧Sep (g :: l) H':=by
 refine CallP.of mixed Tryz.func4 tr4 (by show 2≤_;decide) fun W _=>?_
 simp only[↓DD,UU,xA]
 refine newB_intro fun x hx f1 f2=>?_
 have hS:=(hS.new f1 (.cells #[.int .i64 sh.p,.int .i64 sh.c,.int .i64 sh.m] 23 (0,0)))
 simp only[↓DD,UU,xA]
 refine callT_of (c_awakeT hS) ?_
 rintro v H' ⟨rfl,hS⟩
 simp only[↓DD,UU,xA,xE,eq_self]
 refine callT_of (c_few 2000 hS) ?_
 rintro v H' ⟨rfl,hS⟩
 by_cases hle:n≤2000
 rotate_left
 ·have g1:decide ((n:Int)≤2000)=false:=decide_eq_false (by omega)
  simp only[g1,↓DD,UU,xA,eq_self]
  exact hS.tail
 have g1:decide ((n:Int)≤2000)=true:=decide_eq_true (by omega)
 have hx1:=hS.look
 have r1:=fun o n=>rdn_of hx1 o n
 simp only[g1,r1,↓DD,UU,↓reduceIte,xA,xC,xE,xF,eq_self]
 cases hm:may sh.p sh.c sh.m
 ·refine callT_of (c_begin_no hm hS) ?_
  rintro v H' ⟨rfl,hS⟩
  simp only[↓DD,UU,↓reduceIte,xA,xE,eq_self]
  exact hS.tail
 have hb:=(may_iff _ _ _).1 hm
 obtain⟨N,hN⟩:∃ N:Nat,(N:Int)=words sh.p sh.c sh.m:=⟨(words sh.p sh.c sh.m).toNat,by have:=words_le hm;omega⟩
 refine callT_of (c_begin hm hN hS) ?_
 rintro v H' ⟨k,j0,pv,P,rfl,hP,hS⟩
 simp only[↓DD,UU,↓reduceIte,xA,xE,eq_self]
 have hw:(Wo.new sh (Wd.zero N)).wf:=Wo.new_wf hm hN
 have hti:Ti (Wo.new sh (Wd.zero N)):=Ti.new hm hw.w fun _=>rfl
 refine loop_intro (tdI sh a n cap k x (g :: l)) (fun F' _=>((n:Int) - iv (gt F' 7)).toNat) ⟨0,_,pv,P,by omega,⟨rfl,rfl,rfl,rfl⟩,⟨hti,rfl,by show 0≤_;omega,by show 0≤_;omega⟩,hP,hS⟩ ?_
 clear hS hx1 r1 hP hti
 rintro F' H' ⟨i,X,pv,P,hi,⟨e7,e1,e2,e5⟩,⟨hT,hXs,tu,su⟩,hP,hS⟩
 by_cases hlt:i<n
 rotate_left
 ·have d1:decide ((i:Int)<(n:Int))=false:=decide_eq_false (by omega)
  simp only[e7,e1,d1,↓DD,UU,xE,eq_self]
  exact hS.dropF.tail
 have d1:decide ((i:Int)<(n:Int))=true:=decide_eq_true (by omega)
 have i0:(0:Int)≤(i:Int):=by omega
 have l1:(i:Int)<(n:Int):=by omega
 have wi:w64 ((i:Int)+1)=(i:Int)+1:=w64_eq (by omega) (by omega)
 simp only[e7,e1,e5,d1,↓DD,UU,xE,eq_self]
 refine callT_of (c_wordsW hT.wf hP hS) ?_
 rintro v H' ⟨a2,cap2,g2,rfl,hr2,hS⟩
 simp only[e5,↓DD,UU,xE,eq_self]
 refine callT_of (c_stepsW (by omega) hP (Sep.inL (L:=P) hS)) ?_
 rintro v H' ⟨a3,cap3,g3,rfl,-,hS⟩
 have hS:=hS.tail
 obtain⟨b1,o1,ea1,hrd1⟩:=hr.at' hlt
 have hsub:=hS.dropF.sb g (by simp)
 have hrd:=rdn_sub hrd1 hsub
 have e1':gt F' 1=.slice (some ⟨b1,o1,none⟩) n cap:=by rw[e1,ea1]
 simp only[e7,e1',e5,i0,l1,hrd,Int.toNat_natCast,↓DD,UU,xE,eq_self]
 refine callT_of (c_choice _ hS) ?_
 rintro v H' ⟨rfl,hS⟩
 simp only[↓DD,UU,xE,eq_self]
 refine callT_of (c_wdo (x:=chq sh (ch i)) (bias:=(ch i).b) hT.wf hP (by rw[hXs];rfl) (by omega) (by omega) hS) ?_
 rintro v H' ⟨rfl,pv,P,hP,-,hS⟩
 have hfit:X.fit (chq sh (ch i)):=by rw[← hXs];exact chq_fit hT.wf (ch i)
 have hln:=Wo.act_len (W:=X) (x:=chq sh (ch i))
 have hs2:=(Wo.act_s (W:=X) (x:=chq sh (ch i))).trans hXs
 have hT2:=hT.act hfit
 have hac:=hT.acc (x:=chq sh (ch i))
 rw[hXs]at hac
 have nX:(X.w.n:Int)=words sh.p sh.c sh.m:=by have:=hT.wf.w.n;rw[hXs]at this;exact this
 have hbs:Ow.Bs sh X.w.ws:=by have:=hT.bs;rw[hXs]at this;exact this
 generalize hA:X.act (chq sh (ch i))=A at *
 obtain⟨X2,er⟩:=A
 dsimp only at *
 simp only[e5,↓DD,UU,xE,eq_self]
 refine callT_of (c_stepsW (by omega) hP hS) ?_
 rintro v H' ⟨a4,cap4,g4,rfl,hE4,hS⟩
 simp only[↓DD,UU]
 rcases hac with hsp |⟨w',hsp,one,mb,hcl,c0,c1,hU'⟩
 ·have hlen:X2.sp.length=X.sp.length:=by rw[hsp]
  have d2:decide (((X.sp.length:Nat):Int)<((X2.sp.length:Nat):Int))=false:=decide_eq_false (by omega)
  refine draw_intro [] (by simp only[↓DD]) ?_
  simp only[e7,d2,wi,wrap_w64,↓DD,UU,xE,eq_self]
  refine⟨⟨i+1,X2,pv,P,by omega,⟨by simp [gt],by simp [gt,e1],by simp [gt,e2],by simp [gt,e5]⟩,⟨hT2,hs2,by omega,by omega⟩,hP,hS.tail.outL.tail⟩,?_⟩
  try rw[e7]
  show(_ - ((i:Int)+1)).toNat<(_ - (i:Int)).toNat
  omega
 have hlen:X2.sp.length=X.sp.length+1:=by rw[hsp];simp
 have d2:decide (((X.sp.length:Nat):Int)<((X2.sp.length:Nat):Int))=true:=decide_eq_true (by omega)
 have hl4:X2.sp[X.sp.length]? = some w'.last:=by rw[hsp];simp
 obtain⟨z,cz,Tz,qz,rfl,rfl,hcz⟩:=AcR.cells hE4 hl4
 have hz1:=hS.look
 have rz:=acs_rdn hz1 hcz
 have hx1:=hS.tail.dropF.tail.look
 have rx:=fun o n=>rdn_of hx1 o n
 have nzx:(z=x)=False:=(Sep.dropF (m:=P) (Sep.over (X:=[sg z (.cells cz Tz qz)]) (L:=P) hS)).neq 0 2 (by decide) rfl rfl
 have nxz:(x=z)=False:=eq_false fun e=>(of_eq_false nzx) e.symm
 have z0:(0:Int)≤((X.sp.length:Nat):Int):=by omega
 have z1:((X.sp.length:Nat):Int)<((X2.sp.length:Nat):Int):=by omega
 refine draw_intro [(x,#[.int .i64 sh.p,.int .i64 sh.c,.int .i64 sh.m],[]),(z,cz,[])] (by simp only[hx1,hz1,↓DD,UU]) ?_
 simp only[e2,rx,rz,z0,z1,nzx,Int.toNat_natCast,↓DD,UU,↓reduceIte,xA,xC,xE,xF,eq_self]
 have hS:Sep (g2 :: (P ++ (sg z (.cells cz Tz qz) :: sg x (.cells #[.int .i64 sh.p,.int .i64 sh.c,.int .i64 sh.m] 23 (0,0)) :: g :: l))) H':=Sep.outL (L:=P) (hS.perm (by
  refine(List.Perm.trans (l₂:=P ++ (sg z (.cells cz Tz qz) :: g2 :: sg x (.cells #[.int .i64 sh.p,.int .i64 sh.c,.int .i64 sh.m] 23 (0,0)) :: g :: l)) List.perm_middle.symm ?_)
  exact List.Perm.append_left P (List.Perm.swap ..)))
 refine⟨acs_ext hcz,?_⟩
 refine callT_of (c_may (w:=X.w) (w':=w') hm nX hr2 hT.wf.w.u hU' hcl one c0 c1 hbs mb hS) ?_
 rintro v H' ⟨rfl,hS⟩
 have hx1:=hS.tail.dropF.tail.look
 have hz1:=hS.tail.outL.look
 refine⟨by simp only[hx1,hz1,↓DD,UU],?_⟩
 simp only[e7,wi,wrap_w64,↓DD,UU,xE,eq_self]
 refine⟨⟨i+1,X2,pv,P,by omega,⟨by simp [gt],by simp [gt,e1],by simp [gt,e2],by simp [gt,e5]⟩,⟨hT2,hs2,by omega,by omega⟩,hP,hS.tail.outL.tail⟩,?_⟩
 try rw[e7]
 show(_ - ((i:Int)+1)).toNat<(_ - (i:Int)).toNat
 omega
theorem l_topbound {W:World} {ch:Nat→Chr} (p c m:Int) (_:-9223372036854775808≤p∧p≤9223372036854775807) (_:-9223372036854775808≤c∧c≤9223372036854775807) (_:-9223372036854775808≤m∧m≤9223372036854775807) (hn:n≤9223372036854775807) (hr:RowC (memOf W) a n ch) :
  CallP Tryz.prog W 4 #[.agg #[.int .i64 p,.int .i64 c,.int .i64 m],.slice a n cap] (memOf W) fun v H'=>v=.bool true∧Sub (memOf W) H':=
 (c_topbound (sh:=⟨p,c,m⟩) hn hr (Sep.one _)).mono fun v H' ⟨h1,h2⟩=>⟨h1,h2.head⟩
end
end Go.Proofs.YtkjpgikjcfhckaaGreat
