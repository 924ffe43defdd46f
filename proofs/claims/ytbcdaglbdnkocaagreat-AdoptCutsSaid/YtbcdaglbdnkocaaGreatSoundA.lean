/-
The document's readers of a heap's pages and slots. Conditions: none.
Whether a page is sound: the answer. Conditions: none.
A slice that grows by append, one cell at a time. Conditions: none.
Whether a heap is sound: it ends, with some answer; the heap is as it was. Conditions: none.
Whether a heap is sound: the answer. Conditions: none.
-/
import Derived.Test.YtbcdaglbdnkocaaGreatCodeX
import Derived.Test.YtbcdaglbdnkocaaGreatRefPack
import Derived.Test.YtbcdaglbdnkocaaGreatLawK
import Derived.Test.YtbcdaglbdnkocaaGreatCode
import Derived.Test.YtbcdaglbdnkocaaGreatMaBase
import Derived.Test.YtbcdaglbdnkocaaGreatRowA
import Derived.Test.YtbcdaglbdnkocaaGreatModel
open Nat renaming reduceAdd→xA,reduceMul→xB,reduceSub→xC,reduceEqDiff→xD,reduceBEq→xE,reduceLeDiff→xF,reduceLT→xG
open Int renaming reduceAdd→xH,reduceMul→xI,reduceSub→xJ,reduceLT→xK,reduceLE→xL,reduceToNat→xM,reduceEq→xN,reduceNe→xO,reduceBEq→xP,reduceBNe→xQ
set_option linter.unusedVariables false
set_option linter.unusedSimpArgs false
set_option maxRecDepth 8000
namespace Go.Proofs.YtbcdaglbdnkocaaGreat
open Go Go.Ev Go.Pl Go.Ma

theorem q_readsl {w:Int} (hw:U w):PureC Tryz.prog 103 #[.int .u64 w] (.agg #[.int .i64 (slK w),.int .i64 (slA w)]):=by
 refine PureC.of mixed Tryz.func103 (by kernel_rfl) tr103 (by show 1≤_;decide) fun W H=>?_
 have a0:bits .and .u64 w 15=w % 16:=and15 hw
 have a1:bits .and .u64 (w / 16) 255=pt w 16:=and255 (U_div hw 16 (by decide))
 have b0:w64 (w % 16)=w % 16:=w64_nib
 have b1:w64 (pt w 16)=pt w 16:=w64_byte
 simp only[↓DD,UU,↓reduceIte,xA,xB,xC,xD,xE,xF,xG,xH,xI,xJ,xK,xL,xM,xN,xO,xP,xQ,ne_eq,eq_self]
 refine newB_intro fun x hx f1 f2=>?_
 simp only[shr4,a0,a1,wrap_w64,b0,b1,↓DD,UU,↓reduceIte,xA,xB,xC,xD,xE,xF,xG,xH,xI,xJ,xK,xL,xM,xN,xO,xP,xQ,ne_eq,eq_self]
 refine newB_intro fun y hy f3 f4=>?_
 have nxy:(x=y)=False:=f3 x (by rw[upd_same];rfl)
 have nyx:(y=x)=False:=f4 x (by rw[upd_same];rfl)
 by_cases e1:putSl (w % 16) (pt w 16)=w
 ·have g1:(putSl (w % 16) (pt w 16) != w)=false:=by simp [e1]
  have hok:okSl w=true:=decide_eq_true e1
  simp only[u_putsl,g1,nxy,nyx,↓DD,UU,↓reduceIte,xA,xB,xC,xD,xE,xF,xG,xH,xI,xJ,xK,xL,xM,xN,xO,xP,xQ,ne_eq,eq_self]
  simp only[slK,slA,hok,if_true]
  exact⟨trivial,((((Sep.one H).new f1 _).new f3 _).p1.set _).tail.tail.head⟩
 ·have g1:(putSl (w % 16) (pt w 16) != w)=true:=by simp [e1]
  have hok:okSl w=false:=decide_eq_false e1
  simp only[u_putsl,g1,nxy,nyx,↓DD,UU,↓reduceIte,xA,xB,xC,xD,xE,xF,xG,xH,xI,xJ,xK,xL,xM,xN,xO,xP,xQ,ne_eq,eq_self]
  simp only[slK,slA,hok,Bool.false_eq_true,if_false]
  exact⟨trivial,((((Sep.one H).new f1 _).new f3 _).p1.set _).tail.tail.head⟩
theorem u_readsl {w:Int} (hw:U w):pv Tryz.prog 103 #[.int .u64 w] = some (.agg #[.int .i64 (slK w),.int .i64 (slA w)]):=pv_of (q_readsl hw)

section
variable {W:World} {H h:Hp} {l:List Hp} {n cap:Nat} {a:Option Addr} {ws:Nat→Int} {sh:Sh}
def spX (sh:Sh) (ws:Nat→Int) (q:Int):Int:=ws (page sh.p sh.c sh.m q).toNat
theorem cells_of {H:Hp} {b o:Nat} {v:Value} (h:rd H b o=some v):∃ c T f,H b=some (.cells c T f)∧c[o]? = some v:=by
 unfold rd at h
 split at h
 ·rename_i c T f e;exact⟨c,T,f,e,h⟩
 ·cases h
theorem c_spage (q:Int) (hm:may sh.p sh.c sh.m=true) (hn:(n:Int)=words sh.p sh.c sh.m) (hr:RowU h a n ws) (hU:∀ i,i<n→U (ws i)) (hS:Sep (h :: l) H) :
  CallP Tryz.prog W 26 #[.agg #[.int .i64 sh.p,.int .i64 sh.c,.int .i64 sh.m],.slice a n cap,.int .i64 q] H fun v H'=>v=.tuple #[.agg #[.int .i64 (pgK sh q (spX sh ws q)),.int .i64 (pgA sh q (spX sh ws q)),.int .i64 (pgB sh q (spX sh ws q))],.bool (okPg sh q (spX sh ws q))]∧Sep (h :: l) H':=by
 refine CallP.of mixed Tryz.func26 tr26 (by show 3≤_;decide) fun W _=>?_
 simp only[↓DD,UU,↓reduceIte,xA,xB,xC,xD,xE,xF,xG,xH,xI,xJ,xK,xL,xM,xN,xO,xP,xQ,ne_eq,eq_self]
 refine newB_intro fun x hx f1 f2=>?_
 simp only[↓DD,UU,↓reduceIte,xA,xB,xC,xD,xE,xF,xG,xH,xI,xJ,xK,xL,xM,xN,xO,xP,xQ,ne_eq,eq_self]
 refine newB_intro fun y hy f3 f4=>?_
 have hS0:=hS
 have hS:=(hS.new f1 (.cells #[.int .i64 sh.p,.int .i64 sh.c,.int .i64 sh.m] 23 (0,0))).new f3 (.cells #[.int .i64 0,.int .i64 0,.int .i64 0] 66 (0,0))
 have hx1:=hS.lk 1 rfl
 have hy1:=hS.look
 have r1:=fun o n=>rdn_of hx1 o n
 have nyx:=hS.neq 0 1 (by decide) rfl rfl
 have nxy:=hS.qen 0 1 (by decide) rfl rfl
 by_cases hq:0≤q∧q<sh.p
 ·have hpg:page sh.p sh.c sh.m q=sh.c+q:=page_yes hm hq.1 hq.2
  have hb:=(may_iff _ _ _).1 hm
  have hml:=mul_bd sh.c sh.m (by omega) hb.2.2.2.1 hb.2.2.2.2.1 hb.2.2.2.2.2
  have hnv:sh.c+sh.p≤(n:Int):=by rw[hn];unfold words;rw[if_pos hm];omega
  have g0:decide (sh.c+q<0)=false:=decide_eq_false (by omega)
  have p0:(0:Int)≤sh.c+q:=by omega
  have p1:sh.c+q<(n:Int):=by omega
  obtain⟨xb,xo,rfl,hrd0⟩:=(hr.sub (hS0.sb h (by simp))).at' (i:=(sh.c+q).toNat) (by omega)
  have hu:U (ws (sh.c+q).toNat):=hU _ (by omega)
  obtain⟨c,T,f,hc0,hco⟩:=cells_of hrd0
  have m1:(xb=x)=False:=f1 xb (by rw[hc0];rfl)
  have m2:(xb=y)=False:=f3 xb (by rw[is_upd,hc0];simp)
  have hc:upd (upd H x (.cells #[.int .i64 sh.p,.int .i64 sh.c,.int .i64 sh.m] 23 (0,0))) y (.cells #[.int .i64 0,.int .i64 0,.int .i64 0] 66 (0,0)) xb=some (.cells c T f):=by
   rw[upd_at,if_neg (fun e=>by rw[e]at m2;simp at m2),upd_at,if_neg (fun e=>by rw[e]at m1;simp at m1)];exact hc0
  have hspx:spX sh ws q=ws (sh.c+q).toNat:=by unfold spX;rw[hpg]
  simp only[hx1,hy1,r1,u_page,hpg,g0,↓DD,UU,↓reduceIte,xA,xB,xC,xD,xE,xF,xG,xH,xI,xJ,xK,xL,xM,xN,xO,xP,xQ,ne_eq,eq_self]
  refine draw_intro [(x,#[.int .i64 sh.p,.int .i64 sh.c,.int .i64 sh.m],[]),(xb,c,[])] (by simp only[hx1,hc,↓DD,UU,↓reduceIte,xA,xB,xC,xD,xE,xF,xG,xH,xI,xJ,xK,xL,xM,xN,xO,xP,xQ,ne_eq,eq_self]) ?_
  have r2:=fun o=>rd_of hc o
  simp only[hx1,hy1,r1,p0,p1,hc,r2,hco,m1,m2,u_readpg sh q hu,hspx,nyx,nxy,↓DD,UU,↓reduceIte,xA,xB,xC,xD,xE,xF,xG,xH,xI,xJ,xK,xL,xM,xN,xO,xP,xQ,ne_eq,eq_self]
  have h3:=(hS.set (.cells #[.int .i64 (pgK sh q (ws (sh.c+q).toNat)),.int .i64 (pgA sh q (ws (sh.c+q).toNat)),.int .i64 (pgB sh q (ws (sh.c+q).toNat))] 66 (0,0))).tail.tail
  rw[Ev.upd_upd]at h3
  exact h3
 ·have hpl:page sh.p sh.c sh.m q<0:=(page_lt0 _ _ _ _).2 fun h=>hq h.2
  have g0:decide (page sh.p sh.c sh.m q<0)=true:=decide_eq_true hpl
  have hok:okPg sh q (spX sh ws q)=false:=by unfold okPg;rw[decide_eq_false (by omega:¬ 0≤page sh.p sh.c sh.m q)];simp
  have k1:pgK sh q (spX sh ws q)=0:=by unfold pgK;rw[hok];rfl
  have k2:pgA sh q (spX sh ws q)=0:=by unfold pgA;rw[hok];rfl
  have k3:pgB sh q (spX sh ws q)=0:=by unfold pgB;rw[hok];rfl
  simp only[hx1,hy1,r1,u_page,g0,hok,k1,k2,k3,nyx,nxy,↓DD,UU,↓reduceIte,xA,xB,xC,xD,xE,xF,xG,xH,xI,xJ,xK,xL,xM,xN,xO,xP,xQ,ne_eq,eq_self]
  exact hS.tail.tail
theorem words_ge (hm:may sh.p sh.c sh.m=true) (hn:(n:Int)=words sh.p sh.c sh.m):sh.c+sh.p*17+sh.c*sh.m=(n:Int)∧0≤sh.c*sh.m∧sh.c*sh.m≤96:=by
 have hb:=(may_iff _ _ _).1 hm
 have hml:=mul_bd sh.c sh.m (by omega) hb.2.2.2.1 hb.2.2.2.2.1 hb.2.2.2.2.2
 rw[hn];unfold words;rw[if_pos hm];omega
theorem c_sslot (q i:Int) (hm:may sh.p sh.c sh.m=true) (hn:(n:Int)=words sh.p sh.c sh.m) (hr:RowU h a n ws) (hU:∀ i,i<n→U (ws i)) (hq:0≤q∧q<sh.p) (hi:0≤i∧i<16) (hS:Sep (h :: l) H) :
  CallP Tryz.prog W 60 #[.agg #[.int .i64 sh.p,.int .i64 sh.c,.int .i64 sh.m],.slice a n cap,.int .i64 q,.int .i64 i] H fun v H'=>v=.agg #[.int .i64 (slK (ws (sh.c+sh.p+q*16+i).toNat)),.int .i64 (slA (ws (sh.c+sh.p+q*16+i).toNat))]∧Sep (h :: l) H':=by
 refine CallP.of mixed Tryz.func60 tr60 (by show 4≤_;decide) fun W _=>?_
 simp only[↓DD,UU,↓reduceIte,xA,xB,xC,xD,xE,xF,xG,xH,xI,xJ,xK,xL,xM,xN,xO,xP,xQ,ne_eq,eq_self]
 refine newB_intro fun x hx f1 f2=>?_
 simp only[↓DD,UU,↓reduceIte,xA,xB,xC,xD,xE,xF,xG,xH,xI,xJ,xK,xL,xM,xN,xO,xP,xQ,ne_eq,eq_self]
 refine newB_intro fun y hy f3 f4=>?_
 have hS:=(hS.new f1 (.cells #[.int .i64 sh.p,.int .i64 sh.c,.int .i64 sh.m] 23 (0,0))).new f3 (.cells #[.int .i64 0,.int .i64 0] 78 (0,0))
 have hx1:=hS.lk 1 rfl
 have hy1:=hS.look
 have r1:=fun o n=>rdn_of hx1 o n
 have nyx:=hS.neq 0 1 (by decide) rfl rfl
 have nxy:=hS.qen 0 1 (by decide) rfl rfl
 have hw:=words_ge hm hn
 have hb:=(may_iff _ _ _).1 hm
 have hsl:slot sh.p sh.c sh.m q i=sh.c+sh.p+q*16+i:=slot_yes hm hq.1 hq.2 hi.1 hi.2
 have p0:(0:Int)≤sh.c+sh.p+q*16+i:=by omega
 have p1:sh.c+sh.p+q*16+i<(n:Int):=by omega
 obtain⟨xb,xo,rfl,hrd⟩:=(hr.sub (hS.sb h (by simp))).at' (i:=(sh.c+sh.p+q*16+i).toNat) (by omega)
 have hu:U (ws (sh.c+sh.p+q*16+i).toNat):=hU _ (by omega)
 simp only[hx1,hy1,r1,u_slot,hsl,p0,p1,hrd,u_readsl hu,nyx,nxy,↓DD,UU,↓reduceIte,xA,xB,xC,xD,xE,xF,xG,xH,xI,xJ,xK,xL,xM,xN,xO,xP,xQ,ne_eq,eq_self]
 have h3:=(hS.set (.cells #[.int .i64 (slK (ws (sh.c+sh.p+q*16+i).toNat)),.int .i64 (slA (ws (sh.c+sh.p+q*16+i).toNat))] 78 (0,0))).tail.tail
 rw[Ev.upd_upd]at h3
 exact h3
theorem c_senough (hm:may sh.p sh.c sh.m=true) (hn:(n:Int)=words sh.p sh.c sh.m) (hS:Sep (h :: l) H) :
  CallP Tryz.prog W 25 #[.agg #[.int .i64 sh.p,.int .i64 sh.c,.int .i64 sh.m],.slice a n cap] H fun v H'=>v=.bool true∧Sep (h :: l) H':=by
 refine CallP.of mixed Tryz.func25 tr25 (by show 2≤_;decide) fun W _=>?_
 simp only[↓DD,UU,↓reduceIte,xA,xB,xC,xD,xE,xF,xG,xH,xI,xJ,xK,xL,xM,xN,xO,xP,xQ,ne_eq,eq_self]
 refine newB_intro fun x hx f1 f2=>?_
 have hS:=(hS.new f1 (.cells #[.int .i64 sh.p,.int .i64 sh.c,.int .i64 sh.m] 23 (0,0)))
 have hx1:=hS.look
 have r1:=fun o n=>rdn_of hx1 o n
 have d1:decide (words sh.p sh.c sh.m≤(n:Int))=true:=decide_eq_true (by omega)
 simp only[hx1,r1,u_may,hm,u_words,d1,↓DD,UU,↓reduceIte,xA,xB,xC,xD,xE,xF,xG,xH,xI,xJ,xK,xL,xM,xN,xO,xP,xQ,ne_eq,eq_self]
 exact hS.tail

theorem sp_cases (k A x c:Int):((k == 1)=true∧(A == x)=true∧(A == x)=true∧(A == x)=true)∨((k == 1)=true∧(A == x)=false∧(k == 2)=false∧(k == 2)=false)∨((k == 1)=false∧(k == 3)=true∧(A == x)=true∧(A == x)=true)∨((k == 1)=false∧(k == 3)=true∧(A == x)=false∧(k == 2)=false) ∨
  ((k == 1)=false∧(k == 3)=false∧(k == 2)=true∧decide (A<c)=true)∨((k == 1)=false∧(k == 3)=false∧(k == 2)=true∧decide (A<c)=false)∨((k == 1)=false∧(k == 3)=false∧(k == 2)=false∧(k == 2)=false):=by
 by_cases k1:k=1
 ·subst k1
  cases h:(A == x)
  ·exact .inr (.inl ⟨rfl,rfl,rfl,rfl⟩)
  ·exact .inl ⟨rfl,rfl,rfl,rfl⟩
 ·have k1:(k == 1)=false:=beq_eq_false_iff_ne.2 k1
  by_cases k3:k=3
  ·subst k3
   cases h:(A == x)
   ·exact .inr (.inr (.inr (.inl ⟨rfl,rfl,rfl,rfl⟩)))
   ·exact .inr (.inr (.inl ⟨rfl,rfl,rfl,rfl⟩))
  ·have k3:(k == 3)=false:=beq_eq_false_iff_ne.2 k3
   cases h2:(k == 2)
   ·exact .inr (.inr (.inr (.inr (.inr (.inr ⟨k1,k3,rfl,rfl⟩)))))
   ·cases h:decide (A<c)
    ·exact .inr (.inr (.inr (.inr (.inr (.inl ⟨k1,k3,rfl,rfl⟩)))))
    ·exact .inr (.inr (.inr (.inr (.inl ⟨k1,k3,rfl,rfl⟩))))
theorem sq_cases (i s w:Int):(decide (i<s)=false∧decide (s≤i)=true∧(w != 0)=true)∨(decide (i<s)=false∧decide (s≤i)=true∧(w != 0)=false)∨(decide (i<s)=true∧decide (s≤i)=false∧decide (s≤i)=false):=by
 by_cases h:i<s
 ·exact .inr (.inr ⟨decide_eq_true h,decide_eq_false (by omega),decide_eq_false (by omega)⟩)
 ·cases h2:(w != 0)
  ·exact .inr (.inl ⟨decide_eq_false h,decide_eq_true (by omega),rfl⟩)
  ·exact .inl ⟨decide_eq_false h,decide_eq_true (by omega),rfl⟩
def spG (p:Int) (n cap:Nat) (a:Option Addr) (x y:Nat) (F':Fr):Prop:=gt F' 1=.slice a n cap∧gt F' 2=.int .i64 p∧gt F' 4=.pointer (some ⟨x,0,none⟩)∧gt F' 7=.pointer (some ⟨y,0,none⟩)
def spI (r:Nat) (p:Int) (n cap:Nat) (a:Option Addr) (x y:Nat) (L:List Hp) (F':Fr) (H':Hp):Prop:=
 ∃ i:Nat,i≤16∧gt F' r=.int .i64 (i:Int)∧spG p n cap a x y F'∧Sep L H'
def spL (A p:Int) (n cap:Nat) (a:Option Addr) (x y:Nat) (L:List Hp) (F':Fr) (H':Hp):Prop:=
 ∃ i:Int,1≤i∧(i=1∨i≤A)∧gt F' 16=.int .i64 i∧spG p n cap a x y F'∧Sep L H'
end
end Go.Proofs.YtbcdaglbdnkocaaGreat
set_option maxRecDepth 8000
namespace Go.Proofs.YtbcdaglbdnkocaaGreat
open Go Go.Ev Go.Pl Go.Ma

section
variable {W:World} {H h:Hp} {l:List Hp} {n cap:Nat} {a:Option Addr} {ws:Nat→Int} {sh:Sh}
def spJ (Q:Nat→Prop) (r:Nat) (p:Int) (n cap:Nat) (a:Option Addr) (x y:Nat) (L:List Hp) (F':Fr) (H':Hp):Prop:=
 ∃ i:Nat,i≤16∧gt F' r=.int .i64 (i:Int)∧spG p n cap a x y F'∧Sep L H'∧Q i
def spM (Q:Int→Prop) (A p:Int) (n cap:Nat) (a:Option Addr) (x y:Nat) (L:List Hp) (F':Fr) (H':Hp):Prop:=
 ∃ i:Int,1≤i∧(i=1∨i≤A)∧gt F' 16=.int .i64 i∧spG p n cap a x y F'∧Sep L H'∧Q i
set_option maxHeartbeats 4000000 in
theorem c_soundpageV (p:Int) (K A B:Int) (hA0:0≤A) (hA:A≤255) (hm:may sh.p sh.c sh.m=true) (hn:(n:Int)=words sh.p sh.c sh.m) (hr:RowU h a n ws) (hU:∀ i,i<n→U (ws i)) (hp:0≤p∧p<sh.p) (hS:Sep (h :: l) H) :
  CallP Tryz.prog W 27 #[.agg #[.int .i64 sh.p,.int .i64 sh.c,.int .i64 sh.m],.slice a n cap,.int .i64 p,.agg #[.int .i64 K,.int .i64 A,.int .i64 B]] H fun v H'=>∃ b,v=.bool b∧(b=true↔SpB sh ws p K A)∧Sep (h :: l) H':=by
 refine CallP.of mixed Tryz.func27 tr27 (by show 4≤_;decide) fun W _=>?_
 simp only[↓DD,UU,↓reduceIte,xA,xB,xC,xD,xE,xF,xG,xH,xI,xJ,xK,xL,xM,xN,xO,xP,xQ,ne_eq,eq_self]
 refine newB_intro fun x hx f1 f2=>?_
 simp only[↓DD,UU,↓reduceIte,xA,xB,xC,xD,xE,xF,xG,xH,xI,xJ,xK,xL,xM,xN,xO,xP,xQ,ne_eq,eq_self]
 refine newB_intro fun y hy f3 f4=>?_
 have hS:=(hS.new f1 (.cells #[.int .i64 sh.p,.int .i64 sh.c,.int .i64 sh.m] 23 (0,0))).new f3 (.cells #[.int .i64 K,.int .i64 A,.int .i64 B] 66 (0,0))
 have hx1:=hS.lk 1 rfl
 have hy1:=hS.look
 have r1:=fun o n=>rdn_of hx1 o n
 have r0:=fun o=>rd_of hx1 o
 have r2:=fun o=>rd_of hy1 o
 have nyx:=hS.neq 0 1 (by decide) rfl rfl
 have nxy:=hS.qen 0 1 (by decide) rfl rfl
 have hw:=words_ge hm hn
 have hb:=(may_iff _ _ _).1 hm
 cases k2:(K == 2)
 ·cases k1:(K == 1)
  ·simp only[hx1,hy1,r1,r0,r2,nyx,nxy,k2,k1,↓DD,UU,↓reduceIte,xA,xB,xC,xD,xE,xF,xG,xH,xI,xJ,xK,xL,xM,xN,xO,xP,xQ,ne_eq,eq_self]
   refine loop_intro (spJ (fun i=>∀ j:Nat,j<i→slAt sh ws p j=0) 13 p n cap a x y (sg y (.cells #[.int .i64 K,.int .i64 A,.int .i64 B] 66 (0,0)) :: sg x (.cells #[.int .i64 sh.p,.int .i64 sh.c,.int .i64 sh.m] 23 (0,0)) :: h :: l)) (fun F' _=>(16 - iv (gt F' 13)).toNat)
    ⟨0,by omega,rfl,⟨rfl,rfl,rfl,rfl⟩,hS,fun j hj=>by omega⟩ ?_
   clear hS hx1 hy1 r1 r0 r2 nyx nxy
   rintro F' H' ⟨i,hi,e13,⟨e1,e2,e4,e7⟩,hS,hQ⟩
   have hx1:=hS.lk 1 rfl
   have hy1:=hS.look
   have r1:=fun o n=>rdn_of hx1 o n
   have r0:=fun o=>rd_of hx1 o
   have r2:=fun o=>rd_of hy1 o
   by_cases hlt:i<16
   ·have d1:decide ((i:Int)<16)=true:=decide_eq_true (by omega)
    have wi:w64 ((i:Int)+1)=(i:Int)+1:=w64_eq (by omega) (by omega)
    have hsl:slot sh.p sh.c sh.m p (i:Int)=sh.c+sh.p+p*16+(i:Int):=slot_yes hm hp.1 hp.2 (by omega) (by omega)
    have p0:(0:Int)≤sh.c+sh.p+p*16+(i:Int):=by omega
    have p1:sh.c+sh.p+p*16+(i:Int)<(n:Int):=by omega
    obtain⟨xb,xo,rfl,hrd⟩:=(hr.sub (hS.sb h (by simp))).at' (i:=(sh.c+sh.p+p*16+(i:Int)).toNat) (by omega)
    cases hz:(ws (sh.c+sh.p+p*16+(i:Int)).toNat != 0)
    ·simp only[e13,e1,e2,e4,e7,hx1,hy1,r1,d1,u_slot,hsl,p0,p1,hrd,hz,wrap_w64,wi,↓DD,UU,↓reduceIte,xA,xB,xC,xD,xE,xF,xG,xH,xI,xJ,xK,xL,xM,xN,xO,xP,xQ,ne_eq,eq_self]
     refine⟨⟨i+1,by omega,by simp [gt,wi],⟨by simp [gt,e1],by simp [gt,e2],by simp [gt,e4],by simp [gt,e7]⟩,hS,fun j hj=>?_⟩,by simp [gt,iv,e13,wi];omega⟩
     by_cases e:j=i
     ·subst e;unfold slAt;simpa using hz
     ·exact hQ j (by omega)
    ·simp only[e13,e1,e2,e4,e7,hx1,hy1,r1,d1,u_slot,hsl,p0,p1,hrd,hz,↓DD,UU,↓reduceIte,xA,xB,xC,xD,xE,xF,xG,xH,xI,xJ,xK,xL,xM,xN,xO,xP,xQ,ne_eq,eq_self]
     exact⟨_,rfl,⟨fun hh=>(by cases hh),fun hP=>absurd (hP.emp k2 k1 i hlt) (by unfold slAt;simpa using hz)⟩,hS.tail.tail⟩
   have d1:decide ((i:Int)<16)=false:=decide_eq_false (by omega)
   cases k4:(K == 4)
   ·cases k3:(K == 3)
    ·simp only[e13,e1,e2,e4,e7,hx1,hy1,r0,r1,r2,d1,k4,k3,↓DD,UU,↓reduceIte,xA,xB,xC,xD,xE,xF,xG,xH,xI,xJ,xK,xL,xM,xN,xO,xP,xQ,ne_eq,eq_self]
     exact⟨_,rfl,⟨fun _=>SpB.oth k2 (fun j hj=>hQ j (by omega)) k4 k3,fun _=>rfl⟩,hS.tail.tail⟩
    ·simp only[e13,e1,e2,e4,e7,hx1,hy1,r0,r1,r2,d1,k4,k3,↓DD,UU,↓reduceIte,xA,xB,xC,xD,xE,xF,xG,xH,xI,xJ,xK,xL,xM,xN,xO,xP,xQ,ne_eq,eq_self]
     refine loop_intro (spM (fun j=>∀ i:Int,1≤i→i<j→pgK sh (p+i) (pgAt sh ws (p+i))=4∧pgA sh (p+i) (pgAt sh ws (p+i))=p) A p n cap a x y (sg y (.cells #[.int .i64 K,.int .i64 A,.int .i64 B] 66 (0,0)) :: sg x (.cells #[.int .i64 sh.p,.int .i64 sh.c,.int .i64 sh.m] 23 (0,0)) :: h :: l)) (fun F' _=>(A - iv (gt F' 16)).toNat)
      ⟨1,by omega,.inl rfl,rfl,⟨by simp [gt,e1],by simp [gt,e2],by simp [gt,e4],by simp [gt,e7]⟩,hS,fun i h1 h2=>by omega⟩ ?_
     clear hS hx1 hy1 r1 r0 r2 e1 e2 e4 e7 e13
     rintro F' H' ⟨j,j1,j2,e16,⟨e1,e2,e4,e7⟩,hS,hQ2⟩
     have hx1:=hS.lk 1 rfl
     have hy1:=hS.look
     have r1:=fun o n=>rdn_of hx1 o n
     have r0:=fun o=>rd_of hx1 o
     have r2:=fun o=>rd_of hy1 o
     by_cases hj:j<A
     ·have d2:decide (j<A)=true:=decide_eq_true hj
      have wj:w64 (j+1)=j+1:=w64_eq (by omega) (by omega)
      have wpj:w64 (p+j)=p+j:=w64_eq (by omega) (by omega)
      simp only[e16,e1,e2,e4,e7,hx1,hy1,r1,r2,d2,wrap_w64,wpj,↓DD,UU,↓reduceIte,xA,xB,xC,xD,xE,xF,xG,xH,xI,xJ,xK,xL,xM,xN,xO,xP,xQ,ne_eq,eq_self]
      refine callT_of (c_spage (p+j) hm hn hr hU hS.p2) ?_
      rintro v H' ⟨rfl,hS⟩
      simp only[e16,e1,e2,e4,e7,↓DD,UU,↓reduceIte,xA,xB,xC,xD,xE,xF,xG,xH,xI,xJ,xK,xL,xM,xN,xO,xP,xQ,ne_eq,eq_self]
      refine newB_intro fun z hz f5 f6=>?_
      have hS:=hS.new f5 (.cells #[.int .i64 0,.int .i64 0,.int .i64 0] 66 (0,0))
      have hS:=hS.set (.cells #[.int .i64 (pgK sh (p+j) (spX sh ws (p+j))),.int .i64 (pgA sh (p+j) (spX sh ws (p+j))),.int .i64 (pgB sh (p+j) (spX sh ws (p+j)))] 66 (0,0))
      rw[Ev.upd_upd]at hS
      have hz1:=hS.look
      have r3:=fun o=>rd_of hz1 o
      have hSt:=hS.tail
      cases q1:(pgK sh (p+j) (spX sh ws (p+j)) != 4)
      ·cases q2:(pgA sh (p+j) (spX sh ws (p+j)) != p)
       ·simp only[e16,e1,e2,e4,e7,Ev.upd_upd,hz1,r3,q1,q2,wrap_w64,wj,↓DD,UU,↓reduceIte,xA,xB,xC,xD,xE,xF,xG,xH,xI,xJ,xK,xL,xM,xN,xO,xP,xQ,ne_eq,eq_self]
        refine⟨⟨j+1,by omega,by omega,by simp [gt],⟨by simp [gt,e1],by simp [gt,e2],by simp [gt,e4],by simp [gt,e7]⟩,hSt.p2.p2,fun i h1 h2=>?_⟩,by simp [gt,iv,e16];omega⟩
        by_cases e:i=j
        ·subst e;exact⟨(by have h9:=q1;simp at h9;exact h9),(by have h9:=q2;simp at h9;exact h9)⟩
        ·exact hQ2 i h1 (by omega)
       ·simp only[e16,e1,e2,e4,e7,Ev.upd_upd,hz1,r3,q1,q2,↓DD,UU,↓reduceIte,xA,xB,xC,xD,xE,xF,xG,xH,xI,xJ,xK,xL,xM,xN,xO,xP,xQ,ne_eq,eq_self]
        exact⟨_,rfl,⟨fun hh=>(by cases hh),fun hP=>absurd (hP.lar k2 k1 k4 k3 j j1 hj).2 (by have h9:=q2;simp at h9;exact h9)⟩,hSt.p2.p2.tail.tail⟩
      ·simp only[e16,e1,e2,e4,e7,Ev.upd_upd,hz1,r3,q1,↓DD,UU,↓reduceIte,xA,xB,xC,xD,xE,xF,xG,xH,xI,xJ,xK,xL,xM,xN,xO,xP,xQ,ne_eq,eq_self]
       exact⟨_,rfl,⟨fun hh=>(by cases hh),fun hP=>absurd (hP.lar k2 k1 k4 k3 j j1 hj).1 (by have h9:=q1;simp at h9;exact h9)⟩,hSt.p2.p2.tail.tail⟩
     ·have d2:decide (j<A)=false:=decide_eq_false hj
      simp only[e16,e1,e2,e4,e7,hx1,hy1,r1,r2,d2,↓DD,UU,↓reduceIte,xA,xB,xC,xD,xE,xF,xG,xH,xI,xJ,xK,xL,xM,xN,xO,xP,xQ,ne_eq,eq_self]
      exact⟨_,rfl,⟨fun _=>SpB.large k2 (fun j hj=>hQ j (by omega)) k4 (fun i h1 h2=>hQ2 i h1 (by omega)),fun _=>rfl⟩,hS.tail.tail⟩
   ·simp only[e13,e1,e2,e4,e7,hx1,hy1,r0,r1,r2,d1,k4,↓DD,UU,↓reduceIte,xA,xB,xC,xD,xE,xF,xG,xH,xI,xJ,xK,xL,xM,xN,xO,xP,xQ,ne_eq,eq_self]
    refine callT_of (c_spage A hm hn hr hU hS.p2) ?_
    rintro v H' ⟨rfl,hS⟩
    simp only[e13,e1,e2,e4,e7,↓DD,UU,↓reduceIte,xA,xB,xC,xD,xE,xF,xG,xH,xI,xJ,xK,xL,xM,xN,xO,xP,xQ,ne_eq,eq_self]
    refine newB_intro fun z hz f5 f6=>?_
    have hS:=hS.new f5 (.cells #[.int .i64 0,.int .i64 0,.int .i64 0] 66 (0,0))
    have hS:=hS.set (.cells #[.int .i64 (pgK sh A (spX sh ws A)),.int .i64 (pgA sh A (spX sh ws A)),.int .i64 (pgB sh A (spX sh ws A))] 66 (0,0))
    rw[Ev.upd_upd]at hS
    have hz1:=hS.look
    have hy1:=hS.lk 2 rfl
    have hx1:=hS.lk 3 rfl
    have r0:=fun o=>rd_of hx1 o
    have r2:=fun o=>rd_of hy1 o
    have r3:=fun o=>rd_of hz1 o
    have hSt:=hS.tail
    have hyA:0≤pgA sh A (spX sh ws A)∧pgA sh A (spX sh ws A)≤255:=by
     unfold pgA;split
     ·exact pt_bd _ _
     ·exact⟨by decide,by decide⟩
    have wA:w64 (A+pgA sh A (spX sh ws A))=A+pgA sh A (spX sh ws A):=w64_eq (by omega) (by omega)
    have he16:∀ j:Nat,j<16→slAt sh ws p j=0:=fun j hj=>hQ j (by omega)
    have hbv:∀ {z:Bool},z=((pgK sh A (spX sh ws A) == 1) || ((pgK sh A (spX sh ws A) == 3) && decide (p<A+pgA sh A (spX sh ws A))))→(z=true↔SpB sh ws p K A):=fun {z} hz=>
     ⟨fun hh=>SpB.four k2 he16 k4 (by rw[← hh,hz];rfl),fun hP=>by rw[hz];exact hP.bod k2 k1 k4⟩
    cases q1:(pgK sh A (spX sh ws A) == 1)
    ·cases q2:(pgK sh A (spX sh ws A) == 3)
     ·simp only[e13,e1,e2,e4,e7,Ev.upd_upd,hx1,hy1,hz1,r0,r2,r3,q1,q2,↓DD,UU,↓reduceIte,xA,xB,xC,xD,xE,xF,xG,xH,xI,xJ,xK,xL,xM,xN,xO,xP,xQ,ne_eq,eq_self]
      exact⟨_,rfl,hbv (by rw[q1,q2];rfl),hSt.p2.p2.tail.tail⟩
     ·simp only[e13,e1,e2,e4,e7,Ev.upd_upd,hx1,hy1,hz1,r0,r2,r3,q1,q2,wrap_w64,wA,↓DD,UU,↓reduceIte,xA,xB,xC,xD,xE,xF,xG,xH,xI,xJ,xK,xL,xM,xN,xO,xP,xQ,ne_eq,eq_self]
      exact⟨_,rfl,hbv (by rw[q1,q2];rfl),hSt.p2.p2.tail.tail⟩
    ·simp only[e13,e1,e2,e4,e7,Ev.upd_upd,hx1,hy1,hz1,r0,r2,r3,q1,↓DD,UU,↓reduceIte,xA,xB,xC,xD,xE,xF,xG,xH,xI,xJ,xK,xL,xM,xN,xO,xP,xQ,ne_eq,eq_self]
     exact⟨_,rfl,hbv (by rw[q1];rfl),hSt.p2.p2.tail.tail⟩
  ·simp only[hx1,hy1,r1,r0,r2,nyx,nxy,k2,k1,↓DD,UU,↓reduceIte,xA,xB,xC,xD,xE,xF,xG,xH,xI,xJ,xK,xL,xM,xN,xO,xP,xQ,ne_eq,eq_self]
   exact⟨_,rfl,⟨fun _=>SpB.one k2 k1,fun _=>rfl⟩,hS.tail.tail⟩
 ·simp only[hx1,hy1,r1,r0,r2,nyx,nxy,k2,↓DD,UU,↓reduceIte,xA,xB,xC,xD,xE,xF,xG,xH,xI,xJ,xK,xL,xM,xN,xO,xP,xQ,ne_eq,eq_self]
  refine loop_intro (spJ (fun i=>∀ j:Nat,j<i→slB sh.c A j (slAt sh ws p j)=true) 9 p n cap a x y (sg y (.cells #[.int .i64 K,.int .i64 A,.int .i64 B] 66 (0,0)) :: sg x (.cells #[.int .i64 sh.p,.int .i64 sh.c,.int .i64 sh.m] 23 (0,0)) :: h :: l)) (fun F' _=>(16 - iv (gt F' 9)).toNat)
   ⟨0,by omega,rfl,⟨rfl,rfl,rfl,rfl⟩,hS,fun j hj=>by omega⟩ ?_
  clear hS hx1 hy1 r1 r0 r2 nyx nxy
  rintro F' H' ⟨i,hi,e9,⟨e1,e2,e4,e7⟩,hS,hQ⟩
  have hx1:=hS.lk 1 rfl
  have hy1:=hS.look
  have r1:=fun o n=>rdn_of hx1 o n
  by_cases hlt:i<16
  ·have d1:decide ((i:Int)<16)=true:=decide_eq_true (by omega)
   have wi:w64 ((i:Int)+1)=(i:Int)+1:=w64_eq (by omega) (by omega)
   simp only[e9,e1,e2,e4,e7,hx1,hy1,r1,d1,↓DD,UU,↓reduceIte,xA,xB,xC,xD,xE,xF,xG,xH,xI,xJ,xK,xL,xM,xN,xO,xP,xQ,ne_eq,eq_self]
   refine callT_of (c_sslot p i hm hn hr hU hp ⟨by omega,by omega⟩ hS.p2) ?_
   rintro v H' ⟨rfl,hS⟩
   obtain⟨w,hww⟩:∃ w,ws (sh.c+sh.p+p*16+(i:Int)).toNat=w:=⟨_,rfl⟩
   have hy0:=hS.lk 1 rfl
   have hx0:=hS.lk 2 rfl
   have r1:=fun o n=>rdn_of hx0 o n
   have r0:=fun o=>rd_of hx0 o
   have r2:=fun o=>rd_of hy0 o
   have hsl:slot sh.p sh.c sh.m p (i:Int)=sh.c+sh.p+p*16+(i:Int):=slot_yes hm hp.1 hp.2 (by omega) (by omega)
   have p0:(0:Int)≤sh.c+sh.p+p*16+(i:Int):=by omega
   have p1:sh.c+sh.p+p*16+(i:Int)<(n:Int):=by omega
   obtain⟨xb,xo,rfl,hrd⟩:=(hr.sub (hS.sb h (by simp))).at' (i:=(sh.c+sh.p+p*16+(i:Int)).toNat) (by omega)
   rw[hww]at hrd
   simp only[e9,e1,e2,e4,e7,hww,↓DD,UU,↓reduceIte,xA,xB,xC,xD,xE,xF,xG,xH,xI,xJ,xK,xL,xM,xN,xO,xP,xQ,ne_eq,eq_self]
   refine newB_intro fun z hz f5 f6=>?_
   have nxz:(x=z)=False:=f5 x (by rw[hx0];rfl)
   have nzx:(z=x)=False:=f6 x (by rw[hx0];rfl)
   have nyz:(y=z)=False:=f5 y (by rw[hy0];rfl)
   have nzy:(z=y)=False:=f6 y (by rw[hy0];rfl)
   have nbz:(xb=z)=False:=f5 xb (by obtain⟨c,T,f,hc,-⟩:=cells_of hrd;rw[hc];rfl)
   have hS:=hS.new f5 (.cells #[.int .i64 0,.int .i64 0] 78 (0,0))
   have hS:=hS.set (.cells #[.int .i64 (slK w),.int .i64 (slA w)] 78 (0,0))
   rw[Ev.upd_upd]at hS
   have hSt:=hS.tail
   have hsw:slAt sh ws p i=w:=hww
   rcases sp_cases (slK w) (slA w) A sh.c with⟨c1,c2,c3,c4⟩|⟨c1,c2,c3,c4⟩|⟨c1,c2,c3,c4⟩|⟨c1,c2,c3,c4⟩|⟨c1,c2,c3,c4⟩|⟨c1,c2,c3,c4⟩|⟨c1,c2,c3,c4⟩ <;>
    rcases sq_cases (i:Int) (slots A) w with⟨d2,d3,d4⟩|⟨d2,d3,d4⟩|⟨d2,d3,d4⟩ <;>
    simp only[e9,e1,e2,e4,e7,hww,Ev.upd_upd,nxz,nzx,nyz,nzy,nbz,hx0,hy0,r0,r1,r2,u_slot,u_slots,hsl,p0,p1,hrd,c1,c2,c3,c4,d2,d3,d4,wrap_w64,wi,↓DD,UU,↓reduceIte,xA,xB,xC,xD,xE,xF,xG,xH,xI,xJ,xK,xL,xM,xN,xO,xP,xQ,ne_eq,eq_self] <;>
    first
    | exact⟨_,rfl,⟨fun hh=>(by cases hh),fun hP=>(by have h5:=hP.sup k2 i hlt;rw[hsw]at h5;rw[show slB sh.c A i w=false from by simp only[slB,c1,c2,c3,c4,d2,d3,d4,Bool.true_or,Bool.or_true,Bool.and_true,Bool.true_and,Bool.false_or,Bool.or_false,Bool.false_and,Bool.and_false,cond_true,cond_false,Bool.not_true,Bool.not_false]]at h5;cases h5)⟩,hSt.p2.p2.tail.tail⟩
    | exact⟨⟨i+1,by omega,by simp [gt,wi],⟨by simp [gt,e1],by simp [gt,e2],by simp [gt,e4],by simp [gt,e7]⟩,hSt.p2.p2,fun j hj=>(by
      by_cases e:j=i
      ·subst e;rw[hsw];simp only[slB,c1,c2,c3,c4,d2,d3,d4,Bool.true_or,Bool.or_true,Bool.and_true,Bool.true_and,Bool.false_or,Bool.or_false,Bool.false_and,Bool.and_false,cond_true,cond_false,Bool.not_true,Bool.not_false]
      ·exact hQ j (by omega))⟩,by simp [gt,iv,e9,wi];omega⟩
  ·have d1:decide ((i:Int)<16)=false:=decide_eq_false (by omega)
   simp only[e9,e1,e2,e4,e7,hx1,hy1,r1,d1,↓DD,UU,↓reduceIte,xA,xB,xC,xD,xE,xF,xG,xH,xI,xJ,xK,xL,xM,xN,xO,xP,xQ,ne_eq,eq_self]
   exact⟨_,rfl,⟨fun _=>SpB.two k2 (fun j hj=>hQ j (by omega)),fun _=>rfl⟩,hS.tail.tail⟩
end
end Go.Proofs.YtbcdaglbdnkocaaGreat
namespace Go.Proofs.YtbcdaglbdnkocaaGreat
open Go Go.Ev Go.Pl Go.Ma

def Gr (T:TypeId) (a:Option Addr) (n cap:Nat) (vs:Nat→Value) (g:Hp):Prop:=
 (a=none∧n=0∧cap=0∧g=fun _=>none) ∨
 ∃ z c,a=some ⟨z,0,none⟩∧g=sg z (.cells c T (0,0))∧n≤cap∧cap≤c.size∧∀ i,i<n→c[i]? = some (vs i)
theorem Gr.none (T:TypeId) (vs:Nat→Value):Gr T Option.none 0 0 vs fun _=>Option.none:=.inl ⟨rfl,rfl,rfl,rfl⟩
theorem Gr.row {T:TypeId} {a:Option Addr} {n cap:Nat} {ws:Nat→Int} {g:Hp} (h:Gr T a n cap (fun i=>.int .u64 (ws i)) g):RowU g a n ws:=by
 rcases h with⟨-,h,-,-⟩|⟨z,c,rfl,rfl,h1,h2,h3⟩
 ·exact .inl h
 ·exact .inr ⟨z,0,rfl,fun i hi=>by rw[rd_of (sg_at _ _),Nat.zero_add,h3 i hi]⟩
theorem Gr.rd {T:TypeId} {a:Option Addr} {n cap:Nat} {vs:Nat→Value} {g H:Hp} {l:List Hp} (h:Gr T a n cap vs g) (hS:Sep l H) (hm:g∈l) {i:Nat} (hi:i<n):∃ z,a=some ⟨z,0,Option.none⟩∧Ev.rd H z i=some (vs i):=by
 rcases h with⟨-,h,-,-⟩|⟨z,c,rfl,rfl,h1,h2,h3⟩
 ·omega
 ·exact⟨z,rfl,by rw[rd_of (hS.sb _ hm z _ (sg_at _ _)),h3 i hi]⟩

theorem grow {W:World} {H g:Hp} {l:List Hp} {T:TypeId} {a:Option Addr} {n cap bytes:Nat} {vs:Nat→Value} {v z0:Value} {K1:Hp→Prop} {K2:Array Value→Nat→Nat→Prop}
  (hG:Gr T a n cap vs g) (hv:v.oneCell'=true) (hn:n+1≤1000000000) (hb:bytes≤8) (hS:Sep (g :: l) H)
  (h1:∀ g2 H',Gr T a (n+1) cap (fun j=>if j=n then v else vs j) g2→Sep (g2 :: l) H'→K1 H')
  (h2:∀ old cap2 b,Gr T (some ⟨b,0,none⟩) (n+1) cap2 (fun j=>if j=n then v else vs j) (sg b (.cells (old ++ #[v] ++ Builtin.zeroCells #[z0] (cap2 - (n+1))) T (0,0))) →
   Sep (sg b (.cells (old ++ #[v] ++ Builtin.zeroCells #[z0] (cap2 - (n+1))) T (0,0)) :: l) (upd H b (.cells (old ++ #[v] ++ Builtin.zeroCells #[z0] (cap2 - (n+1))) T (0,0)))→K2 old cap2 b) :
  if n+1≤cap then stow H a n #[v] K1
  else Builtin.nextslicecap (n+1) cap*bytes≤281474976710656∧n≤9223372036854775806∧onSome (rds H a n) fun old=>allCap (n+1) fun cap=>newB W H fun b=>K2 old cap b:=by
 split
 ·rename_i hroom
  rcases hG with⟨rfl,rfl,rfl,rfl⟩|⟨z,c,rfl,rfl,h4,h5,h3⟩
  ·omega
  have hz:=hS.look
  unfold stow
  rw[if_neg (by simp)]
  show onCells (H z) _
  rw[hz]
  refine⟨by simp;omega,by simp [hv],?_⟩
  refine h1 _ _ (.inr ⟨z,setN c (0+n) [v],rfl,rfl,by omega,by simp [setN];omega,fun i hi=>?_⟩) (hS.set _)
  have e:setN c (0+n) [v] = c.setIfInBounds n v:=by rw[Nat.zero_add];rfl
  rw[e]
  show _=some (if i=n then v else vs i)
  by_cases hin:i=n
  ·subst hin;rw[Array.getElem?_setIfInBounds_self_of_lt (by omega),if_pos rfl]
  ·rw[Array.getElem?_setIfInBounds_ne (by omega),if_neg hin];exact h3 i (by omega)
 ·rename_i hroom
  obtain⟨old,hold,hsz,hat⟩:∃ old:Array Value,rds H a n=some old∧old.size=n∧∀ i,i<n→old[i]? = some (vs i):=by
   rcases hG with⟨rfl,rfl,rfl,rfl⟩|⟨z,c,rfl,rfl,h4,h5,h3⟩
   ·exact⟨#[],rfl,rfl,fun i hi=>by omega⟩
   ·cases n with
    | zero=>exact⟨#[],rfl,rfl,fun i hi=>by omega⟩
    |succ m=>
     refine⟨c.extract 0 (0+(m+1)),?_,by simp;omega,fun i hi=>?_⟩
     ·show rdn H z 0 (m+1)=_
      rw[rdn_of hS.look,if_pos (by omega)]
     ·rw[Array.getElem?_extract,if_pos (by omega),Nat.zero_add];exact h3 i hi
  have hc:=nextslicecap_le (need:=n+1) (old:=cap) (by omega)
  have g1:Builtin.nextslicecap (n+1) cap*bytes≤281474976710656:=Nat.le_trans (Nat.mul_le_mul_left _ hb) (by omega)
  refine⟨g1,by omega,?_⟩
  rw[hold]
  intro cap2 hc2
  refine newB_intro fun b hb0 f1 f2=>?_
  refine h2 _ _ _ (.inr ⟨b,_,rfl,rfl,hc2,?_,fun i hi=>?_⟩) ((hS.tail.new f1 _))
  ·have e:(Builtin.zeroCells #[z0] (cap2 - (n+1))).size=cap2 - (n+1):=by simp [Builtin.zeroCells]
   simp only[Array.size_append,hsz,e]
   show cap2≤n+1+_
   omega
  ·rw[Array.append_assoc]
   show _=some (if i=n then v else vs i)
   by_cases hin:i=n
   ·subst hin;rw[Array.getElem?_append_right (by omega),if_pos rfl,hsz,Nat.sub_self,Array.getElem?_append_left (by simp)];rfl
   ·rw[Array.getElem?_append_left (by omega),if_neg hin];exact hat i (by omega)
end Go.Proofs.YtbcdaglbdnkocaaGreat
set_option maxRecDepth 8000
namespace Go.Proofs.YtbcdaglbdnkocaaGreat
open Go Go.Ev Go.Pl Go.Ma

def Es (a:Option Addr) (k cap:Nat) (g:Hp):Prop:=
 (a=none∧k=0∧cap=0∧g=fun _=>none) ∨
 ∃ z c,a=some ⟨z,0,none⟩∧g=sg z (.cells c 73 (0,0))∧k≤cap∧cap*3≤c.size∧∀ j,j<k*3→∃ v,c[j]? = some (.int .i64 v)
theorem Es.rd {H g:Hp} {l:List Hp} {a:Option Addr} {k cap:Nat} (h:Es a k cap g) (hS:Sep l H) (hm:g∈l) {j:Nat} (hj:j<k):∃ z v1 v2,a=some ⟨z,0,none⟩∧Ev.rd H z (j*3)=some (.int .i64 v1)∧Ev.rd H z (j*3+1)=some (.int .i64 v2):=by
 rcases h with⟨-,h,-,-⟩|⟨z,c,rfl,rfl,h1,h2,h3⟩
 ·omega
 ·obtain⟨v1,e1⟩:=h3 (j*3) (by omega)
  obtain⟨v2,e2⟩:=h3 (j*3+1) (by omega)
  have:=hS.sb _ hm z _ (sg_at _ _)
  exact⟨z,v1,v2,rfl,by rw[rd_of this,e1],by rw[rd_of this,e2]⟩
theorem okEn_in {s:Sh} {w:Int} (hm:may s.p s.c s.m=true) (h:okEn s w=true):(0≤enP s w∧enP s w<s.p)∧0≤enS s w∧enS s w<16:=by
 have h0:=h
 unfold okEn at h
 simp only[Bool.and_eq_true,decide_eq_true_eq]at h
 obtain⟨-,h1,h2⟩:=h
 have h3:¬ page s.p s.c s.m (pt w 16)<0:=by omega
 rw[page_lt0,Decidable.not_not]at h3
 have:=slots_bd (pt w 1048576)
 have b2:=pt_bd w 4096
 unfold enP enS
 rw[if_pos h0,if_pos h0]
 omega
end Go.Proofs.YtbcdaglbdnkocaaGreat
set_option maxRecDepth 8000
namespace Go.Proofs.YtbcdaglbdnkocaaGreat
open Go Go.Ev Go.Pl Go.Ma

def EsV (a:Option Addr) (k cap:Nat) (E:Nat→Int×Int) (g:Hp):Prop:=
 (a=none∧k=0∧cap=0∧g=fun _=>none) ∨
 ∃ z c,a=some ⟨z,0,none⟩∧g=sg z (.cells c 73 (0,0))∧k≤cap∧cap*3≤c.size∧∀ j,j<k→c[j*3]? = some (.int .i64 (E j).1)∧c[j*3+1]? = some (.int .i64 (E j).2)
theorem grow3V {W:World} {H g:Hp} {l:List Hp} {a:Option Addr} {k cap:Nat} {E:Nat→Int×Int} {v1 v2 v3:Int} {K1:Hp→Prop} {K2:Array Value→Nat→Nat→Prop}
  (hG:EsV a k cap E g) (hk:k+1≤1000000) (hS:Sep (g :: l) H)
  (h1:∀ g2 H',EsV a (k+1) cap (fun j=>if j=k then(v1,v2) else E j) g2→Sep (g2 :: l) H'→K1 H')
  (h2:∀ old cap2 b,EsV (some ⟨b,0,none⟩) (k+1) cap2 (fun j=>if j=k then(v1,v2) else E j) (sg b (.cells (old ++ #[.int .i64 v1,.int .i64 v2,.int .i64 v3] ++ Builtin.zeroCells #[.int .i64 0,.int .i64 0,.int .i64 0] (cap2 - (k+1))) 73 (0,0))) →
   Sep (sg b (.cells (old ++ #[.int .i64 v1,.int .i64 v2,.int .i64 v3] ++ Builtin.zeroCells #[.int .i64 0,.int .i64 0,.int .i64 0] (cap2 - (k+1))) 73 (0,0)) :: l) (upd H b (.cells (old ++ #[.int .i64 v1,.int .i64 v2,.int .i64 v3] ++ Builtin.zeroCells #[.int .i64 0,.int .i64 0,.int .i64 0] (cap2 - (k+1))) 73 (0,0)))→K2 old cap2 b) :
  if k+1≤cap then stow H a (k*3) #[.int .i64 v1,.int .i64 v2,.int .i64 v3] K1
  else Builtin.nextslicecap (k+1) cap*24≤281474976710656∧k≤9223372036854775806∧onSome (rds H a (k*3)) fun old=>allCap (k+1) fun cap=>newB W H fun b=>K2 old cap b:=by
 split
 ·rename_i hroom
  rcases hG with⟨rfl,rfl,rfl,rfl⟩|⟨z,c,rfl,rfl,h4,h5,h3⟩
  ·omega
  have hz:=hS.look
  unfold stow
  rw[if_neg (by simp)]
  show onCells (H z) _
  rw[hz]
  refine⟨by simp;omega,by simp;exact⟨rfl,rfl,rfl⟩,?_⟩
  have e:setN c (0+k*3) [.int .i64 v1,.int .i64 v2,.int .i64 v3] = ((c.setIfInBounds (k*3) (.int .i64 v1)).setIfInBounds (k*3+1) (.int .i64 v2)).setIfInBounds (k*3+2) (.int .i64 v3):=by rw[Nat.zero_add];rfl
  refine h1 _ _ (.inr ⟨z,setN c (0+k*3) [.int .i64 v1,.int .i64 v2,.int .i64 v3],rfl,rfl,by omega,by rw[e];simp;omega,fun i hi=>?_⟩) (hS.set _)
  rw[e]
  show _=some (Value.int .i64 (if i=k then(v1,v2) else E i).1)∧_=some (Value.int .i64 (if i=k then(v1,v2) else E i).2)
  by_cases ik:i=k
  ·subst ik
   rw[if_pos rfl]
   refine⟨?_,?_⟩
   ·rw[Array.getElem?_setIfInBounds_ne (by omega),Array.getElem?_setIfInBounds_ne (by omega)]
    exact Array.getElem?_setIfInBounds_self_of_lt (by omega)
   ·rw[Array.getElem?_setIfInBounds_ne (by omega)]
    exact Array.getElem?_setIfInBounds_self_of_lt (by simp;omega)
  ·rw[if_neg ik]
   have:=h3 i (by omega)
   refine⟨?_,?_⟩
   ·rw[Array.getElem?_setIfInBounds_ne (by omega),Array.getElem?_setIfInBounds_ne (by omega),Array.getElem?_setIfInBounds_ne (by omega)];exact this.1
   ·rw[Array.getElem?_setIfInBounds_ne (by omega),Array.getElem?_setIfInBounds_ne (by omega),Array.getElem?_setIfInBounds_ne (by omega)];exact this.2
 ·rename_i hroom
  obtain⟨old,hold,hsz,hat⟩:∃ old:Array Value,rds H a (k*3)=some old∧old.size=k*3∧∀ i,i<k→old[i*3]? = some (.int .i64 (E i).1)∧old[i*3+1]? = some (.int .i64 (E i).2):=by
   rcases hG with⟨rfl,rfl,rfl,rfl⟩|⟨z,c,rfl,rfl,h4,h5,h3⟩
   ·exact⟨#[],rfl,rfl,fun i hi=>by omega⟩
   ·cases hkk:k*3 with
    | zero=>exact⟨#[],rfl,rfl,fun i hi=>by omega⟩
    |succ m=>
     refine⟨c.extract 0 (0+(m+1)),?_,by simp;omega,fun i hi=>?_⟩
     ·show rdn H z 0 (m+1)=_
      rw[rdn_of hS.look,if_pos (by omega)]
     ·rw[Array.getElem?_extract,if_pos (by omega),Nat.zero_add,Array.getElem?_extract,if_pos (by omega),Nat.zero_add];exact h3 i (by omega)
  have hc:=nextslicecap_le (need:=k+1) (old:=cap) (by omega)
  refine⟨by omega,by omega,?_⟩
  rw[hold]
  intro cap2 hc2
  refine newB_intro fun b hb0 f1 f2=>?_
  have e:(Builtin.zeroCells #[Value.int .i64 0,Value.int .i64 0,Value.int .i64 0] (cap2 - (k+1))).size=(cap2 - (k+1))*3:=by simp [Builtin.zeroCells]
  refine h2 _ _ _ (.inr ⟨b,_,rfl,rfl,hc2,?_,fun i hi=>?_⟩) ((hS.tail.new f1 _))
  ·simp only[Array.size_append,hsz,e]
   show cap2*3≤k*3+3+_
   omega
  ·rw[Array.append_assoc]
   by_cases ik:i=k
   ·subst ik
    show _=some (Value.int .i64 (if i=i then(v1,v2) else E i).1)∧_=some (Value.int .i64 (if i=i then(v1,v2) else E i).2)
    rw[if_pos rfl]
    refine⟨?_,?_⟩
    ·rw[Array.getElem?_append_right (by omega),hsz,Array.getElem?_append_left (by simp),show i*3 - i*3=0 by omega];rfl
    ·rw[Array.getElem?_append_right (by omega),hsz,Array.getElem?_append_left (by simp),show i*3+1 - i*3=1 by omega];rfl
   ·show _=some (Value.int .i64 (if i=k then(v1,v2) else E i).1)∧_=some (Value.int .i64 (if i=k then(v1,v2) else E i).2)
    rw[if_neg ik]
    have:=hat i (by omega)
    refine⟨?_,?_⟩
    ·rw[Array.getElem?_append_left (by omega)];exact this.1
    ·rw[Array.getElem?_append_left (by omega)];exact this.2
theorem EsV.rd {H g:Hp} {l:List Hp} {a:Option Addr} {k cap:Nat} {E:Nat→Int×Int} (h:EsV a k cap E g) (hS:Sep l H) (hm:g∈l) {j:Nat} (hj:j<k):∃ z,a=some ⟨z,0,none⟩∧Ev.rd H z (j*3)=some (.int .i64 (E j).1)∧Ev.rd H z (j*3+1)=some (.int .i64 (E j).2):=by
 rcases h with⟨-,h,-,-⟩|⟨z,c,rfl,rfl,h1,h2,h3⟩
 ·omega
 ·have:=hS.sb _ hm z _ (sg_at _ _)
  exact⟨z,rfl,by rw[rd_of this,(h3 j hj).1],by rw[rd_of this,(h3 j hj).2]⟩
section
variable {W:World} {H h:Hp} {l:List Hp} {n cap:Nat} {a:Option Addr} {ws:Nat→Int} {sh:Sh}
def vsoG (n cap:Nat) (a:Option Addr) (x:Nat) (F':Fr):Prop:=gt F' 1=.slice a n cap∧gt F' 2=.pointer (some ⟨x,0,none⟩)
def vsoA (sh:Sh) (ws:Nat→Int) (n cap:Nat) (a:Option Addr) (x:Nat) (L:List Hp) (F':Fr) (H':Hp):Prop:=
 ∃ p:Nat,(p:Int)≤sh.p∧gt F' 5=.int .i64 (p:Int)∧vsoG n cap a x F'∧Sep L H'∧∀ q:Nat,q<p→okPg sh q (pgAt sh ws q)=true∧SpB sh ws q (pgK sh q (pgAt sh ws q)) (pgA sh q (pgAt sh ws q))
def vsoB (sh:Sh) (ws:Nat→Int) (n cap:Nat) (a:Option Addr) (x:Nat) (L:List Hp) (F':Fr) (H':Hp):Prop:=
 ∃ (c k ecap:Nat) (es:Option Addr) (g:Hp) (E:Nat→Int×Int),(c:Int)≤sh.c∧gt F' 9=.int .i64 (c:Int)∧gt F' 8=.slice es k ecap∧EsV es k ecap E g∧Seen sh ws c 0 k E∧k≤c*8∧vsoG n cap a x F'∧Sep (g :: L) H'
def vsoC (sh:Sh) (ws:Nat→Int) (c n cap:Nat) (a:Option Addr) (x:Nat) (L:List Hp) (F':Fr) (H':Hp):Prop:=
 ∃ (i k ecap:Nat) (es:Option Addr) (g:Hp) (E:Nat→Int×Int),(i:Int)≤sh.m∧gt F' 10=.int .i64 (i:Int)∧gt F' 9=.int .i64 (c:Int)∧gt F' 8=.slice es k ecap∧EsV es k ecap E g∧Seen sh ws c i k E∧k≤c*8+i∧vsoG n cap a x F'∧Sep (g :: L) H'
def vsoD (E:Nat→Int×Int) (ee:Int×Int) (c i k ecap:Nat) (es:Option Addr) (y n cap:Nat) (a:Option Addr) (x:Nat) (L:List Hp) (F':Fr) (H':Hp):Prop:=
 ∃ j:Nat,j≤k∧gt F' 16=.int .i64 (j:Int)∧gt F' 12=.pointer (some ⟨y,0,none⟩)∧gt F' 10=.int .i64 (i:Int)∧gt F' 9=.int .i64 (c:Int)∧gt F' 8=.slice es k ecap∧vsoG n cap a x F'∧Sep L H'∧∀ q,q<j→E q≠ee
set_option maxHeartbeats 8000000 in
theorem c_soundV (hm:may sh.p sh.c sh.m=true) (hn:(n:Int)=words sh.p sh.c sh.m) (hr:RowU h a n ws) (hU:∀ i,i<n→U (ws i)) (hS:Sep (h :: l) H) :
  CallP Tryz.prog W 6 #[.agg #[.int .i64 sh.p,.int .i64 sh.c,.int .i64 sh.m],.slice a n cap] H fun v H'=>∃ b,v=.bool b∧(b=true↔Snd sh ws)∧Sep (h :: l) H':=by
 refine CallP.of mixed Tryz.func6 tr6 (by show 2≤_;decide) fun W _=>?_
 simp only[↓DD,UU,↓reduceIte,xA,xB,xC,xD,xE,xF,xG,xH,xI,xJ,xK,xL,xM,xN,xO,xP,xQ,ne_eq,eq_self]
 refine newB_intro fun x hx f1 f2=>?_
 have hS:=(hS.new f1 (.cells #[.int .i64 sh.p,.int .i64 sh.c,.int .i64 sh.m] 23 (0,0)))
 have hx1:=hS.look
 have r1:=fun o n=>rdn_of hx1 o n
 have hw:=words_ge hm hn
 have hb:=(may_iff _ _ _).1 hm
 simp only[hx1,r1,↓DD,UU,↓reduceIte,xA,xB,xC,xD,xE,xF,xG,xH,xI,xJ,xK,xL,xM,xN,xO,xP,xQ,ne_eq,eq_self]
 refine callT_of (c_senough hm hn hS) ?_
 rintro v H' ⟨rfl,hS⟩
 simp only[↓DD,UU,↓reduceIte,xA,xB,xC,xD,xE,xF,xG,xH,xI,xJ,xK,xL,xM,xN,xO,xP,xQ,ne_eq,eq_self]
 refine loop_intro (vsoA sh ws n cap a x (sg x (.cells #[.int .i64 sh.p,.int .i64 sh.c,.int .i64 sh.m] 23 (0,0)) :: h :: l)) (fun F' _=>(sh.p - iv (gt F' 5)).toNat)
  ⟨0,by omega,rfl,⟨rfl,rfl⟩,hS,fun q h=>by omega⟩ ?_
 clear hS hx1 r1
 rintro F' H' ⟨p,hp,e5,⟨e1,e2⟩,hS,hQ⟩
 have hx1:=hS.look
 have r1:=fun o n=>rdn_of hx1 o n
 have r0:=fun o=>rd_of hx1 o
 by_cases hlt:(p:Int)<sh.p
 ·have d1:decide ((p:Int)<sh.p)=true:=decide_eq_true hlt
  have wi:w64 ((p:Int)+1)=(p:Int)+1:=w64_eq (by omega) (by omega)
  simp only[e5,e1,e2,hx1,r0,r1,d1,↓DD,UU,↓reduceIte,xA,xB,xC,xD,xE,xF,xG,xH,xI,xJ,xK,xL,xM,xN,xO,xP,xQ,ne_eq,eq_self]
  refine callT_of (c_spage p hm hn hr hU hS.p1) ?_
  rintro v H' ⟨rfl,hS⟩
  have hx0:=hS.lk 1 rfl
  have r1:=fun o n=>rdn_of hx0 o n
  simp only[e5,e1,e2,↓DD,UU,↓reduceIte,xA,xB,xC,xD,xE,xF,xG,xH,xI,xJ,xK,xL,xM,xN,xO,xP,xQ,ne_eq,eq_self]
  refine newB_intro fun z hz f5 f6=>?_
  have nxz:(x=z)=False:=f5 x (by rw[hx0];rfl)
  have nzx:(z=x)=False:=f6 x (by rw[hx0];rfl)
  have hS:=hS.new f5 (.cells #[.int .i64 0,.int .i64 0,.int .i64 0] 66 (0,0))
  have hS:=hS.set (.cells #[.int .i64 (pgK sh p (spX sh ws p)),.int .i64 (pgA sh p (spX sh ws p)),.int .i64 (pgB sh p (spX sh ws p))] 66 (0,0))
  rw[Ev.upd_upd]at hS
  have hA0:0≤pgA sh p (spX sh ws p):=by
   unfold pgA;split
   ·exact(pt_bd _ _).1
   ·decide
  have hA:pgA sh p (spX sh ws p)≤255:=by
   unfold pgA;split
   ·exact(pt_bd _ _).2
   ·decide
  cases hok:okPg sh p (spX sh ws p)
  ·simp only[e5,e1,e2,hok,Ev.upd_upd,nxz,nzx,hx0,r1,↓DD,UU,↓reduceIte,xA,xB,xC,xD,xE,xF,xG,xH,xI,xJ,xK,xL,xM,xN,xO,xP,xQ,ne_eq,eq_self]
   exact⟨_,rfl,⟨fun hh=>(by cases hh),fun hP=>(by have h9:=(hP.pg p hlt).1;have h8:okPg sh p (pgAt sh ws p)=false:=hok;rw[h8]at h9;cases h9)⟩,hS.tail.p1.tail⟩
  ·simp only[e5,e1,e2,hok,Ev.upd_upd,nxz,nzx,hx0,r1,↓DD,UU,↓reduceIte,xA,xB,xC,xD,xE,xF,xG,xH,xI,xJ,xK,xL,xM,xN,xO,xP,xQ,ne_eq,eq_self]
   refine callT_of (c_soundpageV p _ _ _ hA0 hA hm hn hr hU ⟨by omega,hlt⟩ hS.tail) ?_
   rintro v H' ⟨b,rfl,hiff,hS⟩
   cases b
   ·simp only[e5,e1,e2,↓DD,UU,↓reduceIte,xA,xB,xC,xD,xE,xF,xG,xH,xI,xJ,xK,xL,xM,xN,xO,xP,xQ,ne_eq,eq_self]
    exact⟨_,rfl,⟨fun hh=>(by cases hh),fun hP=>(by have h9:=hiff.2 (hP.pg p hlt).2;cases h9)⟩,hS.p1.tail⟩
   ·simp only[e5,e1,e2,wrap_w64,wi,↓DD,UU,↓reduceIte,xA,xB,xC,xD,xE,xF,xG,xH,xI,xJ,xK,xL,xM,xN,xO,xP,xQ,ne_eq,eq_self]
    refine⟨⟨p+1,by omega,by simp [gt,wi],⟨by simp [gt,e1],by simp [gt,e2]⟩,hS.p1,fun q hq=>?_⟩,by simp [gt,iv,e5,wi];omega⟩
    by_cases e:q=p
    ·subst e;exact⟨hok,hiff.1 rfl⟩
    ·exact hQ q (by omega)
 have d1:decide ((p:Int)<sh.p)=false:=decide_eq_false hlt
 simp only[e5,e1,e2,hx1,r0,r1,d1,↓DD,UU,↓reduceIte,xA,xB,xC,xD,xE,xF,xG,xH,xI,xJ,xK,xL,xM,xN,xO,xP,xQ,ne_eq,eq_self]
 refine loop_intro (vsoB sh ws n cap a x (sg x (.cells #[.int .i64 sh.p,.int .i64 sh.c,.int .i64 sh.m] 23 (0,0)) :: h :: l)) (fun F' _=>(sh.c - iv (gt F' 9)).toNat)
  ⟨0,0,0,none,_,fun _=>(0,0),by omega,by simp [gt],by simp [gt],.inl ⟨rfl,rfl,rfl,rfl⟩,Seen.zero,by omega,⟨by simp [gt,e1],by simp [gt,e2]⟩,hS.nothing⟩ ?_
 have hPG:∀ q:Nat,(q:Int)<sh.p→okPg sh q (pgAt sh ws q)=true∧SpB sh ws q (pgK sh q (pgAt sh ws q)) (pgA sh q (pgAt sh ws q)):=fun q hq=>hQ q (by omega)
 clear hS hx1 r1 r0 e1 e2 e5 hlt d1
 rintro F' H' ⟨c,k,ecap,es,g,E,hc,e9,e8,hE,hSeen,hk,⟨e1,e2⟩,hS⟩
 have hx1:=hS.lk 1 rfl
 have r1:=fun o n=>rdn_of hx1 o n
 have r0:=fun o=>rd_of hx1 o
 by_cases hcl:(c:Int)<sh.c
 rotate_left
 ·have d1:decide ((c:Int)<sh.c)=false:=decide_eq_false hcl
  simp only[e9,e8,e1,e2,hx1,r0,r1,d1,↓DD,UU,↓reduceIte,xA,xB,xC,xD,xE,xF,xG,xH,xI,xJ,xK,xL,xM,xN,xO,xP,xQ,ne_eq,eq_self]
  exact⟨_,rfl,⟨fun _=>hSeen.snd hcl hPG,fun _=>rfl⟩,hS.tail.tail⟩
 have d1:decide ((c:Int)<sh.c)=true:=decide_eq_true hcl
 have wc:w64 ((c:Int)+1)=(c:Int)+1:=w64_eq (by omega) (by omega)
 simp only[e9,e8,e1,e2,hx1,r0,r1,d1,↓DD,UU,↓reduceIte,xA,xB,xC,xD,xE,xF,xG,xH,xI,xJ,xK,xL,xM,xN,xO,xP,xQ,ne_eq,eq_self]
 refine loop_intro (vsoC sh ws c n cap a x (sg x (.cells #[.int .i64 sh.p,.int .i64 sh.c,.int .i64 sh.m] 23 (0,0)) :: h :: l)) (fun F' _=>(sh.m - iv (gt F' 10)).toNat)
  ⟨0,k,ecap,es,g,E,by omega,by simp [gt],by simp [gt,e9],by simp [gt,e8],hE,hSeen,by omega,⟨by simp [gt,e1],by simp [gt,e2]⟩,hS⟩ ?_
 have e9o:=e9
 clear hS hx1 r1 r0 e1 e2 e9 e8 d1 hE hk hSeen
 rintro F'' H' ⟨i,k,ecap,es,g,E,hi,e10,e9,e8,hE,hSeen,hk,⟨e1,e2⟩,hS⟩
 have hx1:=hS.lk 1 rfl
 have r1:=fun o n=>rdn_of hx1 o n
 have r0:=fun o=>rd_of hx1 o
 by_cases hil:(i:Int)<sh.m
 rotate_left
 ·have d1:decide ((i:Int)<sh.m)=false:=decide_eq_false hil
  simp only[e10,e9,e8,e1,e2,hx1,r0,r1,d1,wrap_w64,wc,↓DD,UU,↓reduceIte,xA,xB,xC,xD,xE,xF,xG,xH,xI,xJ,xK,xL,xM,xN,xO,xP,xQ,ne_eq,eq_self]
  exact⟨⟨c+1,k,ecap,es,g,E,by omega,by simp [gt,wc],by simp [gt,e8],hE,hSeen.row hil,by omega,⟨by simp [gt,e1],by simp [gt,e2]⟩,hS⟩,by simp [gt,iv,e9o,e9,wc];omega⟩
 have d1:decide ((i:Int)<sh.m)=true:=decide_eq_true hil
 have wi:w64 ((i:Int)+1)=(i:Int)+1:=w64_eq (by omega) (by omega)
 have hmg:mag sh.p sh.c sh.m (c:Int) (i:Int)=sh.c+sh.p+sh.p*16+(c:Int)*sh.m+(i:Int):=mag_yes hm (by omega) hcl (by omega) hil
 have hcm:(c:Int)*sh.m+sh.m≤sh.c*sh.m:=by
  have:((c:Int)+1)*sh.m≤sh.c*sh.m:=Int.mul_le_mul_of_nonneg_right (by omega) (by omega)
  rw[Int.add_mul,Int.one_mul]at this;exact this
 have hcm0:0≤(c:Int)*sh.m:=Int.mul_nonneg (by omega) (by omega)
 obtain⟨at',hat⟩:∃ at',sh.c+sh.p+sh.p*16+(c:Int)*sh.m+(i:Int)=at':=⟨_,rfl⟩
 rw[hat]at hmg
 have p0:0≤at':=by omega
 have p1:at'<(n:Int):=by omega
 obtain⟨xb,xo,rfl,hrd⟩:=(hr.sub (hS.sb h (by simp))).at' (i:=at'.toNat) (by omega)
 have hu:U (ws at'.toNat):=hU _ (by omega)
 obtain⟨w,hww⟩:∃ w,ws at'.toNat=w:=⟨_,rfl⟩
 rw[hww]at hrd hu
 have hmw:mgAt sh ws c i=w:=by unfold mgAt;rw[hat];exact hww
 cases hz:(w == 0)
 rotate_left
 ·simp only[e10,e9,e8,e1,e2,hx1,r0,r1,d1,u_mag,hmg,p0,p1,hrd,hz,wrap_w64,wi,↓DD,UU,↓reduceIte,xA,xB,xC,xD,xE,xF,xG,xH,xI,xJ,xK,xL,xM,xN,xO,xP,xQ,ne_eq,eq_self]
  exact⟨⟨i+1,k,ecap,es,g,E,by omega,by simp [gt,wi],by simp [gt,e9],by simp [gt,e8],hE,hSeen.skip (hmw.trans (beq_iff_eq.1 hz)),by omega,⟨by simp [gt,e1],by simp [gt,e2]⟩,hS⟩,by simp [gt,iv,e10,wi];omega⟩
 simp only[e10,e9,e8,e1,e2,hx1,r0,r1,d1,u_mag,hmg,p0,p1,hrd,hz,u_readen sh hu,↓DD,UU,↓reduceIte,xA,xB,xC,xD,xE,xF,xG,xH,xI,xJ,xK,xL,xM,xN,xO,xP,xQ,ne_eq,eq_self]
 refine newB_intro fun y hy f3 f4=>?_
 have hS:=hS.new f3 (.cells #[.int .i64 0,.int .i64 0,.int .i64 0] 73 (0,0))
 have hS:=hS.set (.cells #[.int .i64 (enP sh w),.int .i64 (enS sh w),.int .i64 (enK sh w)] 73 (0,0))
 rw[Ev.upd_upd]at hS
 have hyx:=hS.neq 0 2 (by decide) rfl rfl
 have hxy:=hS.qen 0 2 (by decide) rfl rfl
 have hnz:mgAt sh ws c i≠0:=by rw[hmw];exact beq_eq_false_iff_ne.1 hz
 have hEn:Snd sh ws→EnB sh ws c w:=fun hP=>by have h9:=hP.en c i hcl hil hnz;rw[hmw]at h9;exact h9
 cases hok:okEn sh w
 ·simp only[e10,e9,e8,e1,e2,hok,Ev.upd_upd,↓DD,UU,↓reduceIte,xA,xB,xC,xD,xE,xF,xG,xH,xI,xJ,xK,xL,xM,xN,xO,xP,xQ,ne_eq,eq_self]
  exact⟨_,rfl,⟨fun hh=>(by cases hh),fun hP=>(by have h9:=(hEn hP).ok;rw[hok]at h9;cases h9)⟩,hS.tail.tail.tail⟩
 obtain⟨hep,hes⟩:=okEn_in hm hok
 obtain⟨ep,hepp⟩:∃ ep,enP sh w=ep:=⟨_,rfl⟩
 obtain⟨e_s,hess⟩:∃ e_s,enS sh w=e_s:=⟨_,rfl⟩
 obtain⟨ek,hekk⟩:∃ ek,enK sh w=ek:=⟨_,rfl⟩
 rw[hepp]at hep
 rw[hess]at hes
 rw[hepp,hess,hekk]at hS
 simp only[e10,e9,e8,e1,e2,hok,hepp,hess,hekk,Ev.upd_upd,hx1,r0,r1,hyx,hxy,↓DD,UU,↓reduceIte,xA,xB,xC,xD,xE,xF,xG,xH,xI,xJ,xK,xL,xM,xN,xO,xP,xQ,ne_eq,eq_self]
 refine callT_of (c_spage ep hm hn hr hU hS.p3) ?_
 rintro v H' ⟨rfl,hS⟩
 have hy1:=hS.lk 1 rfl
 have hx1:=hS.lk 3 rfl
 have r1:=fun o n=>rdn_of hx1 o n
 have r0:=fun o=>rd_of hx1 o
 have r2:=fun o=>rd_of hy1 o
 have r2n:=fun o n=>rdn_of hy1 o n
 have hyx:=hS.neq 1 3 (by decide) rfl rfl
 have hxy:=hS.qen 1 3 (by decide) rfl rfl
 have hsl:slot sh.p sh.c sh.m ep e_s=sh.c+sh.p+ep*16+e_s:=slot_yes hm hep.1 hep.2 hes.1 hes.2
 have q0:(0:Int)≤sh.c+sh.p+ep*16+e_s:=by omega
 have q1:sh.c+sh.p+ep*16+e_s<(n:Int):=by omega
 obtain⟨xb2,xo2,hxe,hrd2⟩:=(hr.sub (hS.sb h (by simp))).at' (i:=(sh.c+sh.p+ep*16+e_s).toNat) (by omega)
 cases hxe
 simp only[e10,e9,e8,e1,e2,↓DD,UU,↓reduceIte,xA,xB,xC,xD,xE,xF,xG,xH,xI,xJ,xK,xL,xM,xN,xO,xP,xQ,ne_eq,eq_self]
 refine newB_intro fun z hz2 f5 f6=>?_
 have nxz:(x=z)=False:=f5 x (by rw[hx1];rfl)
 have nzx:(z=x)=False:=f6 x (by rw[hx1];rfl)
 have nyz:(y=z)=False:=f5 y (by rw[hy1];rfl)
 have nzy:(z=y)=False:=f6 y (by rw[hy1];rfl)
 have nbz:(xb=z)=False:=f5 xb (by obtain⟨c,T,f,hc,-⟩:=cells_of hrd2;rw[hc];rfl)
 obtain⟨pK,hpK⟩:∃ pK,pgK sh ep (spX sh ws ep)=pK:=⟨_,rfl⟩
 obtain⟨pA,hpA⟩:∃ pA,pgA sh ep (spX sh ws ep)=pA:=⟨_,rfl⟩
 obtain⟨pB,hpB⟩:∃ pB,pgB sh ep (spX sh ws ep)=pB:=⟨_,rfl⟩
 have hS:=hS.new f5 (.cells #[.int .i64 0,.int .i64 0,.int .i64 0] 66 (0,0))
 have hS:=hS.set (.cells #[.int .i64 pK,.int .i64 pA,.int .i64 pB] 66 (0,0))
 rw[Ev.upd_upd]at hS
 have hSt:=hS.tail
 cases c1:(pK != 2)
 rotate_left
 ·simp only[e10,e9,e8,e1,e2,hpK,hpA,hpB,Ev.upd_upd,nxz,nzx,nyz,nzy,nbz,hx1,hy1,r0,r1,r2,hyx,hxy,c1,↓DD,UU,↓reduceIte,xA,xB,xC,xD,xE,xF,xG,xH,xI,xJ,xK,xL,xM,xN,xO,xP,xQ,ne_eq,eq_self]
  exact⟨_,rfl,⟨fun hh=>(by cases hh),fun hP=>(by have h9:=(hEn hP).k;rw[hepp]at h9;rw[← hpK]at c1;have h8:=c1;simp at h8;exact absurd h9 h8)⟩,hSt.p1.tail.p1.tail.p1.tail⟩
 cases c2:(pA != ek)
 rotate_left
 ·simp only[e10,e9,e8,e1,e2,hpK,hpA,hpB,Ev.upd_upd,nxz,nzx,nyz,nzy,nbz,hx1,hy1,r0,r1,r2,hyx,hxy,c1,c2,↓DD,UU,↓reduceIte,xA,xB,xC,xD,xE,xF,xG,xH,xI,xJ,xK,xL,xM,xN,xO,xP,xQ,ne_eq,eq_self]
  exact⟨_,rfl,⟨fun hh=>(by cases hh),fun hP=>(by have h9:=(hEn hP).a;rw[hepp,hekk]at h9;rw[← hpA]at c2;have h8:=c2;simp at h8;exact absurd h9 h8)⟩,hSt.p1.tail.p1.tail.p1.tail⟩
 cases c3:(ws (sh.c+sh.p+ep*16+e_s).toNat != putSl 2 (c:Int))
 rotate_left
 ·simp only[e10,e9,e8,e1,e2,hpK,hpA,hpB,Ev.upd_upd,nxz,nzx,nyz,nzy,nbz,hx1,hy1,r0,r1,r2,hyx,hxy,c1,c2,u_slot,hsl,q0,q1,hrd2,u_putsl,c3,↓DD,UU,↓reduceIte,xA,xB,xC,xD,xE,xF,xG,xH,xI,xJ,xK,xL,xM,xN,xO,xP,xQ,ne_eq,eq_self]
  exact⟨_,rfl,⟨fun hh=>(by cases hh),fun hP=>(by have h9:=(hEn hP).w;rw[hepp,hess]at h9;have h8:=c3;simp at h8;exact absurd h9 h8)⟩,hSt.p1.tail.p1.tail.p1.tail⟩
 simp only[e10,e9,e8,e1,e2,hpK,hpA,hpB,Ev.upd_upd,nxz,nzx,nyz,nzy,nbz,hx1,hy1,r0,r1,r2,hyx,hxy,c1,c2,u_slot,hsl,q0,q1,hrd2,u_putsl,c3,↓DD,UU,↓reduceIte,xA,xB,xC,xD,xE,xF,xG,xH,xI,xJ,xK,xL,xM,xN,xO,xP,xQ,ne_eq,eq_self]
 refine loop_intro (vsoD E (ep,e_s) c i k ecap es y n cap (some ⟨xb,xo,none⟩) x (g :: sg y (.cells #[.int .i64 ep,.int .i64 e_s,.int .i64 ek] 73 (0,0)) :: sg x (.cells #[.int .i64 sh.p,.int .i64 sh.c,.int .i64 sh.m] 23 (0,0)) :: h :: l)) (fun F' _=>(k - iv (gt F' 16)).toNat)
  ⟨0,by omega,by simp [gt],by simp [gt],by simp [gt,e10],by simp [gt,e9],by simp [gt,e8],⟨by simp [gt,e1],by simp [gt,e2]⟩,hSt.p3.p2.p3,fun q hq=>by omega⟩ ?_
 have e10o:=e10
 clear hS hSt hx1 hy1 r0 r1 r2 r2n hrd hrd2 e10 e9 e8 e1 e2 nbz
 rintro F3 H' ⟨j,hj,e16,e12,e10,e9,e8,⟨e1,e2⟩,hS,hNo⟩
 have hy1:=hS.lk 1 rfl
 have r2:=fun o=>rd_of hy1 o
 have r2n:=fun o n=>rdn_of hy1 o n
 by_cases hjk:j<k
 ·have d2:decide ((j:Int)<(k:Int))=true:=decide_eq_true (by omega)
  have j0:(0:Int)≤(j:Int):=by omega
  have j1:(j:Int)<(k:Int):=by omega
  have wj:w64 ((j:Int)+1)=(j:Int)+1:=w64_eq (by omega) (by omega)
  obtain⟨sz,rfl,g1,g2⟩:=hE.rd hS (by simp) hjk
  obtain⟨v1,hv1⟩:∃ v1,(E j).1=v1:=⟨_,rfl⟩
  obtain⟨v2,hv2⟩:∃ v2,(E j).2=v2:=⟨_,rfl⟩
  rw[hv1]at g1
  rw[hv2]at g2
  cases t1:(v1 == ep)
  ·simp only[e16,e12,e10,e9,e8,e1,e2,hy1,r2,d2,j0,j1,Int.toNat_natCast,Nat.zero_add,Nat.add_zero,g1,g2,t1,wrap_w64,wj,↓DD,UU,↓reduceIte,xA,xB,xC,xD,xE,xF,xG,xH,xI,xJ,xK,xL,xM,xN,xO,xP,xQ,ne_eq,eq_self]
   exact⟨⟨j+1,by omega,by simp [gt,wj],by simp [gt,e12],by simp [gt,e10],by simp [gt,e9],by simp [gt,e8],⟨by simp [gt,e1],by simp [gt,e2]⟩,hS,fun q hq=>(by
     by_cases e:q=j
     ·subst e;intro h9;rw[h9]at hv1;rw[← hv1]at t1;simp at t1
     ·exact hNo q (by omega))⟩,by simp [gt,iv,e16,wj];omega⟩
  ·cases t2:(v2 == e_s)
   ·simp only[e16,e12,e10,e9,e8,e1,e2,hy1,r2,d2,j0,j1,Int.toNat_natCast,Nat.zero_add,Nat.add_zero,g1,g2,t1,t2,wrap_w64,wj,↓DD,UU,↓reduceIte,xA,xB,xC,xD,xE,xF,xG,xH,xI,xJ,xK,xL,xM,xN,xO,xP,xQ,ne_eq,eq_self]
    exact⟨⟨j+1,by omega,by simp [gt,wj],by simp [gt,e12],by simp [gt,e10],by simp [gt,e9],by simp [gt,e8],⟨by simp [gt,e1],by simp [gt,e2]⟩,hS,fun q hq=>(by
     by_cases e:q=j
     ·subst e;intro h9;rw[h9]at hv2;rw[← hv2]at t2;simp at t2
     ·exact hNo q (by omega))⟩,by simp [gt,iv,e16,wj];omega⟩
   ·simp only[e16,e12,e10,e9,e8,e1,e2,hy1,r2,d2,j0,j1,Int.toNat_natCast,Nat.zero_add,Nat.add_zero,g1,g2,t1,t2,↓DD,UU,↓reduceIte,xA,xB,xC,xD,xE,xF,xG,xH,xI,xJ,xK,xL,xM,xN,xO,xP,xQ,ne_eq,eq_self]
    exact⟨_,rfl,⟨fun hh=>(by cases hh),fun hP=>(hP.once hSeen hcl hil hnz hjk (by rw[hmw];unfold enE;rw[hepp,hess];exact Prod.ext (hv1.trans (beq_iff_eq.1 t1)) (hv2.trans (beq_iff_eq.1 t2)))).elim⟩,hS.tail.tail.tail⟩
 have d2:decide ((j:Int)<(k:Int))=false:=decide_eq_false (by omega)
 simp only[e16,e12,e10,e9,e8,e1,e2,hy1,r2n,d2,↓DD,UU,↓reduceIte,xA,xB,xC,xD,xE,xF,xG,xH,xI,xJ,xK,xL,xM,xN,xO,xP,xQ,ne_eq,eq_self]
 refine newB_intro fun u hu2 f7 f8=>?_
 have hS2:=hS.new f7 (.cells #[.int .i64 ep,.int .i64 e_s,.int .i64 ek] 73 (0,0))
 have ha:rds (upd H' u (.cells #[.int .i64 ep,.int .i64 e_s,.int .i64 ek] 73 (0,0))) (some ⟨u,0,none⟩) 3=some #[.int .i64 ep,.int .i64 e_s,.int .i64 ek]:=by
  simp only[rds,↓DD,UU,↓reduceIte,xA,xB,xC,xD,xE,xF,xG,xH,xI,xJ,xK,xL,xM,xN,xO,xP,xQ,ne_eq,eq_self]
 simp only[ha,e8,↓DD,UU,↓reduceIte,xA,xB,xC,xD,xE,xF,xG,xH,xI,xJ,xK,xL,xM,xN,xO,xP,xQ,ne_eq,eq_self]
 refine grow3V hE (by omega) hS2.p1 (fun g2 H2 hG2 hS3=>?_) (fun old cap2 b2 hG2 hS3=>?_)
 all_goals
  have hEB:EnB sh ws c (mgAt sh ws c i):=by
   rw[hmw]
   refine⟨hok,?_,?_,?_⟩
   ·rw[hepp];have h8:=c1;simp at h8;exact hpK.trans h8
   ·rw[hepp,hekk];have h8:=c2;simp at h8;exact hpA.trans h8
   ·rw[hepp,hess];have h8:=c3;simp at h8;exact h8
  have hee:enE sh (mgAt sh ws c i)=(ep,e_s):=by rw[hmw];unfold enE;rw[hepp,hess]
  have hSA:=hSeen.add hcl hil hnz hEB (fun q hq=>by rw[hee];exact hNo q (by omega))
  rw[hee]at hSA
  simp only[e16,e12,e10,e9,e8,e1,e2,wrap_w64,wi,↓DD,UU,↓reduceIte,xA,xB,xC,xD,xE,xF,xG,xH,xI,xJ,xK,xL,xM,xN,xO,xP,xQ,ne_eq,eq_self]
  exact⟨⟨i+1,k+1,_,_,_,_,by omega,by simp [gt,wi],by simp [gt,e9],by simp [gt],hG2,hSA,by omega,⟨by simp [gt,e1],by simp [gt,e2]⟩,hS3.p1.tail.p1.tail⟩,by simp [gt,iv,e10o,e10,wi];omega⟩
end
end Go.Proofs.YtbcdaglbdnkocaaGreat
