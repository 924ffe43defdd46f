/-
What a status's word says: the program's and the document's, as pure functions. Conditions: none.
The document's count of a heap's words: walked. Conditions: none.
Who holds an address, as the document tells it, exactly. Conditions: none.
Who lives, by its status: the document's answer. Conditions: none.
-/
import Derived.Test.YtbcdaglbdnkocaaGreatRefPack
import Derived.Test.YtbcdaglbdnkocaaGreatMaSo
import Derived.Test.YtbcdaglbdnkocaaGreatCodeX
import Derived.Test.YtbcdaglbdnkocaaGreatSoundA
import Derived.Test.YtbcdaglbdnkocaaGreatCut
import Derived.Test.YtbcdaglbdnkocaaGreatAlt
open Nat renaming reduceAdd→xA,reduceMul→xB,reduceSub→xC,reduceEqDiff→xD,reduceBEq→xE,reduceLeDiff→xF,reduceLT→xG
open Int renaming reduceAdd→xH,reduceMul→xI,reduceSub→xJ,reduceLT→xK,reduceLE→xL,reduceToNat→xM,reduceEq→xN,reduceNe→xO,reduceBEq→xP,reduceBNe→xQ
set_option linter.unusedVariables false
set_option linter.unusedSimpArgs false
set_option maxRecDepth 8000
namespace Go.Proofs.YtbcdaglbdnkocaaGreat
open Go Go.Ev Go.Pl Go.Ma

theorem putSt_no {k a:Int} (h:¬ (0≤k∧k≤4∧0≤a∧a≤255∧(k≠3→a=0))):putSt k a=0:=if_neg h
theorem putSt_yes {k a:Int} (h:0≤k∧k≤4∧0≤a∧a≤255∧(k≠3→a=0)):putSt k a=k+16*a:=if_pos h
theorem p_putst (k a:Int):PureC Tryz.prog 108 #[.int .i64 k,.int .i64 a] (.int .u64 (putSt k a)):=by
 refine PureC.of mixed Tryz.func108 (by kernel_rfl) tr108 (by show 2≤_;decide) fun W H=>?_
 by_cases h1:k<0
 ·have e0:putSt k a=0:=putSt_no (by omega)
  simp only[decide_eq_true h1,e0,↓DD,UU,↓reduceIte,xA,xB,xC,xD,xE,xF,xG,xH,xI,xJ,xK,xL,xM,xN,xO,xP,xQ,ne_eq,eq_self];exact Sub.refl H
 have e1:=decide_eq_false h1
 by_cases h2:4<k
 ·have e0:putSt k a=0:=putSt_no (by omega)
  simp only[e1,decide_eq_true h2,e0,↓DD,UU,↓reduceIte,xA,xB,xC,xD,xE,xF,xG,xH,xI,xJ,xK,xL,xM,xN,xO,xP,xQ,ne_eq,eq_self];exact Sub.refl H
 have e2:=decide_eq_false h2
 by_cases h3:k=3
 ·have g1:(k != 3)=false:=by simp [h3]
  simp only[e1,e2,g1,↓DD,UU,↓reduceIte,xA,xB,xC,xD,xE,xF,xG,xH,xI,xJ,xK,xL,xM,xN,xO,xP,xQ,ne_eq,eq_self]
  refine newB_intro fun y hy f3 f4=>?_
  refine callT_of (c_put1 k a (by omega) (upd_same ..)) ?_
  rintro v H' ⟨rfl,rfl⟩
  simp only[↓DD,UU,↓reduceIte,xA,xB,xC,xD,xE,xF,xG,xH,xI,xJ,xK,xL,xM,xN,xO,xP,xQ,ne_eq,eq_self]
  refine⟨?_,(Sub.refl H).new f3⟩
  congr 1;unfold putSt;by_cases hr:0≤a∧a≤255
  ·rw[if_pos hr,if_pos (by omega)]
  ·rw[if_neg hr,if_neg (by omega)]
 ·have g1:(k != 3)=true:=by simp [h3]
  by_cases h4:a=0
  ·have g2:(a != 0)=false:=by simp [h4]
   simp only[e1,e2,g1,g2,↓DD,UU,↓reduceIte,xA,xB,xC,xD,xE,xF,xG,xH,xI,xJ,xK,xL,xM,xN,xO,xP,xQ,ne_eq,eq_self]
   refine newB_intro fun y hy f3 f4=>?_
   refine callT_of (c_put1 k a (by omega) (upd_same ..)) ?_
   rintro v H' ⟨rfl,rfl⟩
   simp only[↓DD,UU,↓reduceIte,xA,xB,xC,xD,xE,xF,xG,xH,xI,xJ,xK,xL,xM,xN,xO,xP,xQ,ne_eq,eq_self]
   refine⟨?_,(Sub.refl H).new f3⟩
   congr 1;unfold putSt;rw[if_pos (by omega),if_pos (by omega)]
  ·have g2:(a != 0)=true:=by simp [h4]
   have e0:putSt k a=0:=putSt_no (by omega)
   simp only[e1,e2,g1,g2,e0,↓DD,UU,↓reduceIte,xA,xB,xC,xD,xE,xF,xG,xH,xI,xJ,xK,xL,xM,xN,xO,xP,xQ,ne_eq,eq_self];exact Sub.refl H
theorem v_putst (k a:Int):pv Tryz.prog 108 #[.int .i64 k,.int .i64 a] = some (.int .u64 (putSt k a)):=pv_of (p_putst k a)
theorem p_readst {w:Int} (hw:U w):PureC Tryz.prog 105 #[.int .u64 w] (.tuple #[.int .i64 (stK w),.int .i64 (stB w)]):=by
 refine PureC.of mixed Tryz.func105 (by kernel_rfl) tr105 (by show 1≤_;decide) fun W H=>?_
 by_cases e1:putSt (w % 16) (pt w 16)=w
 ·have g1:(putSt (w % 16) (pt w 16) != w)=false:=by simp [e1]
  have k1:stK w=w % 16:=if_pos e1
  have k2:stB w=pt w 16:=if_pos e1
  simp only[v_kind hw,v_part0 hw,v_putst,g1,k1,k2,↓DD,UU,↓reduceIte,xA,xB,xC,xD,xE,xF,xG,xH,xI,xJ,xK,xL,xM,xN,xO,xP,xQ,ne_eq,eq_self]
  exact Sub.refl H
 ·have g1:(putSt (w % 16) (pt w 16) != w)=true:=by simp [e1]
  have k1:stK w=0:=if_neg e1
  have k2:stB w=0:=if_neg e1
  simp only[v_kind hw,v_part0 hw,v_putst,g1,k1,k2,↓DD,UU,↓reduceIte,xA,xB,xC,xD,xE,xF,xG,xH,xI,xJ,xK,xL,xM,xN,xO,xP,xQ,ne_eq,eq_self]
  exact Sub.refl H
theorem v_readst {w:Int} (hw:U w):pv Tryz.prog 105 #[.int .u64 w] = some (.tuple #[.int .i64 (stK w),.int .i64 (stB w)]):=pv_of (p_readst hw)
theorem q_putst (k a:Int):PureC Tryz.prog 8 #[.int .i64 k,.int .i64 a] (.int .u64 (putSt k a)):=by
 refine PureC.of mixed Tryz.func8 (by kernel_rfl) tr8 (by show 2≤_;decide) fun W H=>?_
 by_cases h1:k<0
 ·have e0:putSt k a=0:=putSt_no (by omega)
  simp only[decide_eq_true h1,e0,↓DD,UU,↓reduceIte,xA,xB,xC,xD,xE,xF,xG,xH,xI,xJ,xK,xL,xM,xN,xO,xP,xQ,ne_eq,eq_self];exact Sub.refl H
 have e1:=decide_eq_false h1
 by_cases h2:4<k
 ·have e0:putSt k a=0:=putSt_no (by omega)
  simp only[e1,decide_eq_true h2,e0,↓DD,UU,↓reduceIte,xA,xB,xC,xD,xE,xF,xG,xH,xI,xJ,xK,xL,xM,xN,xO,xP,xQ,ne_eq,eq_self];exact Sub.refl H
 have e2:=decide_eq_false h2
 by_cases h3:0≤a∧a≤255
 rotate_left
 ·have e0:putSt k a=0:=putSt_no (by omega)
  simp only[e1,e2,u_byte8,b8_no h3,e0,↓DD,UU,↓reduceIte,xA,xB,xC,xD,xE,xF,xG,xH,xI,xJ,xK,xL,xM,xN,xO,xP,xQ,ne_eq,eq_self];exact Sub.refl H
 have w1:wu k=k:=wu_eq (by omega) (by omega)
 have w2:wu a=a:=wu_eq (by omega) (by omega)
 have s1:=shl4 (a:=a) (by omega) (by omega)
 have t1:=or4 (k:=k) (a:=a) (by omega) (by omega) (by omega) (by omega)
 by_cases h4:k=3
 ·have g1:(k != 3)=false:=by simp [h4]
  have e0:putSt k a=k+16*a:=putSt_yes (by omega)
  simp only[e1,e2,u_byte8,b8_yes h3,g1,e0,wrap_wu,w1,w2,s1,t1,↓DD,UU,↓reduceIte,xA,xB,xC,xD,xE,xF,xG,xH,xI,xJ,xK,xL,xM,xN,xO,xP,xQ,ne_eq,eq_self];exact Sub.refl H
 ·have g1:(k != 3)=true:=by simp [h4]
  by_cases h5:a=0
  ·have g2:(a != 0)=false:=by simp [h5]
   have e0:putSt k a=k+16*a:=putSt_yes (by omega)
   simp only[e1,e2,u_byte8,b8_yes h3,g1,g2,e0,wrap_wu,w1,w2,s1,t1,↓DD,UU,↓reduceIte,xA,xB,xC,xD,xE,xF,xG,xH,xI,xJ,xK,xL,xM,xN,xO,xP,xQ,ne_eq,eq_self];exact Sub.refl H
  ·have g2:(a != 0)=true:=by simp [h5]
   have e0:putSt k a=0:=putSt_no (by omega)
   simp only[e1,e2,u_byte8,b8_yes h3,g1,g2,e0,↓DD,UU,↓reduceIte,xA,xB,xC,xD,xE,xF,xG,xH,xI,xJ,xK,xL,xM,xN,xO,xP,xQ,ne_eq,eq_self];exact Sub.refl H
theorem u_putst (k a:Int):pv Tryz.prog 8 #[.int .i64 k,.int .i64 a] = some (.int .u64 (putSt k a)):=pv_of (q_putst k a)
theorem q_readst {w:Int} (hw:U w):PureC Tryz.prog 102 #[.int .u64 w] (.tuple #[.int .i64 (stK w),.int .i64 (stB w)]):=by
 refine PureC.of mixed Tryz.func102 (by kernel_rfl) tr102 (by show 1≤_;decide) fun W H=>?_
 have a0:bits .and .u64 w 15=w % 16:=and15 hw
 have a1:bits .and .u64 (w / 16) 255=pt w 16:=and255 (U_div hw 16 (by decide))
 have b0:w64 (w % 16)=w % 16:=w64_nib
 have b1:w64 (pt w 16)=pt w 16:=w64_byte
 by_cases e1:putSt (w % 16) (pt w 16)=w
 ·have g1:(putSt (w % 16) (pt w 16) != w)=false:=by simp [e1]
  have k1:stK w=w % 16:=if_pos e1
  have k2:stB w=pt w 16:=if_pos e1
  simp only[shr4,a0,a1,wrap_w64,b0,b1,u_putst,g1,k1,k2,↓DD,UU,↓reduceIte,xA,xB,xC,xD,xE,xF,xG,xH,xI,xJ,xK,xL,xM,xN,xO,xP,xQ,ne_eq,eq_self]
  exact Sub.refl H
 ·have g1:(putSt (w % 16) (pt w 16) != w)=true:=by simp [e1]
  have k1:stK w=0:=if_neg e1
  have k2:stB w=0:=if_neg e1
  simp only[shr4,a0,a1,wrap_w64,b0,b1,u_putst,g1,k1,k2,↓DD,UU,↓reduceIte,xA,xB,xC,xD,xE,xF,xG,xH,xI,xJ,xK,xL,xM,xN,xO,xP,xQ,ne_eq,eq_self]
  exact Sub.refl H
theorem u_readst {w:Int} (hw:U w):pv Tryz.prog 102 #[.int .u64 w] = some (.tuple #[.int .i64 (stK w),.int .i64 (stB w)]):=pv_of (q_readst hw)
end Go.Proofs.YtbcdaglbdnkocaaGreat
set_option linter.unusedSectionVars false
set_option maxRecDepth 8000
namespace Go.Proofs.YtbcdaglbdnkocaaGreat
open Go Go.Ev Go.Pl Go.Ma
section
variable {W:World} {H h:Hp} {l:List Hp} {n cap:Nat} {a:Option Addr} {ws:Nat→Int} {sh:Sh}
theorem c_pholdx (q:Int) (hm:may sh.p sh.c sh.m=true) (hn:(n:Int)=words sh.p sh.c sh.m) (hr:RowU h a n ws) (hU:∀ i,i<n→U (ws i)) (hS:Sep (h :: l) H) :
  CallP Tryz.prog W 55 #[.agg #[.int .i64 sh.p,.int .i64 sh.c,.int .i64 sh.m],.slice a n cap,.int .i64 q] H fun v H'=>v=.tuple #[.int .i64 (Cn.who sh ws q),.bool (Cn.held sh ws q)]∧Sep (h :: l) H':=by
 refine CallP.of mixed Tryz.func55 tr55 (by show 3≤_;decide) fun W _=>?_
 have hKn:∀ q x,pgK sh q x≠0→okPg sh q x=true:=fun q x g=>by
  cases e:okPg sh q x
  ·unfold pgK at g;rw[e]at g;simp at g
  ·rfl
 simp only[↓DD,UU,↓reduceIte,xA,xB,xC,xD,xE,xF,xG,xH,xI,xJ,xK,xL,xM,xN,xO,xP,xQ,ne_eq,eq_self]
 refine newB_intro fun x hx f1 f2=>?_
 have hS:=(hS.new f1 (.cells #[.int .i64 sh.p,.int .i64 sh.c,.int .i64 sh.m] 23 (0,0)))
 have hx1:=hS.look
 have r1:=fun o n=>rdn_of hx1 o n
 simp only[hx1,r1,↓DD,UU,↓reduceIte,xA,xB,xC,xD,xE,xF,xG,xH,xI,xJ,xK,xL,xM,xN,xO,xP,xQ,ne_eq,eq_self]
 refine callT_of (c_spage q hm hn hr hU hS.p1) ?_
 rintro v H' ⟨rfl,hS⟩
 have hx1:=hS.lk 1 rfl
 have hpat:spX sh ws q=pgAt sh ws q:=rfl
 simp only[hpat,↓DD,UU,↓reduceIte,xA,xB,xC,xD,xE,xF,xG,xH,xI,xJ,xK,xL,xM,xN,xO,xP,xQ,ne_eq,eq_self]
 refine newB_intro fun y hy f3 f4=>?_
 have nxy:(x=y)=False:=f3 x (by rw[hx1];rfl)
 have nyx:(y=x)=False:=f4 x (by rw[hx1];rfl)
 have hS:=hS.new f3 (.cells #[.int .i64 (pgK sh q (pgAt sh ws q)),.int .i64 (pgA sh q (pgAt sh ws q)),.int .i64 (pgB sh q (pgAt sh ws q))] 66 (0,0))
 have r1:=fun o n=>rdn_of hx1 o n
 simp only[nxy,nyx,hx1,r1,Ev.upd_upd,↓DD,UU,↓reduceIte,xA,xB,xC,xD,xE,xF,xG,xH,xI,xJ,xK,xL,xM,xN,xO,xP,xQ,ne_eq,eq_self]
 rw[Ev.upd_upd]
 by_cases k4:pgK sh q (pgAt sh ws q)=4
 ·have hok:=hKn q (pgAt sh ws q) (by rw[k4];decide)
  have g4:(pgK sh q (pgAt sh ws q) == 4)=true:=beq_iff_eq.2 k4
  have eA:Cn.at' sh ws q=pgA sh q (pgAt sh ws q):=if_pos k4
  simp only[hok,g4,nxy,nyx,hx1,r1,Ev.upd_upd,↓DD,UU,↓reduceIte,xA,xB,xC,xD,xE,xF,xG,xH,xI,xJ,xK,xL,xM,xN,xO,xP,xQ,ne_eq,eq_self]
  refine callT_of (c_spage (pgA sh q (pgAt sh ws q)) hm hn hr hU hS.p1) ?_
  rintro v H' ⟨rfl,hS⟩
  unfold Cn.who Cn.held
  rw[eA]
  obtain⟨A,hA⟩:∃ A,pgA sh q (pgAt sh ws q)=A:=⟨_,rfl⟩
  have hpatA:spX sh ws A=pgAt sh ws A:=rfl
  have hy1:=hS.lk 1 rfl
  rw[hA]at hy1
  have hS:=(hS.p1.set (.cells #[.int .i64 (pgK sh A (pgAt sh ws A)),.int .i64 (pgA sh A (pgAt sh ws A)),.int .i64 (pgB sh A (pgAt sh ws A))] 66 (0,0)))
  have hy2:=hS.look
  have r2:=fun o=>rd_of hy2 o
  rw[hA]
  cases hok2:okPg sh A (pgAt sh ws A)
  ·have k1:(pgK sh A (pgAt sh ws A) == 1)=false:=by unfold pgK;rw[hok2];rfl
   simp only[hpatA,hy1,hy2,r2,hok2,k1,Ev.upd_upd,↓DD,UU,↓reduceIte,xA,xB,xC,xD,xE,xF,xG,xH,xI,xJ,xK,xL,xM,xN,xO,xP,xQ,ne_eq,eq_self]
   exact hS.tail.p1.tail
  ·cases k1:(pgK sh A (pgAt sh ws A) == 1)
   ·simp only[hpatA,hy1,hy2,r2,hok2,k1,Ev.upd_upd,↓DD,UU,↓reduceIte,xA,xB,xC,xD,xE,xF,xG,xH,xI,xJ,xK,xL,xM,xN,xO,xP,xQ,ne_eq,eq_self]
    exact hS.tail.p1.tail
   ·simp only[hpatA,hy1,hy2,r2,hok2,k1,Ev.upd_upd,↓DD,UU,↓reduceIte,xA,xB,xC,xD,xE,xF,xG,xH,xI,xJ,xK,xL,xM,xN,xO,xP,xQ,ne_eq,eq_self]
    exact hS.tail.p1.tail
 ·have g4:(pgK sh q (pgAt sh ws q) == 4)=false:=beq_eq_false_iff_ne.2 k4
  have eA:Cn.at' sh ws q=q:=if_neg k4
  unfold Cn.who Cn.held
  rw[eA]
  cases hok:okPg sh q (pgAt sh ws q)
  ·have k1:(pgK sh q (pgAt sh ws q) == 1)=false:=by unfold pgK;rw[hok];rfl
   simp only[hok,g4,k1,nxy,nyx,hx1,r1,Ev.upd_upd,↓DD,UU,↓reduceIte,xA,xB,xC,xD,xE,xF,xG,xH,xI,xJ,xK,xL,xM,xN,xO,xP,xQ,ne_eq,eq_self]
   exact hS.tail.p1.tail
  ·cases k1:(pgK sh q (pgAt sh ws q) == 1)
   ·simp only[hok,g4,k1,nxy,nyx,hx1,r1,Ev.upd_upd,↓DD,UU,↓reduceIte,xA,xB,xC,xD,xE,xF,xG,xH,xI,xJ,xK,xL,xM,xN,xO,xP,xQ,ne_eq,eq_self]
    exact hS.tail.p1.tail
   ·simp only[hok,g4,k1,nxy,nyx,hx1,r1,Ev.upd_upd,↓DD,UU,↓reduceIte,xA,xB,xC,xD,xE,xF,xG,xH,xI,xJ,xK,xL,xM,xN,xO,xP,xQ,ne_eq,eq_self]
    exact hS.tail.p1.tail
def cnV (c:Cn):Value:=.agg #[.int .i64 c.fr,.int .i64 c.ta,.int .i64 c.li,.int .i64 c.lo]
def Lives (P:Program) (f:Nat) (sh:Sh) (a:Option Addr) (n cap:Nat) (h:Hp) (liv:Int→Bool):Prop:=
 ∀ (W:World) (H:Hp) (l:List Hp) (c:Int),Sep (h :: l) H→CallP P W f #[.agg #[.int .i64 sh.p,.int .i64 sh.c,.int .i64 sh.m],.slice a n cap,.int .i64 c] H fun v H'=>v=.bool (liv c)∧Sep (h :: l) H'
def auC (c:Cn):Array Value:=#[.int .i64 c.fr,.int .i64 c.ta,.int .i64 c.li,.int .i64 c.lo]
def auI (liv:Int→Bool) (sh:Sh) (ws:Nat→Int) (q A:Int) (n0:Cn) (x y z n cap:Nat) (a:Option Addr) (L:List Hp) (F':Fr) (H':Hp):Prop:=
 ∃ i:Nat,(i:Int)≤slots A∧gt F' 12=.int .i64 (i:Int)∧(gt F' 11=.int .i64 (size A)∧gt F' 10=.pointer (some ⟨z,0,none⟩)∧gt F' 9=.pointer (some ⟨y,0,none⟩)∧gt F' 5=.pointer (some ⟨x,0,none⟩)∧gt F' 1=.slice a n cap∧gt F' 2=.int .i64 q∧gt F' 3=.int .i64 A) ∧
  Sep (sg z (.cells (auC Cn.z) 54 (0,0)) :: sg y (.cells (auC (Cn.slots liv sh ws q A n0 i)) 54 (0,0)) :: sg x (.cells #[.int .i64 sh.p,.int .i64 sh.c,.int .i64 sh.m] 23 (0,0)) :: L) H'
theorem c_slots20 {liv:Int→Bool} (q A:Int) (n0:Cn) (hL:Lives Tryz.prog 56 sh a n cap h liv) (q0:0≤q) (q1:q<sh.p) (hb:n0.Bd 100000) (hm:may sh.p sh.c sh.m=true) (hn:(n:Int)=words sh.p sh.c sh.m) (hr:RowU h a n ws) (hU:∀ i,i<n→U (ws i)) (hS:Sep (h :: l) H) :
  CallP Tryz.prog W 57 #[.agg #[.int .i64 sh.p,.int .i64 sh.c,.int .i64 sh.m],.slice a n cap,.int .i64 q,.int .i64 A,cnV n0] H fun v H'=>v=cnV (Cn.slots liv sh ws q A n0 (slots A).toNat)∧Sep (h :: l) H':=by
 refine CallP.of mixed Tryz.func57 tr57 (by show 5≤_;decide) fun W _=>?_
 simp only[cnV,↓DD,UU,↓reduceIte,xA,xB,xC,xD,xE,xF,xG,xH,xI,xJ,xK,xL,xM,xN,xO,xP,xQ,ne_eq,eq_self]
 refine newB_intro fun x hx f1 f2=>?_
 have hS:=(hS.new f1 (.cells #[.int .i64 sh.p,.int .i64 sh.c,.int .i64 sh.m] 23 (0,0)))
 have hx1:=hS.look
 have r1:=fun o n=>rdn_of hx1 o n
 simp only[hx1,r1,↓DD,UU,↓reduceIte,xA,xB,xC,xD,xE,xF,xG,xH,xI,xJ,xK,xL,xM,xN,xO,xP,xQ,ne_eq,eq_self]
 refine newB_intro fun y hy f3 f4=>?_
 have nxy:(x=y)=False:=f3 x (by rw[hx1];rfl)
 have nyx:(y=x)=False:=f4 x (by rw[hx1];rfl)
 have hS:=hS.new f3 (.cells #[.int .i64 n0.fr,.int .i64 n0.ta,.int .i64 n0.li,.int .i64 n0.lo] 54 (0,0))
 have hy1:=hS.look
 simp only[↓DD,UU,↓reduceIte,xA,xB,xC,xD,xE,xF,xG,xH,xI,xJ,xK,xL,xM,xN,xO,xP,xQ,ne_eq,eq_self]
 refine newB_intro fun z hz f5 f6=>?_
 have hx1:=hS.lk 1 rfl
 have nxz:(x=z)=False:=f5 x (by rw[hx1];rfl)
 have nzx:(z=x)=False:=f6 x (by rw[hx1];rfl)
 have nyz:(y=z)=False:=f5 y (by rw[hy1];rfl)
 have nzy:(z=y)=False:=f6 y (by rw[hy1];rfl)
 have hS:=hS.new f5 (.cells #[.int .i64 0,.int .i64 0,.int .i64 0,.int .i64 0] 54 (0,0))
 simp only[u_size,↓DD,UU,↓reduceIte,xA,xB,xC,xD,xE,xF,xG,xH,xI,xJ,xK,xL,xM,xN,xO,xP,xQ,ne_eq,eq_self]
 have sb:=slots_bd A
 have zb:=Cn.size_bd A
 refine loop_intro (auI liv sh ws q A n0 x y z n cap a (h :: l)) (fun F' _=>(slots A - iv (gt F' 12)).toNat) ⟨0,by omega,rfl,⟨rfl,rfl,rfl,rfl,rfl,rfl,rfl⟩,hS⟩ ?_
 clear hS hx1 hy1 r1
 rintro F' H' ⟨i,hi,e12,⟨e11,e10,e9,e5,e1,e2,e3⟩,hS⟩
 have hx1:=hS.lk 2 rfl
 have hy1:=hS.lk 1 rfl
 have hz1:=hS.look
 have r1:=fun o n=>rdn_of hx1 o n
 have ry:=fun o=>rd_of hy1 o
 have ryn:=fun o n=>rdn_of hy1 o n
 by_cases hlt:(i:Int)<slots A
 rotate_left
 ·have d1:decide ((i:Int)<slots A)=false:=decide_eq_false hlt
  have hii:(slots A).toNat=i:=by omega
  rw[hii]
  have rzn:=fun o n=>rdn_of hz1 o n
  simp only[auC]at hz1
  simp only[e12,e11,e10,e9,e5,e1,e2,e3,u_slots,d1,hy1,hz1,ryn,auC,nyz,nzy,↓DD,UU,↓reduceIte,xA,xB,xC,xD,xE,xF,xG,xH,xI,xJ,xK,xL,xM,xN,xO,xP,xQ,ne_eq,eq_self]
  exact(hS.set _).tail.tail.tail
 have d1:decide ((i:Int)<slots A)=true:=decide_eq_true hlt
 have wi:w64 ((i:Int)+1)=(i:Int)+1:=w64_eq (by omega) (by omega)
 have hb2:=hb.slots (liv:=liv) (s:=sh) (ws:=ws) (q:=q) (A:=A) i
 obtain⟨c0,hc0⟩:∃ c0,Cn.slots liv sh ws q A n0 i=c0:=⟨_,rfl⟩
 have hnx:Cn.slots liv sh ws q A n0 (i+1)=Cn.slot liv A (slAt sh ws q i) c0:=by rw[← hc0];rfl
 rw[hc0]at hS hy1 hb2
 have ry:=fun o=>rd_of hy1 o
 unfold Cn.Bd at hb2
 have w1:w64 (c0.fr+size A)=c0.fr+size A:=w64_eq (by omega) (by omega)
 have w2:w64 (c0.ta+size A)=c0.ta+size A:=w64_eq (by omega) (by omega)
 have w3:w64 (c0.li+size A)=c0.li+size A:=w64_eq (by omega) (by omega)
 have w4:w64 (c0.lo+size A)=c0.lo+size A:=w64_eq (by omega) (by omega)
 simp only[e12,e11,e10,e9,e5,e1,e2,e3,u_slots,d1,hx1,r1,↓DD,UU,↓reduceIte,xA,xB,xC,xD,xE,xF,xG,xH,xI,xJ,xK,xL,xM,xN,xO,xP,xQ,ne_eq,eq_self]
 refine callT_of (c_sslot q i hm hn hr hU ⟨q0,q1⟩ ⟨by omega,by omega⟩ hS.p3) ?_
 rintro v H' ⟨rfl,hS⟩
 have hsa:ws (sh.c+sh.p+q*16+i).toNat=slAt sh ws q i:=rfl
 obtain⟨Y,hY⟩:∃ Y,slAt sh ws q i=Y:=⟨_,rfl⟩
 rw[hY]at hnx hsa
 have hx1:=hS.lk 3 rfl
 have hy1:=hS.lk 2 rfl
 have ry:=fun o=>rd_of hy1 o
 simp only[e12,e11,e10,e9,e5,e1,e2,e3,hsa,↓DD,UU,↓reduceIte,xA,xB,xC,xD,xE,xF,xG,xH,xI,xJ,xK,xL,xM,xN,xO,xP,xQ,ne_eq,eq_self]
 refine newB_intro fun t ht f7 f8=>?_
 have nxt:(x=t)=False:=f7 x (by rw[hx1];rfl)
 have ntx:(t=x)=False:=f8 x (by rw[hx1];rfl)
 have nyt:(y=t)=False:=f7 y (by rw[hy1];rfl)
 have nty:(t=y)=False:=f8 y (by rw[hy1];rfl)
 have hS:=(hS.new f7 (.cells #[.int .i64 (slK Y),.int .i64 (slA Y)] 78 (0,0))).p1.r4
 have ht1:=hS.look
 have rt:=fun o=>rd_of ht1 o
 have r1:=fun o n=>rdn_of hx1 o n
 simp only[e12,e11,e10,e9,e5,e1,e2,e3,hsa,nxt,ntx,nyt,nty,Ev.upd_upd,↓DD,UU,↓reduceIte,xA,xB,xC,xD,xE,xF,xG,xH,xI,xJ,xK,xL,xM,xN,xO,xP,xQ,ne_eq,eq_self]
 have fin:∀ (c1:Cn) (F2:Fr) (H2:Hp),Cn.slot liv A Y c0=c1→Sep (sg t (.cells #[.int .i64 (slK Y),.int .i64 (slA Y)] 78 (0,0)) :: sg z (.cells (auC Cn.z) 54 (0,0)) :: sg y (.cells (auC c0) 54 (0,0)) :: sg x (.cells #[.int .i64 sh.p,.int .i64 sh.c,.int .i64 sh.m] 23 (0,0)) :: h :: l) H2 →
   gt F2 12=.int .i64 ((i:Int)+1)→(gt F2 11=.int .i64 (size A)∧gt F2 10=.pointer (some ⟨z,0,none⟩)∧gt F2 9=.pointer (some ⟨y,0,none⟩)∧gt F2 5=.pointer (some ⟨x,0,none⟩)∧gt F2 1=.slice a n cap∧gt F2 2=.int .i64 q∧gt F2 3=.int .i64 A) →
   auI liv sh ws q A n0 x y z n cap a (h :: l) F2 (upd H2 y (.cells (auC c1) 54 (0,0))):=fun c1 F2 H2 e h2 g12 g=>by
  refine⟨i+1,by omega,by rw[g12];congr 1,g,?_⟩
  rw[hnx,e]
  exact(h2.tail.p1.set _).p1
 by_cases k1:slK Y=1
 ·have g1:(slK Y == 1)=true:=beq_iff_eq.2 k1
  have hn1:Cn.slot liv A Y c0 = { c0 with fr:=c0.fr+size A }:=by unfold Cn.slot;rw[if_pos k1]
  simp only[e12,e11,e10,e9,e5,e1,e2,e3,hsa,hy1,ry,ht1,rt,auC,nxt,ntx,nyt,nty,g1,wrap_w64,w1,wi,Ev.upd_upd,↓DD,UU,↓reduceIte,xA,xB,xC,xD,xE,xF,xG,xH,xI,xJ,xK,xL,xM,xN,xO,xP,xQ,ne_eq,eq_self]
  exact⟨fin _ _ _ hn1 hS (by simp [gt]) ⟨by simp [gt,e11],by simp [gt,e10],by simp [gt,e9],by simp [gt,e5],by simp [gt,e1],by simp [gt,e2],by simp [gt,e3]⟩,by simp [gt,iv,e12];omega⟩
 have g1:(slK Y == 1)=false:=beq_eq_false_iff_ne.2 k1
 by_cases k3:slK Y=3
 ·have g3:(slK Y == 3)=true:=beq_iff_eq.2 k3
  have hn1:Cn.slot liv A Y c0 = { c0 with ta:=c0.ta+size A }:=by unfold Cn.slot;rw[if_neg k1,if_pos k3]
  simp only[e12,e11,e10,e9,e5,e1,e2,e3,hsa,hy1,ry,ht1,rt,auC,nxt,ntx,nyt,nty,g1,g3,wrap_w64,w2,wi,Ev.upd_upd,↓DD,UU,↓reduceIte,xA,xB,xC,xD,xE,xF,xG,xH,xI,xJ,xK,xL,xM,xN,xO,xP,xQ,ne_eq,eq_self]
  exact⟨fin _ _ _ hn1 hS (by simp [gt]) ⟨by simp [gt,e11],by simp [gt,e10],by simp [gt,e9],by simp [gt,e5],by simp [gt,e1],by simp [gt,e2],by simp [gt,e3]⟩,by simp [gt,iv,e12];omega⟩
 have g3:(slK Y == 3)=false:=beq_eq_false_iff_ne.2 k3
 by_cases k2:slK Y=2
 ·have g2:(slK Y == 2)=true:=beq_iff_eq.2 k2
  simp only[e12,e11,e10,e9,e5,e1,e2,e3,hsa,hx1,r1,hy1,ry,ht1,rt,auC,nxt,ntx,nyt,nty,g1,g2,g3,wrap_w64,wi,Ev.upd_upd,↓DD,UU,↓reduceIte,xA,xB,xC,xD,xE,xF,xG,xH,xI,xJ,xK,xL,xM,xN,xO,xP,xQ,ne_eq,eq_self]
  refine callT_of (hL _ _ _ _ hS.p4) ?_
  rintro v H' ⟨rfl,hS⟩
  have hS:=hS.r4
  have hy1:=hS.lk 2 rfl
  have ry:=fun o=>rd_of hy1 o
  cases hlv:liv (slA Y)
  ·have hn1:Cn.slot liv A Y c0 = { c0 with lo:=c0.lo+size A }:=by unfold Cn.slot;rw[if_neg k1,if_neg k3,if_neg fun g=>by rw[hlv]at g;cases g.2]
   simp only[e12,e11,e10,e9,e5,e1,e2,e3,hsa,hy1,ry,auC,nxt,ntx,nyt,nty,wrap_w64,w4,wi,Ev.upd_upd,↓DD,UU,↓reduceIte,xA,xB,xC,xD,xE,xF,xG,xH,xI,xJ,xK,xL,xM,xN,xO,xP,xQ,ne_eq,eq_self]
   exact⟨fin _ _ _ hn1 hS (by simp [gt]) ⟨by simp [gt,e11],by simp [gt,e10],by simp [gt,e9],by simp [gt,e5],by simp [gt,e1],by simp [gt,e2],by simp [gt,e3]⟩,by simp [gt,iv,e12];omega⟩
  ·have hn1:Cn.slot liv A Y c0 = { c0 with li:=c0.li+size A }:=by unfold Cn.slot;rw[if_neg k1,if_neg k3,if_pos ⟨k2,hlv⟩]
   simp only[e12,e11,e10,e9,e5,e1,e2,e3,hsa,hy1,ry,auC,nxt,ntx,nyt,nty,wrap_w64,w3,wi,Ev.upd_upd,↓DD,UU,↓reduceIte,xA,xB,xC,xD,xE,xF,xG,xH,xI,xJ,xK,xL,xM,xN,xO,xP,xQ,ne_eq,eq_self]
   exact⟨fin _ _ _ hn1 hS (by simp [gt]) ⟨by simp [gt,e11],by simp [gt,e10],by simp [gt,e9],by simp [gt,e5],by simp [gt,e1],by simp [gt,e2],by simp [gt,e3]⟩,by simp [gt,iv,e12];omega⟩
 ·have g2:(slK Y == 2)=false:=beq_eq_false_iff_ne.2 k2
  have hn1:Cn.slot liv A Y c0 = { c0 with lo:=c0.lo+size A }:=by unfold Cn.slot;rw[if_neg k1,if_neg k3,if_neg fun g=>k2 g.1]
  simp only[e12,e11,e10,e9,e5,e1,e2,e3,hsa,hy1,ry,ht1,rt,auC,nxt,ntx,nyt,nty,g1,g2,g3,wrap_w64,w4,wi,Ev.upd_upd,↓DD,UU,↓reduceIte,xA,xB,xC,xD,xE,xF,xG,xH,xI,xJ,xK,xL,xM,xN,xO,xP,xQ,ne_eq,eq_self]
  exact⟨fin _ _ _ hn1 hS (by simp [gt]) ⟨by simp [gt,e11],by simp [gt,e10],by simp [gt,e9],by simp [gt,e5],by simp [gt,e1],by simp [gt,e2],by simp [gt,e3]⟩,by simp [gt,iv,e12];omega⟩
def auP (liv:Int→Bool) (sh:Sh) (ws:Nat→Int) (x y z n cap:Nat) (a:Option Addr) (L:List Hp) (F':Fr) (H':Hp):Prop:=
 ∃ p:Nat,(p:Int)≤sh.p∧gt F' 6=.int .i64 (p:Int)∧(gt F' 5=.pointer (some ⟨y,0,none⟩)∧gt F' 4=.pointer (some ⟨z,0,none⟩)∧gt F' 2=.pointer (some ⟨x,0,none⟩)∧gt F' 1=.slice a n cap) ∧
  Sep (sg y (.cells (auC (Cn.all liv sh ws p)) 54 (0,0)) :: sg z (.cells (auC Cn.z) 54 (0,0)) :: sg x (.cells #[.int .i64 sh.p,.int .i64 sh.c,.int .i64 sh.m] 23 (0,0)) :: L) H'
theorem c_audit {liv:Int→Bool} (hL:Lives Tryz.prog 56 sh a n cap h liv) (hm:may sh.p sh.c sh.m=true) (hn:(n:Int)=words sh.p sh.c sh.m) (hr:RowU h a n ws) (hU:∀ i,i<n→U (ws i)) (hS:Sep (h :: l) H) :
  CallP Tryz.prog W 16 #[.agg #[.int .i64 sh.p,.int .i64 sh.c,.int .i64 sh.m],.slice a n cap] H fun v H'=>v=cnV (Cn.all liv sh ws sh.p.toNat)∧Sep (h :: l) H':=by
 refine CallP.of mixed Tryz.func16 tr16 (by show 2≤_;decide) fun W _=>?_
 have hb:=(may_iff _ _ _).1 hm
 simp only[↓DD,UU,↓reduceIte,xA,xB,xC,xD,xE,xF,xG,xH,xI,xJ,xK,xL,xM,xN,xO,xP,xQ,ne_eq,eq_self]
 refine newB_intro fun x hx f1 f2=>?_
 have hS:=(hS.new f1 (.cells #[.int .i64 sh.p,.int .i64 sh.c,.int .i64 sh.m] 23 (0,0)))
 have hx1:=hS.look
 simp only[↓DD,UU,↓reduceIte,xA,xB,xC,xD,xE,xF,xG,xH,xI,xJ,xK,xL,xM,xN,xO,xP,xQ,ne_eq,eq_self]
 refine newB_intro fun z hz f3 f4=>?_
 have nxz:(x=z)=False:=f3 x (by rw[hx1];rfl)
 have nzx:(z=x)=False:=f4 x (by rw[hx1];rfl)
 have hS:=hS.new f3 (.cells (auC Cn.z) 54 (0,0))
 have hz1:=hS.look
 simp only[Cn.z,auC]at hz1
 simp only[↓DD,UU,↓reduceIte,xA,xB,xC,xD,xE,xF,xG,xH,xI,xJ,xK,xL,xM,xN,xO,xP,xQ,ne_eq,eq_self]
 refine newB_intro fun y hy f5 f6=>?_
 have hx1:=hS.lk 1 rfl
 have nxy:(x=y)=False:=f5 x (congrArg Option.isSome hx1)
 have nyx:(y=x)=False:=f6 x (congrArg Option.isSome hx1)
 have nzy:(z=y)=False:=f5 z (congrArg Option.isSome hz1)
 have nyz:(y=z)=False:=f6 z (congrArg Option.isSome hz1)
 have hS:=hS.new f5 (.cells (auC Cn.z) 54 (0,0))
 have hx1:=hS.lk 2 rfl
 have hy1:=hS.look
 simp only[Cn.z,auC]at hy1
 have r1:=fun o n=>rdn_of hx1 o n
 simp only[hx1,hy1,hz1,r1,nxy,nyx,nzy,nyz,nxz,nzx,Ev.upd_upd,↓DD,UU,↓reduceIte,xA,xB,xC,xD,xE,xF,xG,xH,xI,xJ,xK,xL,xM,xN,xO,xP,xQ,ne_eq,eq_self]
 refine callT_of (c_senough hm hn hS.p3) ?_
 rintro v H' ⟨rfl,hS⟩
 have hS:=hS.r3
 have hx1:=hS.lk 2 rfl
 have hy1:=hS.look
 have r1:=fun o n=>rdn_of hx1 o n
 simp only[↓DD,UU,↓reduceIte,xA,xB,xC,xD,xE,xF,xG,xH,xI,xJ,xK,xL,xM,xN,xO,xP,xQ,ne_eq,eq_self]
 refine loop_intro (auP liv sh ws x y z n cap a (h :: l)) (fun F' _=>(sh.p - iv (gt F' 6)).toNat) ⟨0,by omega,by simp [gt],⟨by simp [gt],by simp [gt],by simp [gt],by simp [gt]⟩,hS⟩ ?_
 clear hS hx1 hy1 r1 hz1
 rintro F' H' ⟨p,hp,e6,⟨e5,e4,e2,e1⟩,hS⟩
 have hx1:=hS.lk 2 rfl
 have hz1:=hS.lk 1 rfl
 have hy1:=hS.look
 have r0:=fun o=>rd_of hx1 o
 have r1:=fun o n=>rdn_of hx1 o n
 have ryn:=fun o n=>rdn_of hy1 o n
 by_cases hlt:(p:Int)<sh.p
 rotate_left
 ·have d1:decide ((p:Int)<sh.p)=false:=decide_eq_false hlt
  have hpp:sh.p.toNat=p:=by omega
  rw[hpp]
  simp only[auC]at hz1
  simp only[e6,e5,e4,e2,e1,hx1,r0,d1,hy1,hz1,ryn,auC,nyz,nzy,cnV,↓DD,UU,↓reduceIte,xA,xB,xC,xD,xE,xF,xG,xH,xI,xJ,xK,xL,xM,xN,xO,xP,xQ,ne_eq,eq_self]
  exact(hS.p1.set _).tail.tail.tail
 have d1:decide ((p:Int)<sh.p)=true:=decide_eq_true hlt
 have wi:w64 ((p:Int)+1)=(p:Int)+1:=w64_eq (by omega) (by omega)
 have hb2:=Cn.all_bd (liv:=liv) (s:=sh) (ws:=ws) p
 obtain⟨c0,hc0⟩:∃ c0,Cn.all liv sh ws p=c0:=⟨_,rfl⟩
 have hnx:Cn.all liv sh ws (p+1)=Cn.page liv sh ws p c0:=by rw[← hc0];rfl
 rw[hc0]at hS hy1 hb2
 have hbig:c0.Bd 100000:=hb2.mono (by omega)
 unfold Cn.Bd at hb2
 have w1:w64 (c0.fr+64)=c0.fr+64:=w64_eq (by omega) (by omega)
 have w2:w64 (c0.ta+64)=c0.ta+64:=w64_eq (by omega) (by omega)
 have w3:w64 (c0.li+64)=c0.li+64:=w64_eq (by omega) (by omega)
 have w4:w64 (c0.lo+64)=c0.lo+64:=w64_eq (by omega) (by omega)
 simp only[e6,e5,e4,e2,e1,hx1,r0,r1,d1,↓DD,UU,↓reduceIte,xA,xB,xC,xD,xE,xF,xG,xH,xI,xJ,xK,xL,xM,xN,xO,xP,xQ,ne_eq,eq_self]
 refine callT_of (c_spage p hm hn hr hU hS.p3) ?_
 rintro v H' ⟨rfl,hS⟩
 have hpat:spX sh ws p=pgAt sh ws p:=rfl
 obtain⟨X,hX⟩:∃ X,pgAt sh ws p=X:=⟨_,rfl⟩
 have hS:=hS.r3
 have hx1:=hS.lk 2 rfl
 have hy1:=hS.look
 have r1:=fun o n=>rdn_of hx1 o n
 simp only[e6,e5,e4,e2,e1,hpat,hX,↓DD,UU,↓reduceIte,xA,xB,xC,xD,xE,xF,xG,xH,xI,xJ,xK,xL,xM,xN,xO,xP,xQ,ne_eq,eq_self]
 refine newB_intro fun t ht f7 f8=>?_
 have nxt:(x=t)=False:=f7 x (by rw[hx1];rfl)
 have ntx:(t=x)=False:=f8 x (by rw[hx1];rfl)
 have nyt:(y=t)=False:=f7 y (by rw[hy1];rfl)
 have nty:(t=y)=False:=f8 y (by rw[hy1];rfl)
 have hS:=(hS.new f7 (.cells #[.int .i64 (pgK sh p X),.int .i64 (pgA sh p X),.int .i64 (pgB sh p X)] 66 (0,0)))
 simp only[e6,e5,e4,e2,e1,hx1,r1,nxt,ntx,nyt,nty,Ev.upd_upd,↓DD,UU,↓reduceIte,xA,xB,xC,xD,xE,xF,xG,xH,xI,xJ,xK,xL,xM,xN,xO,xP,xQ,ne_eq,eq_self]
 refine callT_of (c_pholdx p hm hn hr hU hS.p4) ?_
 rintro v H' ⟨rfl,hS⟩
 have hS:=hS.r4
 have hx1:=hS.lk 3 rfl
 have hy1:=hS.lk 1 rfl
 have ht1:=hS.look
 have rt:=fun o=>rd_of ht1 o
 have ry:=fun o=>rd_of hy1 o
 have ryn:=fun o n=>rdn_of hy1 o n
 have r1:=fun o n=>rdn_of hx1 o n
 obtain⟨hd,hhd⟩:∃ hd,Cn.held sh ws p=hd:=⟨_,rfl⟩
 obtain⟨wh,hwh⟩:∃ wh,Cn.who sh ws p=wh:=⟨_,rfl⟩
 have hpg:Cn.page liv sh ws p c0=(if okPg sh p X=true∧pgK sh p X=0 then { c0 with fr:=c0.fr+64 } else if hd=true∧liv wh=true then { c0 with li:=c0.li+64 } else if hd=true∨okPg sh p X=false then { c0 with lo:=c0.lo+64 } else if pgK sh p X=2 then Cn.slots liv sh ws p (pgA sh p X) c0 (slots (pgA sh p X)).toNat else { c0 with ta:=c0.ta+64 }):=by
  unfold Cn.page;rw[hhd,hwh,hX]
 have fin:∀ (c1:Cn) (F2:Fr) (H2:Hp),Cn.page liv sh ws p c0=c1→Sep (sg t (.cells #[.int .i64 (pgK sh p X),.int .i64 (pgA sh p X),.int .i64 (pgB sh p X)] 66 (0,0)) :: sg y (.cells (auC c0) 54 (0,0)) :: sg z (.cells (auC Cn.z) 54 (0,0)) :: sg x (.cells #[.int .i64 sh.p,.int .i64 sh.c,.int .i64 sh.m] 23 (0,0)) :: h :: l) H2 →
   gt F2 6=.int .i64 ((p:Int)+1)→(gt F2 5=.pointer (some ⟨y,0,none⟩)∧gt F2 4=.pointer (some ⟨z,0,none⟩)∧gt F2 2=.pointer (some ⟨x,0,none⟩)∧gt F2 1=.slice a n cap) →
   auP liv sh ws x y z n cap a (h :: l) F2 (upd H2 y (.cells (auC c1) 54 (0,0))):=fun c1 F2 H2 e h2 g6 g=>by
  refine⟨p+1,by omega,by rw[g6];congr 1,g,?_⟩
  rw[hnx,e]
  exact h2.tail.set _
 simp only[e6,e5,e4,e2,e1,hhd,hwh,↓DD,UU,↓reduceIte,xA,xB,xC,xD,xE,xF,xG,xH,xI,xJ,xK,xL,xM,xN,xO,xP,xQ,ne_eq,eq_self]
 cases hok:okPg sh p X
 ·cases hd
  ·have hn1:Cn.page liv sh ws p c0 = { c0 with lo:=c0.lo+64 }:=by rw[hpg];simp [hok]
   simp only[e6,e5,e4,e2,e1,hx1,r1,hy1,ry,ht1,rt,auC,hok,nxt,ntx,nyt,nty,wrap_w64,w4,wi,Ev.upd_upd,↓DD,UU,↓reduceIte,xA,xB,xC,xD,xE,xF,xG,xH,xI,xJ,xK,xL,xM,xN,xO,xP,xQ,ne_eq,eq_self]
   exact⟨fin _ _ _ hn1 hS (by simp [gt]) ⟨by simp [gt,e5],by simp [gt,e4],by simp [gt,e2],by simp [gt,e1]⟩,by simp [gt,iv,e6];omega⟩
  ·simp only[e6,e5,e4,e2,e1,hx1,r1,hy1,ry,ht1,rt,auC,hok,nxt,ntx,nyt,nty,wrap_w64,wi,Ev.upd_upd,↓DD,UU,↓reduceIte,xA,xB,xC,xD,xE,xF,xG,xH,xI,xJ,xK,xL,xM,xN,xO,xP,xQ,ne_eq,eq_self]
   refine callT_of (hL _ _ _ _ hS.p4) ?_
   rintro v H' ⟨rfl,hS⟩
   have hS:=hS.r4
   have hx1:=hS.lk 3 rfl
   have hy1:=hS.lk 1 rfl
   have ht1:=hS.look
   have rt:=fun o=>rd_of ht1 o
   have ry:=fun o=>rd_of hy1 o
   cases hlv:liv wh
   ·have hn1:Cn.page liv sh ws p c0 = { c0 with lo:=c0.lo+64 }:=by rw[hpg];simp [hok,hlv]
    simp only[e6,e5,e4,e2,e1,hx1,r1,hy1,ry,ht1,rt,auC,hok,nxt,ntx,nyt,nty,wrap_w64,w4,wi,Ev.upd_upd,↓DD,UU,↓reduceIte,xA,xB,xC,xD,xE,xF,xG,xH,xI,xJ,xK,xL,xM,xN,xO,xP,xQ,ne_eq,eq_self]
    exact⟨fin _ _ _ hn1 hS (by simp [gt]) ⟨by simp [gt,e5],by simp [gt,e4],by simp [gt,e2],by simp [gt,e1]⟩,by simp [gt,iv,e6];omega⟩
   ·have hn1:Cn.page liv sh ws p c0 = { c0 with li:=c0.li+64 }:=by rw[hpg];simp [hok,hlv]
    simp only[e6,e5,e4,e2,e1,hx1,r1,hy1,ry,ht1,rt,auC,hok,nxt,ntx,nyt,nty,wrap_w64,w3,wi,Ev.upd_upd,↓DD,UU,↓reduceIte,xA,xB,xC,xD,xE,xF,xG,xH,xI,xJ,xK,xL,xM,xN,xO,xP,xQ,ne_eq,eq_self]
    exact⟨fin _ _ _ hn1 hS (by simp [gt]) ⟨by simp [gt,e5],by simp [gt,e4],by simp [gt,e2],by simp [gt,e1]⟩,by simp [gt,iv,e6];omega⟩
 ·by_cases k0:pgK sh p X=0
  ·have g0:(pgK sh p X == 0)=true:=beq_iff_eq.2 k0
   have hn1:Cn.page liv sh ws p c0 = { c0 with fr:=c0.fr+64 }:=by rw[hpg];simp [hok,k0]
   simp only[e6,e5,e4,e2,e1,hx1,r1,hy1,ry,ht1,rt,auC,hok,g0,nxt,ntx,nyt,nty,wrap_w64,w1,wi,Ev.upd_upd,↓DD,UU,↓reduceIte,xA,xB,xC,xD,xE,xF,xG,xH,xI,xJ,xK,xL,xM,xN,xO,xP,xQ,ne_eq,eq_self]
   exact⟨fin _ _ _ hn1 hS (by simp [gt]) ⟨by simp [gt,e5],by simp [gt,e4],by simp [gt,e2],by simp [gt,e1]⟩,by simp [gt,iv,e6];omega⟩
  have g0:(pgK sh p X == 0)=false:=beq_eq_false_iff_ne.2 k0
  cases hd
  rotate_left
  ·simp only[e6,e5,e4,e2,e1,hx1,r1,hy1,ry,ht1,rt,auC,hok,g0,nxt,ntx,nyt,nty,wrap_w64,wi,Ev.upd_upd,↓DD,UU,↓reduceIte,xA,xB,xC,xD,xE,xF,xG,xH,xI,xJ,xK,xL,xM,xN,xO,xP,xQ,ne_eq,eq_self]
   refine callT_of (hL _ _ _ _ hS.p4) ?_
   rintro v H' ⟨rfl,hS⟩
   have hS:=hS.r4
   have hx1:=hS.lk 3 rfl
   have hy1:=hS.lk 1 rfl
   have ht1:=hS.look
   have rt:=fun o=>rd_of ht1 o
   have ry:=fun o=>rd_of hy1 o
   cases hlv:liv wh
   ·have hn1:Cn.page liv sh ws p c0 = { c0 with lo:=c0.lo+64 }:=by rw[hpg];simp [hok,k0,hlv]
    simp only[e6,e5,e4,e2,e1,hx1,r1,hy1,ry,ht1,rt,auC,hok,g0,nxt,ntx,nyt,nty,wrap_w64,w4,wi,Ev.upd_upd,↓DD,UU,↓reduceIte,xA,xB,xC,xD,xE,xF,xG,xH,xI,xJ,xK,xL,xM,xN,xO,xP,xQ,ne_eq,eq_self]
    exact⟨fin _ _ _ hn1 hS (by simp [gt]) ⟨by simp [gt,e5],by simp [gt,e4],by simp [gt,e2],by simp [gt,e1]⟩,by simp [gt,iv,e6];omega⟩
   ·have hn1:Cn.page liv sh ws p c0 = { c0 with li:=c0.li+64 }:=by rw[hpg];simp [hok,k0,hlv]
    simp only[e6,e5,e4,e2,e1,hx1,r1,hy1,ry,ht1,rt,auC,hok,g0,nxt,ntx,nyt,nty,wrap_w64,w3,wi,Ev.upd_upd,↓DD,UU,↓reduceIte,xA,xB,xC,xD,xE,xF,xG,xH,xI,xJ,xK,xL,xM,xN,xO,xP,xQ,ne_eq,eq_self]
    exact⟨fin _ _ _ hn1 hS (by simp [gt]) ⟨by simp [gt,e5],by simp [gt,e4],by simp [gt,e2],by simp [gt,e1]⟩,by simp [gt,iv,e6];omega⟩
  by_cases k2:pgK sh p X=2
  ·have g2:(pgK sh p X == 2)=true:=beq_iff_eq.2 k2
   have hn1:Cn.page liv sh ws p c0=Cn.slots liv sh ws p (pgA sh p X) c0 (slots (pgA sh p X)).toNat:=by rw[hpg];simp [hok,k0,k2]
   simp only[e6,e5,e4,e2,e1,hx1,r1,hy1,ry,ryn,ht1,rt,auC,hok,g0,g2,nxt,ntx,nyt,nty,wrap_w64,wi,Ev.upd_upd,↓DD,UU,↓reduceIte,xA,xB,xC,xD,xE,xF,xG,xH,xI,xJ,xK,xL,xM,xN,xO,xP,xQ,ne_eq,eq_self]
   refine callT_of (c_slots20 p (pgA sh p X) c0 hL (by omega) hlt hbig hm hn hr hU hS.p4) ?_
   rintro v H' ⟨rfl,hS⟩
   have hS:=hS.r4
   have hy1:=hS.lk 1 rfl
   simp only[e6,e5,e4,e2,e1,hy1,cnV,auC,nxt,ntx,nyt,nty,wrap_w64,wi,Ev.upd_upd,↓DD,UU,↓reduceIte,xA,xB,xC,xD,xE,xF,xG,xH,xI,xJ,xK,xL,xM,xN,xO,xP,xQ,ne_eq,eq_self]
   exact⟨fin _ _ _ hn1 hS (by simp [gt]) ⟨by simp [gt,e5],by simp [gt,e4],by simp [gt,e2],by simp [gt,e1]⟩,by simp [gt,iv,e6];omega⟩
  ·have g2:(pgK sh p X == 2)=false:=beq_eq_false_iff_ne.2 k2
   have hn1:Cn.page liv sh ws p c0 = { c0 with ta:=c0.ta+64 }:=by rw[hpg];simp [hok,k0,k2]
   simp only[e6,e5,e4,e2,e1,hx1,r1,hy1,ry,ht1,rt,auC,hok,g0,g2,nxt,ntx,nyt,nty,wrap_w64,w2,wi,Ev.upd_upd,↓DD,UU,↓reduceIte,xA,xB,xC,xD,xE,xF,xG,xH,xI,xJ,xK,xL,xM,xN,xO,xP,xQ,ne_eq,eq_self]
   exact⟨fin _ _ _ hn1 hS (by simp [gt]) ⟨by simp [gt,e5],by simp [gt,e4],by simp [gt,e2],by simp [gt,e1]⟩,by simp [gt,iv,e6];omega⟩
end
end Go.Proofs.YtbcdaglbdnkocaaGreat
set_option maxRecDepth 8000
namespace Go.Proofs.YtbcdaglbdnkocaaGreat
open Go Go.Ev Go.Pl Go.Ma
section
variable {W:World} {H h:Hp} {l:List Hp} {n cap:Nat} {a:Option Addr} {ws:Nat→Int} {sh:Sh}
def hoCE (sh:Sh) (ws:Nat→Int) (q i:Int) (L:List Hp) (F':Fr) (H':Hp):Prop:=
 ∃ z,gt F' 15=.pointer (some ⟨z,0,none⟩)∧Sep (sg z (.cells #[.int .i64 (slK (slAt sh ws q i)),.int .i64 (slA (slAt sh ws q i))] 78 (0,0)) :: L) H'
set_option maxHeartbeats 4000000 in
theorem c_holderE (ad:Int) (a0:0≤ad) (a1:ad<sh.p*64) (hm:may sh.p sh.c sh.m=true) (hsn:Snd sh ws) (hn:(n:Int)=words sh.p sh.c sh.m) (hr:RowU h a n ws) (hU:∀ i,i<n→U (ws i)) (hS:Sep (h :: l) H) :
  CallP Tryz.prog W 18 #[.agg #[.int .i64 sh.p,.int .i64 sh.c,.int .i64 sh.m],.slice a n cap,.int .i64 ad] H fun v H'=>v=.tuple #[.int .i64 (Kt.hl sh ws ad).1,.bool (Kt.hl sh ws ad).2]∧Sep (h :: l) H':=by
 refine CallP.of mixed Tryz.func18 tr18 (by show 3≤_;decide) fun W _=>?_
 have hb:=(may_iff _ _ _).1 hm
 have hth:there sh.p sh.c sh.m ad=true:=by unfold there;rw[hm];simp;rw[win_iff];omega
 have hsp:sp sh.p sh.c sh.m ad=ad / 64:=by unfold sp;rw[if_pos hth]
 have hso:so sh.p sh.c sh.m ad=ad % 64:=by unfold so;rw[if_pos hth]
 obtain⟨q,hq⟩:∃ q,ad / 64=q:=⟨_,rfl⟩
 obtain⟨off,hoff⟩:∃ off,ad % 64=off:=⟨_,rfl⟩
 have hq0:0≤q∧q<sh.p:=by omega
 have ho0:0≤off∧off<64:=by omega
 rw[hq]at hsp
 rw[hoff]at hso
 simp only[↓DD,UU,↓reduceIte,xA,xB,xC,xD,xE,xF,xG,xH,xI,xJ,xK,xL,xM,xN,xO,xP,xQ,ne_eq,eq_self]
 refine newB_intro fun x hx f1 f2=>?_
 have hS:=(hS.new f1 (.cells #[.int .i64 sh.p,.int .i64 sh.c,.int .i64 sh.m] 23 (0,0)))
 have hx1:=hS.look
 have r1:=fun o n=>rdn_of hx1 o n
 simp only[hx1,r1,u_split,hsp,hso,hth,↓DD,UU,↓reduceIte,xA,xB,xC,xD,xE,xF,xG,xH,xI,xJ,xK,xL,xM,xN,xO,xP,xQ,ne_eq,eq_self]
 refine callT_of (c_senough hm hn hS.p1) ?_
 rintro v H' ⟨rfl,hS⟩
 have hx1:=hS.lk 1 rfl
 have r1:=fun o n=>rdn_of hx1 o n
 simp only[hx1,r1,↓DD,UU,↓reduceIte,xA,xB,xC,xD,xE,xF,xG,xH,xI,xJ,xK,xL,xM,xN,xO,xP,xQ,ne_eq,eq_self]
 refine callT_of (c_pholdx q hm hn hr hU hS) ?_
 rintro v H' ⟨rfl,hS⟩
 obtain⟨c,hc⟩:∃ c,Cn.who sh ws q=c:=⟨_,rfl⟩
 obtain⟨b,hbh⟩:∃ b,Cn.held sh ws q=b:=⟨_,rfl⟩
 rw[hc,hbh]
 have hx1:=hS.lk 1 rfl
 have r1:=fun o n=>rdn_of hx1 o n
 cases b
 rotate_left
 ·simp only[↓DD,UU,↓reduceIte,xA,xB,xC,xD,xE,xF,xG,xH,xI,xJ,xK,xL,xM,xN,xO,xP,xQ,ne_eq,eq_self]
  have e:Kt.hl sh ws ad=(c,true):=by unfold Kt.hl;rw[hq,if_pos hbh,hc]
  rw[e]
  exact⟨rfl,hS.p1.tail⟩
 simp only[hx1,r1,↓DD,UU,↓reduceIte,xA,xB,xC,xD,xE,xF,xG,xH,xI,xJ,xK,xL,xM,xN,xO,xP,xQ,ne_eq,eq_self]
 refine callT_of (c_spage q hm hn hr hU hS) ?_
 rintro v H' ⟨rfl,hS⟩
 have hx1:=hS.lk 1 rfl
 have hpat:spX sh ws q=pgAt sh ws q:=rfl
 simp only[hpat,↓DD,UU,↓reduceIte,xA,xB,xC,xD,xE,xF,xG,xH,xI,xJ,xK,xL,xM,xN,xO,xP,xQ,ne_eq,eq_self]
 refine newB_intro fun y hy f3 f4=>?_
 have nxy:(x=y)=False:=f3 x (by rw[hx1];rfl)
 have nyx:(y=x)=False:=f4 x (by rw[hx1];rfl)
 have hS:=hS.new f3 (.cells #[.int .i64 (pgK sh q (pgAt sh ws q)),.int .i64 (pgA sh q (pgAt sh ws q)),.int .i64 (pgB sh q (pgAt sh ws q))] 66 (0,0))
 have r1:=fun o n=>rdn_of hx1 o n
 simp only[nxy,nyx,hx1,r1,Ev.upd_upd,↓DD,UU,↓reduceIte,xA,xB,xC,xD,xE,xF,xG,xH,xI,xJ,xK,xL,xM,xN,xO,xP,xQ,ne_eq,eq_self]
 rw[Ev.upd_upd]
 by_cases k2:pgK sh q (pgAt sh ws q)=2
 rotate_left
 ·have g2:(pgK sh q (pgAt sh ws q) == 2)=false:=beq_eq_false_iff_ne.2 k2
  cases hok:okPg sh q (pgAt sh ws q)
  all_goals
   simp only[hok,g2,nxy,nyx,hx1,r1,Ev.upd_upd,↓DD,UU,↓reduceIte,xA,xB,xC,xD,xE,xF,xG,xH,xI,xJ,xK,xL,xM,xN,xO,xP,xQ,ne_eq,eq_self]
   have e:Kt.hl sh ws ad=(0,false):=by unfold Kt.hl;rw[hq,if_neg (by rw[hbh];decide),if_neg k2]
   rw[e]
   exact⟨rfl,hS.tail.p1.tail⟩
 have hok:=pgK_ne (s:=sh) (q:=q) (x:=pgAt sh ws q) (by rw[k2];decide)
 have g2:(pgK sh q (pgAt sh ws q) == 2)=true:=beq_iff_eq.2 k2
 obtain⟨A,hA⟩:∃ A,pgA sh q (pgAt sh ws q)=A:=⟨_,rfl⟩
 have hAs:=Gv.ok_super hok k2
 rw[hA]at hAs hS
 obtain⟨i,hi,hib⟩:∃ i,off / size A=i∧0≤i∧i<slots A:=by
  refine⟨_,rfl,?_⟩
  rcases (by omega:A=0∨A=1∨A=2∨A=3) with h | h | h | h<;>subst h
  ·show 0≤off / 4∧off / 4<16;omega
  ·show 0≤off / 8∧off / 8<8;omega
  ·show 0≤off / 16∧off / 16<4;omega
  ·show 0≤off / 32∧off / 32<2;omega
 have hz:4≤size A∧size A≤32:=by
  rcases (by omega:A=0∨A=1∨A=2∨A=3) with h | h | h | h<;>rw[h]<;>decide
 have z0:(size A=0)=False:=eq_false (by omega)
 have td:off.tdiv (size A)=i:=by rw[Int.tdiv_eq_ediv_of_nonneg ho0.1];exact hi
 have wi:w64 i=i:=w64_eq (by omega) (by have:=slots_bd A;omega)
 have sb:=slots_bd A
 have hy1:=hS.look
 have r0:=fun o=>rd_of hy1 o
 have hx1:=hS.lk 2 rfl
 have r1:=fun o n=>rdn_of hx1 o n
 rw[hA]
 simp only[hok,g2,nxy,nyx,hx1,r1,hy1,r0,hA,Ev.upd_upd,↓DD,UU,↓reduceIte,xA,xB,xC,xD,xE,xF,xG,xH,xI,xJ,xK,xL,xM,xN,xO,xP,xQ,ne_eq,eq_self]
 refine draw_cut [(x,#[.int .i64 sh.p,.int .i64 sh.c,.int .i64 sh.m],[]),(y,#[.int .i64 (pgK sh q (pgAt sh ws q)),.int .i64 A,.int .i64 (pgB sh q (pgAt sh ws q))],[])] (hoCE sh ws q i (sg y (.cells #[.int .i64 (pgK sh q (pgAt sh ws q)),.int .i64 A,.int .i64 (pgB sh q (pgAt sh ws q))] 66 (0,0)) :: h :: sg x (.cells #[.int .i64 sh.p,.int .i64 sh.c,.int .i64 sh.m] 23 (0,0)) :: l)) (by simp only[nxy,hx1,hA,hy1,↓DD,UU,↓reduceIte,xA,xB,xC,xD,xE,xF,xG,xH,xI,xJ,xK,xL,xM,xN,xO,xP,xQ,ne_eq,eq_self]) ?_ ?_
 ·simp only[hx1,r1,hy1,r0,nxy,nyx,u_size,z0,td,wrap_w64,wi,↓e_dalt2,↓DD,UU,↓reduceIte,xA,xB,xC,xD,xE,xF,xG,xH,xI,xJ,xK,xL,xM,xN,xO,xP,xQ,ne_eq,eq_self]
  refine⟨⟨?_,?_⟩,?_⟩
  ·refine callT_of (c_sslot q i hm hn hr hU hq0 ⟨hib.1,by omega⟩ hS.p1) ?_
   rintro v H' ⟨rfl,hS⟩
   have hx1:=hS.lk 2 rfl
   have hy1:=hS.lk 1 rfl
   have r0:=fun o=>rd_of hy1 o
   have hsl:ws (sh.c+sh.p+q*16+i).toNat=slAt sh ws q i:=rfl
   simp only[hx1,hy1,r0,nxy,nyx,hsl,↓e_dalt2,↓DD,UU,↓reduceIte,xA,xB,xC,xD,xE,xF,xG,xH,xI,xJ,xK,xL,xM,xN,xO,xP,xQ,ne_eq,eq_self]
   refine newB_intro fun z hz f5 f6=>?_
   have nxz:(x=z)=False:=f5 x (by rw[hx1];rfl)
   have nyz:(y=z)=False:=f5 y (by rw[hy1];rfl)
   have nzx:(z=x)=False:=f6 x (by rw[hx1];rfl)
   have nzy:(z=y)=False:=f6 y (by rw[hy1];rfl)
   have hS:=hS.new f5 (.cells #[.int .i64 (slK (slAt sh ws q i)),.int .i64 (slA (slAt sh ws q i))] 78 (0,0))
   simp only[hx1,hy1,nxy,nyx,nxz,nyz,nzx,nzy,Ev.upd_upd,↓DD,UU,↓reduceIte,xA,xB,xC,xD,xE,xF,xG,xH,xI,xJ,xK,xL,xM,xN,xO,xP,xQ,ne_eq,eq_self]
   exact⟨z,by simp [gt],hS.p2.p1⟩
  all_goals
   refine newB_intro fun z hz f5 f6=>?_
   have nxz:(x=z)=False:=f5 x (by rw[hx1];rfl)
   have nyz:(y=z)=False:=f5 y (by rw[hy1];rfl)
   have nzx:(z=x)=False:=f6 x (by rw[hx1];rfl)
   have nzy:(z=y)=False:=f6 y (by rw[hy1];rfl)
   have hS:=hS.new f5 (.cells #[.int .i64 0,.int .i64 0] 78 (0,0))
   have hsl:ws (sh.c+sh.p+q*16+i).toNat=slAt sh ws q i:=rfl
   simp only[hx1,r1,hy1,r0,nxy,nyx,nxz,nyz,nzx,nzy,u_size,z0,td,wrap_w64,wi,↓DD,UU,↓reduceIte,xA,xB,xC,xD,xE,xF,xG,xH,xI,xJ,xK,xL,xM,xN,xO,xP,xQ,ne_eq,eq_self]
   refine callT_of (c_sslot q i hm hn hr hU hq0 ⟨hib.1,by omega⟩ hS.p2) ?_
   rintro v H' ⟨rfl,hS⟩
   have hx1:=hS.lk 3 rfl
   have hy1:=hS.lk 2 rfl
   have hz1:=hS.lk 1 rfl
   have hS:=hS.p1.set (.cells #[.int .i64 (slK (slAt sh ws q i)),.int .i64 (slA (slAt sh ws q i))] 78 (0,0))
   simp only[hx1,hy1,hz1,nxy,nyx,nxz,nyz,nzx,nzy,hsl,Ev.upd_upd,↓DD,UU,↓reduceIte,xA,xB,xC,xD,xE,xF,xG,xH,xI,xJ,xK,xL,xM,xN,xO,xP,xQ,ne_eq,eq_self]
   exact⟨z,by simp [gt],hS.p1.p2.p2⟩
 ·rintro F' H' ⟨z,e15,hS⟩
  have hz1:=hS.look
  have r3:=fun o=>rd_of hz1 o
  have fin:∀ H2,Sep (sg z (.cells #[.int .i64 (slK (slAt sh ws q i)),.int .i64 (slA (slAt sh ws q i))] 78 (0,0)) :: sg y (.cells #[.int .i64 (pgK sh q (pgAt sh ws q)),.int .i64 A,.int .i64 (pgB sh q (pgAt sh ws q))] 66 (0,0)) :: h :: sg x (.cells #[.int .i64 sh.p,.int .i64 sh.c,.int .i64 sh.m] 23 (0,0)) :: l) H2→Sep (h :: l) H2:=fun H2 h2=>h2.tail.tail.p1.tail
  by_cases s2:slK (slAt sh ws q i)=2
  ·have h2:(slK (slAt sh ws q i) == 2)=true:=beq_iff_eq.2 s2
   simp only[hz1,r3,e15,h2,↓DD,UU,↓reduceIte,xA,xB,xC,xD,xE,xF,xG,xH,xI,xJ,xK,xL,xM,xN,xO,xP,xQ,ne_eq,eq_self]
   have e:Kt.hl sh ws ad=(slA (slAt sh ws q i),true):=by unfold Kt.hl;rw[hq,hoff,hA,hi,if_neg (by rw[hbh];decide),if_pos k2,if_pos s2]
   rw[e]
   exact⟨rfl,fin _ hS⟩
  ·have h2:(slK (slAt sh ws q i) == 2)=false:=beq_eq_false_iff_ne.2 s2
   simp only[hz1,r3,e15,h2,↓DD,UU,↓reduceIte,xA,xB,xC,xD,xE,xF,xG,xH,xI,xJ,xK,xL,xM,xN,xO,xP,xQ,ne_eq,eq_self]
   have e:Kt.hl sh ws ad=(0,false):=by unfold Kt.hl;rw[hq,hoff,hA,hi,if_neg (by rw[hbh];decide),if_pos k2,if_neg s2]
   rw[e]
   exact⟨rfl,fin _ hS⟩
end
end Go.Proofs.YtbcdaglbdnkocaaGreat
namespace Go.Ma
open Go.Pl
def livF (s:Sh) (ws:Nat→Int) (c:Int):Bool:=if 0≤c∧c<s.c then stK (ws c.toNat) == 1 else false
end Go.Ma
namespace Go.Proofs.YtbcdaglbdnkocaaGreat
open Go Go.Ev Go.Pl Go.Ma
section
variable {W:World} {H h:Hp} {l:List Hp} {n cap:Nat} {a:Option Addr} {ws:Nat→Int}
theorem c_livesV {sh:Sh} (hm:may sh.p sh.c sh.m=true) (hn:(n:Int)=words sh.p sh.c sh.m) (hr:RowU h a n ws) (hU:∀ i,i<n→U (ws i)):Lives Tryz.prog 56 sh a n cap h (livF sh ws):=by
 intro W H l c hS
 refine CallP.of mixed Tryz.func56 tr56 (by show 3≤_;decide) fun W _=>?_
 have hb:=(may_iff _ _ _).1 hm
 have hw:=words_ge hm hn
 simp only[↓DD,UU,↓reduceIte,xA,xB,xC,xD,xE,xF,xG,xH,xI,xJ,xK,xL,xM,xN,xO,xP,xQ,ne_eq,eq_self]
 refine newB_intro fun x hx f1 f2=>?_
 have hS:=(hS.new f1 (.cells #[.int .i64 sh.p,.int .i64 sh.c,.int .i64 sh.m] 23 (0,0)))
 have hx1:=hS.look
 have r1:=fun o n=>rdn_of hx1 o n
 by_cases hc:0≤c∧c<sh.c
 ·have hs:status sh.p sh.c sh.m c=c:=status_yes hm hc.1 hc.2
  have d1:decide (c<0)=false:=decide_eq_false (by omega)
  obtain⟨xb,xo,rfl,hrd⟩:=(hr.sub (hS.sb h (by simp))).at' (i:=c.toNat) (by omega)
  have q0:=hc.1
  have q1:c<(n:Int):=by omega
  have hrs:=u_readst (hU c.toNat (by omega))
  have hl:livF sh ws c=(stK (ws c.toNat) == 1):=by unfold livF;rw[if_pos hc]
  simp only[hx1,r1,u_status,hs,d1,hrd,q0,q1,hrs,hl,↓DD,UU,↓reduceIte,xA,xB,xC,xD,xE,xF,xG,xH,xI,xJ,xK,xL,xM,xN,xO,xP,xQ,ne_eq,eq_self]
  exact hS.tail
 ·have hs:status sh.p sh.c sh.m c<0:=by rw[status_lt0];exact fun g=>hc g.2
  have hl:livF sh ws c=false:=by unfold livF;rw[if_neg hc]
  simp only[hx1,r1,u_status,decide_eq_true hs,hl,↓DD,UU,↓reduceIte,xA,xB,xC,xD,xE,xF,xG,xH,xI,xJ,xK,xL,xM,xN,xO,xP,xQ,ne_eq,eq_self]
  exact hS.tail
end
end Go.Proofs.YtbcdaglbdnkocaaGreat
