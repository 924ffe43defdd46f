/-
The document's count of a heap's words, plain. Conditions: none.
Pages of a sound heap that one claims: what each of them says; the heap is sound still, its blocks are the same. Conditions: none.
Who seeks a slot from wherever, plain: its steps, what stays, how long it goes on. Conditions: none.
Who seeks a slot from wherever, plain: what fits stays so, and it ends. Conditions: none.
Who seeks a slot, alone in a sound heap: how far it is; each step keeps that. Conditions: none.
Who seeks a slot, alone in a sound heap: it is sound behind that; what is found is its own. Conditions: none.
One that looks for a row of pages and one that looks for a slot, at the same time, in an empty heap: whose a page is. Conditions: none.
What is taken out of a sound heap: a block that is given, a row of pages that is claimed. Conditions: none.
Who gives, alone in a sound heap: each step keeps it sound; what is given, and what not. Conditions: none.
One alone in a sound heap, plain: its blocks, one behind the other; a block that is reserved, and its commit. Conditions: none.
One that reserves, alone in a sound heap, plain: all is sound at each step; what it has at the end, what each page is then. Conditions: none.
One that undoes, one that renews, alone in a sound heap, plain: how far it is, what there is at the end. Conditions: none.
One that renews the only block of a heap without magazines, plain: it is found always; there is one block behind it. Conditions: none.
What steps do not do: no status is otherwise, no word is made that is of a block. Conditions: none.
What was reserved and undone, plain: the count of a heap's words behind it. Conditions: none.
-/
import Derived.Test.YtkjpgikjcfhckaaGreatMaB
import Derived.Test.YtkjpgikjcfhckaaGreatMaA
set_option linter.unusedVariables false
set_option linter.unusedSectionVars false
set_option linter.unusedSimpArgs false
namespace Go.Ma
open Go.Pl
structure Cn where
 fr:Int
 ta:Int
 li:Int
 lo:Int
namespace Cn
def z:Cn:=⟨0,0,0,0⟩
def slot (liv:Int→Bool) (A y:Int) (n:Cn):Cn:=
 if slK y=1 then { n with fr:=n.fr+size A } else if slK y=3 then { n with ta:=n.ta+size A } else if slK y=2∧liv (slA y)=true then { n with li:=n.li+size A } else { n with lo:=n.lo+size A }
def slots (liv:Int→Bool) (s:Sh) (ws:Nat→Int) (q A:Int) (n:Cn):Nat→Cn
 | 0=>n
 | i+1=>slot liv A (slAt s ws q i) (slots liv s ws q A n i)
def at' (s:Sh) (ws:Nat→Int) (q:Int):Int:=if pgK s q (pgAt s ws q)=4 then pgA s q (pgAt s ws q) else q
def who (s:Sh) (ws:Nat→Int) (q:Int):Int:=pgA s (at' s ws q) (pgAt s ws (at' s ws q))
def held (s:Sh) (ws:Nat→Int) (q:Int):Bool:=pgK s (at' s ws q) (pgAt s ws (at' s ws q)) == 1
def page (liv:Int→Bool) (s:Sh) (ws:Nat→Int) (q:Int) (n:Cn):Cn:=
 if okPg s q (pgAt s ws q)=true∧pgK s q (pgAt s ws q)=0 then { n with fr:=n.fr+64 }
 else if held s ws q=true∧liv (who s ws q)=true then { n with li:=n.li+64 }
 else if held s ws q=true∨okPg s q (pgAt s ws q)=false then { n with lo:=n.lo+64 }
 else if pgK s q (pgAt s ws q)=2 then slots liv s ws q (pgA s q (pgAt s ws q)) n (Pl.slots (pgA s q (pgAt s ws q))).toNat
 else { n with ta:=n.ta+64 }
def all (liv:Int→Bool) (s:Sh) (ws:Nat→Int):Nat→Cn
 | 0=>z
 | q+1=>page liv s ws q (all liv s ws q)
def Bd (b:Int) (n:Cn):Prop:=0≤n.fr∧n.fr≤b∧0≤n.ta∧n.ta≤b∧0≤n.li∧n.li≤b∧0≤n.lo∧n.lo≤b
theorem size_bd (A:Int):0≤size A∧size A≤32:=by
 unfold size;repeat' split
 all_goals omega
theorem Bd.slot {liv:Int→Bool} {b A y:Int} {n:Cn} (h:Bd b n):Bd (b+32) (n.slot liv A y):=by
 have:=size_bd A
 unfold Bd at h
 unfold Cn.slot Bd
 repeat' split
 all_goals
  dsimp only
  omega
theorem Bd.slots {liv:Int→Bool} {s:Sh} {ws:Nat→Int} {q A b:Int} {n:Cn} (h:Bd b n):∀ i:Nat,Bd (b+32*i) (Cn.slots liv s ws q A n i)
 | 0=>by show Bd (b+32*((0:Nat):Int)) n;rw[show b+32*((0:Nat):Int)=b by omega];exact h
 |i+1=>by
  have:=(Bd.slots (liv:=liv) (s:=s) (ws:=ws) (q:=q) (A:=A) h i).slot (liv:=liv) (A:=A) (y:=slAt s ws q i)
  rw[show b+32*((i+1:Nat):Int)=b+32*(i:Int)+32 by omega];exact this
theorem Bd.mono {b b':Int} {n:Cn} (h:Bd b n) (hb:b≤b'):Bd b' n:=by unfold Bd at h ⊢;omega
theorem Bd.page {liv:Int→Bool} {s:Sh} {ws:Nat→Int} {q b:Int} {n:Cn} (h:Bd b n):Bd (b+512) (n.page liv s ws q):=by
 have hs:=slots_bd (pgA s q (pgAt s ws q))
 have hl:=(h.slots (liv:=liv) (s:=s) (ws:=ws) (q:=q) (A:=pgA s q (pgAt s ws q)) (Pl.slots (pgA s q (pgAt s ws q))).toNat).mono (b':=b+512) (by omega)
 unfold Bd at h
 unfold Cn.page
 split
 ·unfold Bd;dsimp only;omega
 ·split
  ·unfold Bd;dsimp only;omega
  ·split
   ·unfold Bd;dsimp only;omega
   ·split
    ·exact hl
    ·unfold Bd;dsimp only;omega
theorem all_bd {liv:Int→Bool} {s:Sh} {ws:Nat→Int}:∀ q:Nat,Bd (512*q) (all liv s ws q)
 | 0=>by unfold all z Bd;dsimp only;omega
 |q+1=>by
  have:=(all_bd (liv:=liv) (s:=s) (ws:=ws) q).page (liv:=liv) (s:=s) (ws:=ws) (q:=q)
  rw[show(512:Int)*((q+1:Nat):Int)=512*(q:Int)+512 by omega];exact this
end Cn
end Go.Ma
namespace Go.Ma
open Go.Pl
theorem is_opn {x:Int} (hk:slK x=1):x=opn (slA x):=by
 have ho:okSl x=true:=by
  cases e:okSl x
  ·unfold slK at hk;rw[e]at hk;cases hk
  ·rfl
 have h1:x % 16=1:=by unfold slK at hk;rw[if_pos ho]at hk;exact hk
 unfold slA opn
 rw[if_pos ho]
 unfold okSl at ho
 rw[h1]at ho
 exact(of_decide_eq_true ho).symm
theorem is_empty {s:Sh} {q x:Int} (ho:okPg s q x=true) (hk:pgK s q x=0):x=0:=by
 have h1:x % 16=0:=by unfold pgK at hk;rw[if_pos ho]at hk;exact hk
 unfold okPg at ho
 rw[h1]at ho
 simp only[Bool.and_eq_true,decide_eq_true_eq]at ho
 have h2:=ho.1
 unfold putPg at h2
 split at h2
 ·rename_i h3
  have h4:=h3.2.2.2.2.2.2.1 rfl
  have h5:=h3.2.2.2.2.2.2.2 (by decide)
  omega
 ·exact h2.symm
theorem body_ok {s:Sh} {q h:Int} (hm:may s.p s.c s.m=true) (h0:0≤h) (h1:h<q) (h2:q<h+8) (h3:q<s.p):okPg s q (putPg 4 h 0)=true∧pgK s q (putPg 4 h 0)=4∧pgA s q (putPg 4 h 0)=h:=by
 have hb:=(may_iff _ _ _).1 hm
 have hv:putPg 4 h 0=4+16*h:=by unfold putPg;rw[if_pos (by omega)];omega
 have e1:(4+16*h) % 16=4:=by omega
 have e2:pt (4+16*h) 16=h:=by unfold pt;omega
 have e3:pt (4+16*h) 4096=0:=by unfold pt;omega
 have hp:0≤page s.p s.c s.m q:=by rw[page_yes hm (by omega) h3];omega
 have ok:okPg s q (putPg 4 h 0)=true:=by
  rw[hv]
  unfold okPg
  rw[e1,e2,e3]
  have g1:decide (putPg 4 h 0=4+16*h)=true:=decide_eq_true hv
  have g3:fits s q 4 h 0=true:=by unfold fits;simp;omega
  rw[g1,g3,decide_eq_true hp];rfl
 refine⟨ok,?_,?_⟩
 ·unfold pgK;rw[if_pos ok,hv,e1]
 ·unfold pgA;rw[if_pos ok,hv,e2]
theorem en_slot {s:Sh} {y:Int} (e1:okEn s y=true):enS s y<slots (enK s y):=by
 unfold enS enK
 rw[if_pos e1,if_pos e1]
 unfold okEn at e1
 simp only[Bool.and_eq_true,decide_eq_true_eq]at e1
 exact e1.2.2
namespace Rw
section
variable (s:Sh) (ws0:Nat→Int) (c:Int) (ws:Nat→Int) (q:Int)
def Free:Prop:=pgK s q (pgAt s ws0 q)=0∨(pgK s q (pgAt s ws0 q)=2∧∀ i,0≤i→i<slots (pgA s q (pgAt s ws0 q))→slK (slAt s ws0 q i)=1)
def Zs:Prop:=∀ i,0≤i→i<16→slAt s ws q i=0
def Un:Prop:=pgAt s ws q=pgAt s ws0 q∧∀ i,0≤i→i<16→slAt s ws q i=slAt s ws0 q i
def Em:Prop:=Free s ws0 q∧pgAt s ws q=0∧Zs s ws q
def Hl:Prop:=Free s ws0 q∧pgAt s ws q=held c∧Zs s ws q
def Bo (h:Int):Prop:=Free s ws0 q∧pgAt s ws q=putPg 4 h 0∧Zs s ws q
def Tr (j:Int):Prop:=pgAt s ws q=pgAt s ws0 q∧pgK s q (pgAt s ws0 q)=2∧0≤j∧j≤slots (pgA s q (pgAt s ws0 q))∧(∀ i,0≤i→i<j→slAt s ws q i=way c∧slAt s ws0 q i=opn (pgA s q (pgAt s ws0 q)))∧∀ i,j≤i→i<16→slAt s ws q i=slAt s ws0 q i
def Cl (i:Int):Prop:=Free s ws0 q∧pgAt s ws q=held c∧∀ j,0≤j→j<i→slAt s ws q j=0
def Sm (ws':Nat→Int):Prop:=pgAt s ws' q=pgAt s ws q∧∀ i,0≤i→i<16→slAt s ws' q i=slAt s ws q i
inductive Pq (h:Int):Prop
 | u (e:Un s ws0 ws q)
 | e (e:Em s ws0 ws q)
 | h (f:Free s ws0 q) (e:pgAt s ws q=held c)
 | b (e:Bo s ws0 ws q h) (h0:0≤h) (h1:h<q) (h2:q<h+8) (hh:pgAt s ws h=held c)
 | t (j:Int) (e:Tr s ws0 c ws q j)
end
section
variable {s:Sh} {ws0 ws ws':Nat→Int} {c q h:Int}
theorem Un.tr (e:Un s ws0 ws q) (hs:Sm s ws q ws'):Un s ws0 ws' q:=⟨hs.1.trans e.1,fun i i0 i1=>(hs.2 i i0 i1).trans (e.2 i i0 i1)⟩
theorem Zs.tr (e:Zs s ws q) (hs:Sm s ws q ws'):Zs s ws' q:=fun i i0 i1=>(hs.2 i i0 i1).trans (e i i0 i1)
theorem Em.tr (e:Em s ws0 ws q) (hs:Sm s ws q ws'):Em s ws0 ws' q:=⟨e.1,hs.1.trans e.2.1,e.2.2.tr hs⟩
theorem Hl.tr (e:Hl s ws0 c ws q) (hs:Sm s ws q ws'):Hl s ws0 c ws' q:=⟨e.1,hs.1.trans e.2.1,e.2.2.tr hs⟩
theorem Bo.tr (e:Bo s ws0 ws q h) (hs:Sm s ws q ws'):Bo s ws0 ws' q h:=⟨e.1,hs.1.trans e.2.1,e.2.2.tr hs⟩
theorem Sm.pg (hm:may s.p s.c s.m=true) {q0 y:Int} (a0:0≤q0) (a1:q0<s.p) (h0:0≤q) (h1:q<s.p) (hne:q≠q0):Sm s ws q (upW ws (page s.p s.c s.m q0) y):=
 ⟨by rw[pg_pg hm a0 a1 h0 h1,if_neg hne],fun i i0 i1=>sl_pg hm a0 a1 h0 i0⟩
theorem Sm.sl (hm:may s.p s.c s.m=true) {q0 i0 y:Int} (a0:0≤q0) (a1:q0<s.p) (b0:0≤i0) (b1:i0<16) (h0:0≤q) (h1:q<s.p) (hne:q≠q0):Sm s ws q (upW ws (slot s.p s.c s.m q0 i0) y):=
 ⟨pg_sl hm a0 a1 b0 b1 h0 h1,fun i j0 j1=>by rw[sl_sl hm a0 a1 b0 b1 h0 j0 j1,if_neg fun e=>hne e.1]⟩
theorem Pq.keep (h1:Pq s ws0 c ws q h) (hf:¬ Free s ws0 q):pgAt s ws q=pgAt s ws0 q:=by
 cases h1 with
 | u e=>exact e.1
 | e e=>exact absurd e.1 hf
 | h f e=>exact absurd f hf
 | b e=>exact absurd e.1 hf
 | t j e=>exact e.1
theorem not_free {k:Int} (hk:pgK s q (pgAt s ws0 q)=k) (h0:k≠0) (h2:k≠2):¬ Free s ws0 q:=fun hf=>by
 rcases hf with e |⟨e,-⟩<;>rw[hk]at e
 ·exact h0 e
 ·exact h2 e
theorem Pq.snd (hm:may s.p s.c s.m=true) (hsn:Snd s ws0) (c0:0≤c) (c1:c<s.c) (hall:∀ q,0≤q→q<s.p→Pq s ws0 c ws q h)
  (mg:∀ c' j,0≤c'→c'<s.c→0≤j→j<s.m→mgAt s ws c' j=mgAt s ws0 c' j):Snd s ws:=by
 have hb:=(may_iff _ _ _).1 hm
 have wn:=way_ne c c0 (by omega)
 refine⟨fun q q1=>?_,fun c' j h1 h2 hx=>?_,fun c' j c'' j' h1 h2 h3 ha hx hy=>?_⟩
 ·obtain⟨e1,e2⟩:=hsn.pg q q1
  cases hall q (by omega) q1 with
  |u e=>
   rw[e.1]
   refine⟨e1,⟨fun k j hj=>?_,fun k k' j hj=>?_,fun k k' k4=>?_,fun k k' k4 k3 j j1 j2=>?_⟩⟩
   ·rw[e.2 j (by omega) (by omega)];exact e2.sup k j hj
   ·rw[e.2 j (by omega) (by omega)];exact e2.emp k k' j hj
   ·have hbo:=Ad.ok_body e1 (beq_iff_eq.1 k4)
    have hbd:=e2.bod k k' k4
    obtain⟨A',hA'⟩:∃ A',pgA s q (pgAt s ws0 q)=A':=⟨_,rfl⟩
    rw[hA']at hbo hbd ⊢
    have hnf:¬ Free s ws0 A':=by
     obtain⟨k',hk'⟩:∃ k',pgK s A' (pgAt s ws0 A')=k':=⟨_,rfl⟩
     rw[hk']at hbd
     refine not_free hk' (fun e=>?_) (fun e=>?_)<;>rw[e]at hbd<;>simp at hbd
    rw[(hall A' hbo.1 (by omega)).keep hnf];exact hbd
   ·have hl:=large_bd e1 (beq_iff_eq.1 k3)
    have he:=e2.lar k k' k4 k3 j j1 j2
    rw[(hall (q+j) (by omega) (by omega)).keep (not_free he.1 (by decide) (by decide))];exact he
  |e e=>
   rw[e.2.1,pgK_zero]
   exact⟨okPg_zero hm (by omega) q1,SpB.oth rfl (fun j hj=>e.2.2 j (by omega) (by omega)) rfl rfl⟩
  |h f e=>
   rw[e]
   have ho:=held_ok hm (by omega:(0:Int)≤q) q1 c0 c1
   exact⟨ho.1,SpB.one (by rw[ho.2.1];rfl) (by rw[ho.2.1];rfl)⟩
  |b e g0 g1 g2 hh=>
   rw[e.2.1]
   have ho:=body_ok hm g0 g1 g2 q1
   refine⟨ho.1,SpB.four (by rw[ho.2.1];rfl) (fun j hj=>e.2.2 j (by omega) (by omega)) (by rw[ho.2.1];rfl) ?_⟩
   rw[ho.2.2,hh,(held_ok hm g0 (by omega) c0 c1).2.1];rfl
  |t j e=>
   obtain⟨t1,t2,t3,t4,t5,t6⟩:=e
   rw[t1]
   refine⟨e1,SpB.two (by rw[t2];rfl) fun i hi=>?_⟩
   by_cases hij:(i:Int)<j
   ·rw[(t5 i (by omega) hij).1]
    unfold slB
    rw[decide_eq_true (by omega:(i:Int)<slots (pgA s q (pgAt s ws0 q))),wn.2.1,wn.2.2];simp;exact c1
   ·rw[t6 i (by omega) (by omega)];exact e2.sup (by rw[t2];rfl) i hi
 ·rw[mg c' j (by omega) h1 (by omega) h2]at hx ⊢
  obtain⟨e1,e2,e3,e4⟩:=hsn.en c' j h1 h2 hx
  have hE:=en_bd e1
  have hS:=en_slot e1
  have hwk:slK (slAt s ws0 (enP s (mgAt s ws0 c' j)) (enS s (mgAt s ws0 c' j)))=2:=by rw[e4];exact(way_ne c' (by omega) (by omega)).2.1
  have hnf:¬ Free s ws0 (enP s (mgAt s ws0 c' j)):=fun hf=>by
   rcases hf with e |⟨-,e⟩
   ·rw[e]at e2;cases e2
   ·have:=e _ hE.2.2.1 (by rw[e3];exact hS)
    rw[hwk]at this;cases this
  have hk:=(hall _ hE.1 hE.2.1).keep hnf
  refine⟨e1,by rw[hk];exact e2,by rw[hk];exact e3,?_⟩
  cases hall _ hE.1 hE.2.1 with
  | u e=>rw[e.2 _ hE.2.2.1 hE.2.2.2];exact e4
  | e e=>exact absurd e.1 hnf
  | h f e=>exact absurd f hnf
  | b e=>exact absurd e.1 hnf
  |t j' e=>
   obtain⟨t1,t2,t3,t4,t5,t6⟩:=e
   by_cases hij:enS s (mgAt s ws0 c' j)<j'
   ·exfalso
    have h5:=(t5 _ hE.2.2.1 hij).2
    have hA:=Gv.ok_super (pgK_ne (s:=s) (x:=pgAt s ws0 (enP s (mgAt s ws0 c' j))) (by rw[t2];decide)) t2
    rw[h5,(opn_ne _ hA.1 (by omega)).2.1]at hwk;cases hwk
   ·rw[t6 _ (by omega) hE.2.2.2];exact e4
 ·have hc':(c'':Int)<s.c:=by unfold ahead at ha;omega
  rw[mg c' j (by omega) h1 (by omega) h2]at hx ⊢
  rw[mg c'' j' (by omega) hc' (by omega) h3]at hy ⊢
  exact hsn.dj c' j c'' j' h1 h2 h3 ha hx hy
theorem Free.none {p:Nat} (hf:Free s ws0 p):blkPg s ws0 p = []:=by
 rcases hf with e |⟨e,e2⟩
 ·exact blkPg_none (by rw[e];decide) (by rw[e];decide)
 ·have hA:=Gv.ok_super (pgK_ne (s:=s) (x:=pgAt s ws0 p) (by rw[e];decide)) e
  have hs:=slots_four hA.1 hA.2.1
  unfold blkPg
  rw[if_neg (by rw[e];decide),if_pos e]
  refine List.eq_nil_iff_forall_not_mem.2 fun y hy=>?_
  obtain⟨i,h1,h2,-⟩:=blkSl_mem.1 hy
  rw[e2 i (by omega) (by omega)]at h2;cases h2
end
end Rw
end Go.Ma
namespace Go.Ma
open Go.Pl
namespace Sa
section
variable (s:Sh) (ws0:Nat→Int) (c k f:Int)
def Noe (i:Int):Prop:=∀ j,0≤j→j<i→¬ (okEn s (mgAt s ws0 c j)=true∧enK s (mgAt s ws0 c j)=k)
def Has (p i:Int):Prop:=pgK s p (pgAt s ws0 p)=2∧pgA s p (pgAt s ws0 p)=k∧0≤i∧i<slots k∧slAt s ws0 p i=opn k
def Nos (j:Int):Prop:=∀ q,0≤q→q<j→∀ i,¬ Has s ws0 k ((f+q) % s.p) i
def Nop (j:Int):Prop:=∀ q,0≤q→q<j→pgAt s ws0 ((f+q) % s.p)≠0
def Nof (j:Int):Prop:=∀ q,0≤q→q<j→¬ Rw.Free s ws0 ((f+q) % s.p)
def Off (ws:Nat→Int) (p:Int):Prop:=∀ j:Nat,(j:Int)≠s.c+p→¬ (s.c+s.p+p*16≤(j:Int)∧(j:Int)<s.c+s.p+p*16+16)→ws j=ws0 j
def Org (p:Int):Prop:=Rw.Free s ws0 p∧Noe s ws0 c k s.m∧Nos s ws0 k f s.p∧∃ j,0≤j∧j<s.p∧p=(f+j) % s.p∧(pgAt s ws0 p=0∨Nof s ws0 f j)
inductive Ph (t:Sk) (ws:Nat→Int):Prop
 | tk (m:Tk) (e:t.nw=.tk m) (hd:t.dn=false) (hh:m.hit=false) (hw:ws=ws0) (no:Noe s ws0 c k m.i)
 | ht (m:Tk) (e:t.nw=.tk m) (hd:t.dn=false) (hh:m.hit=true) (hw:ws=ws0) (ok:okEn s (mgAt s ws0 c m.i)=true) (kk:enK s (mgAt s ws0 c m.i)=k) (hp:m.ep=enP s (mgAt s ws0 c m.i)) (hs:m.es=enS s (mgAt s ws0 c m.i))
 | sc (m:Sc) (e:t.nw=.sc m) (hd:t.dn=false) (hw:ws=ws0) (no:Noe s ws0 c k s.m) (ns:Nos s ws0 k f m.many) (n0:m.nx=0→m.i=0)
   (np:m.nx≠0→pgK s m.pg (pgAt s ws0 m.pg)=2∧pgA s m.pg (pgAt s ws0 m.pg)=k∧∀ i,0≤i→i<m.i→slAt s ws0 m.pg i≠opn k) (n2:m.nx=2→slAt s ws0 m.pg m.i=opn k)
 | pc (m:Pc) (e:t.nw=.pc m) (hd:t.dn=false) (hw:ws=ws0) (no:Noe s ws0 c k s.m) (ns:Nos s ws0 k f s.p) (ne:Nop s ws0 f m.many) (em:m.em=true→pgAt s ws0 m.pg=0)
 | no (e:t.nw=.no) (hd:t.dn=false) (hw:ws=ws0) (no:Noe s ws0 c k s.m) (ns:Nos s ws0 k f s.p) (ne:Nop s ws0 f s.p) (nf:Nof s ws0 f t.many)
 | st (m:St) (e:t.nw=.st m) (hd:t.dn=false) (no:Noe s ws0 c k s.m) (ns:Nos s ws0 k f s.p) (ne:Nop s ws0 f s.p) (nf:Nof s ws0 f t.many) (of:Off s ws0 ws m.p) (tr:Rw.Tr s ws0 c ws m.p m.i) (kk:m.k=pgA s m.p (pgAt s ws0 m.p)) (bk:m.bk=true→¬ Rw.Free s ws0 m.p)
 | b1 (m:Bi) (e:t.nw=.bi m) (hd:t.dn=false) (og:Org s ws0 c k f m.p) (of:Off s ws0 ws m.p) (hx:m.bd=false) (pg:pgAt s ws m.p=held c) (sl:∀ i,0≤i→i<m.i→slAt s ws m.p i=if i<slots k then way c else 0)
 | b2 (m:Bi) (e:t.nw=.bi m) (hd:t.dn=false) (og:Org s ws0 c k f m.p) (of:Off s ws0 ws m.p) (hx:m.bd=true) (pg:pgAt s ws m.p=super k c) (sl:∀ i,0≤i→i≤m.i→slAt s ws m.p i=way c) (so:∀ i,m.i<i→i<slots k→slAt s ws m.p i=opn k) (sz:∀ i,slots k≤i→i<16→slAt s ws m.p i=0)
 | f1 (i:Int) (hd:t.dn=true) (hf:t.fd=true) (i0:0≤i) (i1:i<s.m) (ok:okEn s (mgAt s ws0 c i)=true) (kk:enK s (mgAt s ws0 c i)=k) (hp:t.pg=enP s (mgAt s ws0 c i)) (hs:t.sl=enS s (mgAt s ws0 c i)) (hw:ws=upW ws0 (mag s.p s.c s.m c i) 0)
 | f2 (hd:t.dn=true) (hf:t.fd=true) (p0:0≤t.pg) (p1:t.pg<s.p) (h:Has s ws0 k t.pg t.sl) (hw:ws=upW ws0 (slot s.p s.c s.m t.pg t.sl) (way c))
 | f3 (hd:t.dn=true) (hf:t.fd=true) (p0:0≤t.pg) (p1:t.pg<s.p) (og:Org s ws0 c k f t.pg) (hl:t.sl=0) (of:Off s ws0 ws t.pg) (pg:pgAt s ws t.pg=super k c) (sl:slAt s ws t.pg 0=way c) (so:∀ i,0<i→i<slots k→slAt s ws t.pg i=opn k) (sz:∀ i,slots k≤i→i<16→slAt s ws t.pg i=0)
 | n (hd:t.dn=true) (hf:t.fd=false) (hw:ws=ws0) (no:Noe s ws0 c k s.m) (ns:Nos s ws0 k f s.p) (nf:Nof s ws0 f s.p)
structure Al (t:Sk) (w:Wd):Prop where
 wf:t.wf
 of:w.of s
 ok:may s.p s.c s.m=true
 es:t.s=s
 ec:t.c=c∧0≤c∧c<s.c
 kk:t.k=k∧0≤k∧k≤3
 ff:t.f=f∧0≤f∧f<s.p
 snd:Snd s ws0
 ph:Ph s ws0 c k f t w.ws
end
section
variable {s:Sh} {ws0 ws:Nat→Int} {c k f p:Int} {t:Sk} {w:Wd}
theorem Off.pg (hm:may s.p s.c s.m=true) (p0:0≤p) (p1:p<s.p) (h:Off s ws0 ws p) (y:Int):Off s ws0 (upW ws (page s.p s.c s.m p) y) p:=fun j j0 j1=>by
 have hb:=(may_iff _ _ _).1 hm
 show(if j=(page s.p s.c s.m p).toNat then y else ws j)=ws0 j
 rw[page_yes hm p0 p1,if_neg (by omega)];exact h j j0 j1
theorem Off.sl (hm:may s.p s.c s.m=true) (p0:0≤p) (p1:p<s.p) {i:Int} (i0:0≤i) (i1:i<16) (h:Off s ws0 ws p) (y:Int):Off s ws0 (upW ws (slot s.p s.c s.m p i) y) p:=fun j j0 j1=>by
 have hb:=(may_iff _ _ _).1 hm
 show(if j=(slot s.p s.c s.m p i).toNat then y else ws j)=ws0 j
 rw[slot_yes hm p0 p1 i0 i1,if_neg (by omega)];exact h j j0 j1
theorem Off.refl:Off s ws0 ws0 p:=fun _ _ _=>rfl
theorem Off.same (hm:may s.p s.c s.m=true) (p0:0≤p) (p1:p<s.p) (h:Off s ws0 ws p) (h1:pgAt s ws p=pgAt s ws0 p) (h2:∀ i,0≤i→i<16→slAt s ws p i=slAt s ws0 p i):ws=ws0:=by
 have hb:=(may_iff _ _ _).1 hm
 funext j
 by_cases e1:(j:Int)=s.c+p
 ·unfold pgAt at h1
  rw[page_yes hm p0 p1,show(s.c+p).toNat=j by omega]at h1
  exact h1
 ·by_cases e2:s.c+s.p+p*16≤(j:Int)∧(j:Int)<s.c+s.p+p*16+16
  ·have:=h2 ((j:Int) - (s.c+s.p+p*16)) (by omega) (by omega)
   unfold slAt at this
   rw[show(s.c+s.p+p*16+((j:Int) - (s.c+s.p+p*16))).toNat=j by omega]at this
   exact this
  ·exact h j e1 e2
theorem Nos.next {j:Int} (h:Nos s ws0 k f j) (hn:∀ i,¬ Has s ws0 k ((f+j) % s.p) i):Nos s ws0 k f (j+1):=fun q q0 q1=>by
 by_cases e:q=j
 ·rw[e];exact hn
 ·exact h q q0 (by omega)
theorem Nop.next {j:Int} (h:Nop s ws0 f j) (hn:pgAt s ws0 ((f+j) % s.p)≠0):Nop s ws0 f (j+1):=fun q q0 q1=>by
 by_cases e:q=j
 ·rw[e];exact hn
 ·exact h q q0 (by omega)
theorem Nof.next {j:Int} (h:Nof s ws0 f j) (hn:¬ Rw.Free s ws0 ((f+j) % s.p)):Nof s ws0 f (j+1):=fun q q0 q1=>by
 by_cases e:q=j
 ·rw[e];exact hn
 ·exact h q q0 (by omega)
theorem Al.step (h:Al s ws0 c k f t w):Al s ws0 c k f (t.step w).1 (t.step w).2:=by
 have hm:=h.ok
 have hb:=(may_iff _ _ _).1 hm
 have hkp:=Sk.step_kp (t:=t) (w:=w)
 obtain⟨hc,c0,c1⟩:=h.ec
 obtain⟨hk,k0,k1⟩:=h.kk
 obtain⟨hf,f0,f1⟩:=h.ff
 have hts:=h.es
 have hsk:=slots_four k0 k1
 suffices hh:Ph s ws0 c k f (t.step w).1 (t.step w).2.ws from
  ⟨Sk.step_wf h.wf,Sk.step_of h.of,hm,hkp.1.trans hts,⟨hkp.2.1.trans hc,c0,c1⟩,⟨hkp.2.2.1.trans hk,k0,k1⟩,⟨hkp.2.2.2.trans hf,f0,f1⟩,h.snd,hh⟩
 have hmod:∀ j,0≤(f+j) % s.p∧(f+j) % s.p<s.p:=fun j=>⟨Int.emod_nonneg _ (by omega),Int.emod_lt_of_pos _ (by omega)⟩
 have hok:∀ q,0≤q→q<s.p→okPg s q (pgAt s ws0 q)=true:=fun q q0 q1=>by
  have:=(h.snd.pg q.toNat (by omega)).1
  rw[show((q.toNat:Nat):Int)=q by omega]at this;exact this
 cases h.ph with
 |tk m e hd hh hw no=>
  obtain⟨ho,hmd⟩:=h.wf.nw hd
  rw[e]at ho hmd
  have hmd:m.dn=false:=hmd
  obtain⟨o1,o2,o3,o4,-,o6⟩:=ho
  obtain⟨-,-,-,i0,i1⟩:=o1.of hmd
  rw[o2,hts]at i1
  have hat:m.at'=mag s.p s.c s.m c m.i:=by unfold Tk.at';rw[o2,hts,o3,hc]
  have hg:w.get m.at'=mgAt s ws0 c m.i:=by rw[hat,mag_at hm c0 c1 i0 i1,hw]
  rw[Sk.step_tk hd e]
  cases hhits:m.hits w
  ·have hnk:¬ (okEn s (mgAt s ws0 c m.i)=true∧enK s (mgAt s ws0 c m.i)=k):=fun ⟨g1,g2⟩=>by
    unfold Tk.hits at hhits
    rw[hg,o2,hts,o4,hk,g1,decide_eq_true g2]at hhits;cases hhits
   have es:m.step w=({ m with i:=m.i+1,dn:=decide (m.i+1=m.s.m) },w.load m.c m.at'):=by
    unfold Tk.step;rw[if_neg (by rw[hmd];decide),if_neg (by rw[hh];decide),if_neg (by rw[hhits];decide)]
   have hno:Noe s ws0 c k (m.i+1):=fun j j0 j1=>by
    by_cases ej:j=m.i
    ·rw[ej];exact hnk
    ·exact no j j0 (by omega)
   have hsm:m.s.m=s.m:=by rw[o2,hts]
   rw[es]
   by_cases hl:m.i+1=s.m
   ·rw[set_af _ (by show decide (m.i+1=m.s.m)=true;rw[hsm];exact decide_eq_true hl)]
    have ea:({ t with nw:=.tk { m with i:=m.i+1,dn:=decide (m.i+1=m.s.m) } }:Sk).after = { t with nw:=.sc (Sc.new t.s t.c t.k t.f) }:=by
     show(if m.fd then _ else _:Sk)=_;rw[o6 hmd];rfl
    rw[ea]
    exact .sc _ rfl hd hw (by rw[← hl];exact hno) (fun q q0 q1=>by have q1:q<0:=q1;omega) (fun _=>rfl) (fun g=>absurd rfl g) (fun g=>by cases g)
   ·rw[set_go _ (by show decide (m.i+1=m.s.m)=false;rw[hsm];exact decide_eq_false hl)]
    exact .tk _ rfl hd hh hw hno
  ·have hh2:=hhits
   unfold Tk.hits at hh2
   rw[hg,o2,hts,o4,hk]at hh2
   simp only[Bool.and_eq_true,decide_eq_true_eq]at hh2
   have es:m.step w=({ m with ep:=enP m.s (w.get m.at'),es:=enS m.s (w.get m.at'),ek:=enK m.s (w.get m.at'),hit:=true },w.load m.c m.at'):=by
    unfold Tk.step;rw[if_neg (by rw[hmd];decide),if_neg (by rw[hh];decide),if_pos hhits]
   rw[es,set_go _ (by exact hmd)]
   exact .ht _ rfl hd rfl hw hh2.1 hh2.2 (by show enP m.s (w.get m.at')=_;rw[hg,o2,hts]) (by show enS m.s (w.get m.at')=_;rw[hg,o2,hts])
 |ht m e hd hh hw ok kk hp hs=>
  obtain⟨ho,hmd⟩:=h.wf.nw hd
  rw[e]at ho hmd
  have hmd:m.dn=false:=hmd
  obtain⟨o1,o2,o3,o4,-,o6⟩:=ho
  obtain⟨-,-,-,i0,i1⟩:=o1.of hmd
  rw[o2,hts]at i1
  have hat:m.at'=mag s.p s.c s.m c m.i:=by unfold Tk.at';rw[o2,hts,o3,hc]
  have es:m.step w=({ m with fd:=true,dn:=true },w.store m.c m.at' 0):=by
   unfold Tk.step;rw[if_neg (by rw[hmd];decide),if_pos hh]
  rw[Sk.step_tk hd e,es,set_af _ rfl]
  exact .f1 m.i rfl rfl i0 i1 ok kk hp hs (by rw[store_ws,hat,hw])
 |sc m e hd hw no ns n0 np n2=>
  obtain⟨ho,hmd⟩:=h.wf.nw hd
  rw[e]at ho hmd
  have hmd:m.dn=false:=hmd
  obtain⟨o1,o2,o3,o4,o5,-,o7,-⟩:=ho
  obtain⟨-,-,-,-,-,q0,q1,i0,i1,x0,x1⟩:=o1.of hmd
  have hsp:m.s.p=s.p:=by rw[o2,hts]
  have hpgd:m.pg=(f+m.many) % s.p:=by unfold Sc.pg;rw[hsp,o5,hf]
  have hmk:m.k=k:=o4.trans hk
  rw[hmk]at i1
  have hq:=hmod m.many
  rw[← hpgd]at hq
  have hgp:w.get m.pat=pgAt s ws0 m.pg:=by unfold Sc.pat;rw[o2,hts,← hw];rfl
  have hat:m.at'=slot s.p s.c s.m m.pg m.i:=by unfold Sc.at';rw[o2,hts]
  have hgs:w.get m.at'=slAt s ws0 m.pg m.i:=by rw[hat,slot_at hm hq.1 hq.2 i0 (by omega),hw]
  -- on to the next page
  have turn:∀ (m':Sc) (w':Wd),m'.s=m.s→m'.c=m.c→m'.k=m.k→m'.f=m.f→m'.many=m.many→m'.fd=false→w'.ws=ws0→(∀ i,¬ Has s ws0 k m.pg i)→Ph s ws0 c k f (t.set (.sc m'.turn)) w'.ws:=fun m' w' g1 g2 g3 g4 g5 g6 g7 g8=>by
   rw[hpgd]at g8
   have ns2:=ns.next g8
   by_cases hl:m.many+1=s.p
   ·rw[set_af _ (by show decide (m'.many+1=m'.s.p)=true;rw[g1,g5,hsp];exact decide_eq_true hl)]
    have ea:({ t with nw:=.sc m'.turn }:Sk).after = { t with nw:=.pc (Pc.new t.s t.c t.f) }:=by
     show(if m'.turn.fd then _ else _:Sk)=_;rw[show m'.turn.fd=false from g6];rfl
    rw[ea]
    exact .pc _ rfl hd g7 no (by rw[← hl];exact ns2) (fun q q0 q1=>by have q1:q<0:=q1;omega) (fun g=>by cases g)
   ·rw[set_go _ (by show decide (m'.many+1=m'.s.p)=false;rw[g1,g5,hsp];exact decide_eq_false hl)]
    exact .sc _ rfl hd g7 no (by show Nos s ws0 k f (m'.many+1);rw[g5];exact ns2) (fun _=>rfl) (fun g=>absurd rfl g) (fun g=>by cases g)
  rw[Sk.step_sc hd e]
  by_cases hx0:m.nx=0
  ·cases hmine:m.mine w
   ·have es:m.step w=(m.turn,w.load m.c m.pat):=by
     unfold Sc.step;rw[if_neg (by rw[hmd];decide),if_pos hx0,if_neg (by rw[hmine];decide)]
    rw[es]
    refine turn m _ rfl rfl rfl rfl rfl (o7 hmd) hw fun i hi=>?_
    obtain⟨g1,g2,-⟩:=hi
    unfold Sc.mine at hmine
    rw[hgp,o2,hts,hmk,hok m.pg hq.1 hq.2,decide_eq_true g1,decide_eq_true g2]at hmine;cases hmine
   ·have es:m.step w=({ m with nx:=1 },w.load m.c m.pat):=by
     unfold Sc.step;rw[if_neg (by rw[hmd];decide),if_pos hx0,if_pos hmine]
    unfold Sc.mine at hmine
    rw[hgp,o2,hts,hmk]at hmine
    simp only[Bool.and_eq_true,decide_eq_true_eq]at hmine
    rw[es,set_go _ (by exact hmd)]
    exact .sc _ rfl hd hw no ns (fun g=>by cases g) (fun _=>⟨hmine.1.2,hmine.2,fun i i0 i1=>by have i1:i<m.i:=i1;rw[n0 hx0]at i1;omega⟩) (fun g=>by cases g)
  ·obtain⟨p1,p2,p3⟩:=np hx0
   -- the slot is none
   have miss:∀ (w':Wd),w'.ws=ws0→slAt s ws0 m.pg m.i≠opn k→Ph s ws0 c k f (t.set (.sc m.miss)) w'.ws:=fun w' g7 g8=>by
    unfold Sc.miss
    by_cases hl:m.i+1=slots m.k
    ·rw[if_pos hl]
     show Ph s ws0 c k f (t.set (.sc (Sc.turn ⟨m.s,m.c,_,m.f,m.many,m.i+1,1,m.fd,m.dn⟩))) w'.ws
     rw[hmk]at hl
     refine turn ⟨m.s,m.c,_,m.f,m.many,m.i+1,1,m.fd,m.dn⟩ w' rfl rfl rfl rfl rfl (o7 hmd) g7 fun i ⟨_,_,a1,a2,a3⟩=>?_
     by_cases ei:i=m.i
     ·rw[ei]at a3;exact g8 a3
     ·exact p3 i a1 (by omega) a3
    ·rw[if_neg hl,set_go _ (by exact hmd)]
     rw[hmk]at hl
     refine .sc _ rfl hd g7 no ns (fun g=>by cases g) (fun _=>⟨p1,p2,fun i i0 i1=>?_⟩) (fun g=>by cases g)
     have i1:i<m.i+1:=i1
     by_cases ei:i=m.i
     ·rw[ei];exact g8
     ·exact p3 i i0 (by omega)
   by_cases hx1:m.nx=1
   ·by_cases hz:slAt s ws0 m.pg m.i=opn k
    ·have es:m.step w=({ m with nx:=2 },w.load m.c m.at'):=by
      unfold Sc.step;rw[if_neg (by rw[hmd];decide),if_neg hx0,if_pos hx1,hgs,hmk,if_pos hz]
     rw[es,set_go _ (by exact hmd)]
     exact .sc _ rfl hd hw no ns (fun g=>by cases g) (fun _=>⟨p1,p2,p3⟩) (fun _=>hz)
    ·have es:m.step w=(m.miss,w.load m.c m.at'):=by
      unfold Sc.step;rw[if_neg (by rw[hmd];decide),if_neg hx0,if_pos hx1,hgs,hmk,if_neg hz]
     rw[es]
     exact miss _ hw hz
   ·have hz:=n2 (by omega)
    have es:m.step w=({ m with fd:=true,dn:=true },w.swap m.c m.at' (opn m.k) (way m.c)):=by
     unfold Sc.step;rw[if_neg (by rw[hmd];decide),if_neg hx0,if_neg hx1,hgs,hmk,if_pos hz]
    rw[es,set_af _ rfl]
    refine .f2 rfl rfl hq.1 hq.2 ⟨p1,p2,i0,i1,hz⟩ ?_
    rw[swap_yes (by rw[hgs,hmk];exact hz),hat,hw,o3,hc];rfl
 |pc m e hd hw no ns ne em=>
  obtain⟨ho,hmd⟩:=h.wf.nw hd
  rw[e]at ho hmd
  have hmd:m.dn=false:=hmd
  obtain⟨o1,o2,o3,o4,o5,o6,-⟩:=ho
  obtain⟨-,-,-,-,-,q0,q1⟩:=o1.of hmd
  have hsp:m.s.p=s.p:=by rw[o2,hts]
  rw[hsp]at q1
  have hpgd:m.pg=(f+m.many) % s.p:=by unfold Pc.pg;rw[hsp,o4,hf]
  have hq:=hmod m.many
  rw[← hpgd]at hq
  have hat:m.at'=page s.p s.c s.m m.pg:=by unfold Pc.at';rw[o2,hts]
  have hgp:w.get m.at'=pgAt s ws0 m.pg:=by rw[hat,← hw];rfl
  rw[Sk.step_pc hd e]
  cases hem:m.em
  ·by_cases hz:pgAt s ws0 m.pg=0
   ·have es:m.step w=({ m with em:=true },w.load m.c m.at'):=by
     unfold Pc.step;rw[if_neg (by rw[hmd];decide),if_neg (by rw[hem];decide),hgp,if_pos hz]
    rw[es,set_go _ (by exact hmd)]
    exact .pc _ rfl hd hw no ns ne (fun _=>hz)
   ·have es:m.step w=(m.next,w.load m.c m.at'):=by
     unfold Pc.step;rw[if_neg (by rw[hmd];decide),if_neg (by rw[hem];decide),hgp,if_neg hz]
    have ne2:=ne.next (by rw[← hpgd];exact hz)
    rw[es]
    by_cases hl:m.many+1=s.p
    ·rw[set_af _ (by show decide (m.many+1=m.s.p)=true;rw[hsp];exact decide_eq_true hl)]
     have ea:({ t with nw:=.pc m.next }:Sk).after = { t with nw:=.no }:=by
      show(if m.next.fd then _ else _:Sk)=_;rw[show m.next.fd=false from o6 hmd];rfl
     rw[ea]
     exact .no rfl hd hw no ns (by rw[← hl];exact ne2) (fun q q0 q1=>by have q1:q<t.many:=q1;omega)
    ·rw[set_go _ (by show decide (m.many+1=m.s.p)=false;rw[hsp];exact decide_eq_false hl)]
     exact .pc _ rfl hd hw no ns ne2 (fun g=>by cases g)
  ·have hz:=em hem
   have es:m.step w=({ m with fd:=true,dn:=true },w.swap m.c m.at' 0 (held m.c)):=by
    unfold Pc.step;rw[if_neg (by rw[hmd];decide),if_pos hem,hgp,if_pos hz]
   rw[es,set_af _ rfl]
   have hws:(w.swap m.c m.at' 0 (held m.c)).ws=upW ws0 (page s.p s.c s.m m.pg) (held c):=by rw[swap_yes (hgp.trans hz),hat,hw,o3,hc]
   rw[hws]
   refine .b1 (Bi.new t.s t.c m.pg t.k) rfl hd ⟨.inl (by show pgK s m.pg (pgAt s ws0 m.pg)=0;rw[hz,pgK_zero]),no,ns,m.many,q0,q1,hpgd,.inl hz⟩ (Off.refl.pg hm hq.1 hq.2 _) rfl ?_ (fun i i0 i1=>by have i1:i<0:=i1;omega)
   show pgAt s _ m.pg=held c
   rw[pg_pg hm hq.1 hq.2 hq.1 hq.2,if_pos rfl]
 |no e hd hw no ns ne nf=>
  obtain⟨g1,g2,g3,g4,g5,g6,g7,g8⟩:=h.wf.of hd
  rw[hts]at g8
  have hhere:t.here=(f+t.many) % s.p:=by unfold Sk.here;rw[hts,hf]
  have hq:=hmod t.many
  rw[← hhere]at hq
  have hgp:w.get t.pat=pgAt s ws0 t.here:=by unfold Sk.pat;rw[hts,← hw];rfl
  rw[Sk.step_no hd e]
  show Ph s ws0 c k f (t.look w) (w.load t.c t.pat).ws
  unfold Sk.look
  split
  ·rename_i hsup
   unfold Sk.isSup at hsup
   rw[hgp,hts]at hsup
   simp only[Bool.and_eq_true,decide_eq_true_eq]at hsup
   have hA:=Gv.ok_super hsup.1 hsup.2
   have hs4:=slots_four hA.1 hA.2.1
   rw[hgp,hts]
   exact .st (St.new s t.c t.here (pgA s t.here (pgAt s ws0 t.here))) rfl hd no ns ne nf (by rw[show(w.load t.c t.pat).ws=ws0 from hw];exact Off.refl) (by rw[show(w.load t.c t.pat).ws=ws0 from hw];exact⟨rfl,hsup.2,Int.le_refl _,by show 0≤slots (pgA s t.here (pgAt s ws0 t.here));omega,fun i i0 i1=>by have i1:i<0:=i1;omega,fun i i0 i1=>rfl⟩) rfl (fun g=>by cases g)
  ·rename_i hsup
   have hnf:¬ Rw.Free s ws0 ((f+t.many) % s.p):=fun hfr=>by
    rw[← hhere]at hfr
    rcases hfr with g |⟨g,-⟩
    ·have hz:=is_empty (hok t.here hq.1 hq.2) g
     rw[hhere]at hz
     exact ne t.many g7 g8 hz
    ·apply hsup
     unfold Sk.isSup
     rw[hgp,hts,hok t.here hq.1 hq.2,decide_eq_true g];rfl
   have nf2:=nf.next hnf
   unfold Sk.turn
   rw[hts]
   by_cases hl:t.many+1=s.p
   ·exact .n (by show decide (t.many+1=s.p)=true;exact decide_eq_true hl) (h.wf.fd hd) hw no ns (by rw[← hl];exact nf2)
   ·exact .no rfl (by show decide (t.many+1=s.p)=false;exact decide_eq_false hl) hw no ns ne nf2
 |st m e hd no ns ne nf of tr kk bk=>
  obtain⟨g1,g2,g3,g4,g5,g6,g7,g8⟩:=h.wf.of hd
  rw[hts]at g8
  obtain⟨ho,hmd⟩:=h.wf.nw hd
  rw[e]at ho hmd
  have hmd:m.dn=false:=hmd
  obtain⟨o1,o2,o3,o4,o5⟩:=ho
  have hhere:t.here=(f+t.many) % s.p:=by unfold Sk.here;rw[hts,hf]
  have hpe:m.p=(f+t.many) % s.p:=o4.trans hhere
  have hq:=hmod t.many
  rw[← hpe]at hq
  obtain⟨t1,t2,t3,t4,t5,t6⟩:=tr
  have hA:=Gv.ok_super (pgK_ne (s:=s) (x:=pgAt s ws0 m.p) (by rw[t2];decide)) t2
  have hs4:=slots_four hA.1 hA.2.1
  have hsup:∀ i:Nat,i<16→slB s.c (pgA s m.p (pgAt s ws0 m.p)) i (slAt s ws0 m.p i)=true:=by
   have:=(h.snd.pg m.p.toNat (by omega)).2
   rw[show((m.p.toNat:Nat):Int)=m.p by omega]at this
   exact this.sup (by rw[t2];rfl)
  obtain⟨A,hAe⟩:∃ A,pgA s m.p (pgAt s ws0 m.p)=A:=⟨_,rfl⟩
  rw[hAe]at kk t4 t5 hA hs4 hsup
  have hat:∀ j,m.at' j=slot s.p s.c s.m m.p j:=fun j=>by unfold St.at';rw[o2,hts]
  have hpat:m.pat=page s.p s.c s.m m.p:=by unfold St.pat;rw[o2,hts]
  have hmc:m.c=c:=o3.trans hc
  have turnN:∀ (x:Nw) (ws':Nat→Int),ws'=ws0→¬ Rw.Free s ws0 m.p→Ph s ws0 c k f (({ t with nw:=x }:Sk).turn) ws':=fun x ws' g7 g8'=>by
   have nf2:=nf.next (by rw[← hpe];exact g8')
   unfold Sk.turn
   by_cases hl:t.many+1=s.p
   ·exact .n (by show decide (t.many+1=t.s.p)=true;rw[hts];exact decide_eq_true hl) (h.wf.fd hd) g7 no ns (by rw[← hl];exact nf2)
   ·exact .no rfl (by show decide (t.many+1=t.s.p)=false;rw[hts];exact decide_eq_false hl) g7 no ns ne nf2
  rw[Sk.step_st' hd e]
  rcases St.step_cases m w with⟨e1,-⟩|⟨-,⟨hb1,e2⟩|⟨hb1,hi,e2⟩|⟨hb1,hi,hg,e2⟩|⟨hb1,hi,hg,e2⟩⟩
  ·rw[hmd]at e1;cases e1
  ·
   obtain⟨-,-,-,-,-,-,a7,a8,a9⟩:=o1.of hmd
   have a9:=a9 hb1
   have hws:(w.store m.c (m.at' (m.i - 1)) (opn m.k)).ws=upW w.ws (slot s.p s.c s.m m.p (m.i - 1)) (opn A):=by rw[store_ws,hat,kk]
   rw[e2]
   show Ph s ws0 c k f (t.set (.st { m with i:=m.i - 1,dn:=decide (m.i - 1=0) })) (w.store m.c (m.at' (m.i - 1)) (opn m.k)).ws
   rw[hws]
   have of2:=of.sl hm hq.1 hq.2 (i:=m.i - 1) (by omega) (by omega) (opn A)
   have tr2:Rw.Tr s ws0 c (upW w.ws (slot s.p s.c s.m m.p (m.i - 1)) (opn A)) m.p (m.i - 1):=by
    refine⟨(pg_sl hm hq.1 hq.2 (by omega) (by omega) hq.1 hq.2).trans t1,t2,by omega,by rw[hAe];omega,fun i i0 i1=>?_,fun i i0 i1=>?_⟩
    ·rw[sl_sl hm hq.1 hq.2 (by omega) (by omega) hq.1 i0 (by omega),if_neg (by omega),hAe];exact t5 i i0 (by omega)
    ·rw[sl_sl hm hq.1 hq.2 (by omega) (by omega) hq.1 (by omega) i1]
     split
     ·rename_i g;rw[g.2];exact(t5 (m.i - 1) (by omega) (by omega)).2.symm
     ·exact t6 i (by omega) i1
   by_cases hl:m.i - 1=0
   ·rw[set_af _ (by show decide (m.i - 1=0)=true;exact decide_eq_true hl)]
    have ea:({ t with nw:=.st { m with i:=m.i - 1,dn:=decide (m.i - 1=0) } }:Sk).after=({ t with nw:=.st { m with i:=m.i - 1,dn:=decide (m.i - 1=0) } }:Sk).turn:=by
     show(if m.hd then _ else _:Sk)=_;rw[o5 hmd];rfl
    rw[ea]
    rw[hl]at tr2 of2 ⊢
    exact turnN _ _ (of2.same hm hq.1 hq.2 tr2.1 tr2.2.2.2.2.2) (bk hb1)
   ·rw[set_go _ (by show decide (m.i - 1=0)=false;exact decide_eq_false hl)]
    exact .st _ rfl hd no ns ne nf of2 tr2 (by rw[hAe];exact kk) bk
  ·
   have hws:(w.store m.c m.pat (held m.c)).ws=upW w.ws (page s.p s.c s.m m.p) (held c):=by rw[store_ws,hpat,hmc]
   rw[e2]
   show Ph s ws0 c k f (t.set (.st { m with hd:=true,dn:=true })) (w.store m.c m.pat (held m.c)).ws
   rw[hws,set_af _ rfl]
   show Ph s ws0 c k f (({ t with nw:=.st { m with hd:=true,dn:=true } }:Sk).bind t.here) _
   have hpp:t.here=m.p:=o4.symm
   rw[hpp]
   refine .b1 (Bi.new t.s t.c m.p t.k) rfl hd ⟨.inr ⟨t2,fun i i0 i1=>?_⟩,no,ns,t.many,g7,g8,hpe,.inr nf⟩ (of.pg hm hq.1 hq.2 _) rfl ?_ (fun i i0 i1=>by have i1:i<0:=i1;omega)
   ·have i1:i<slots (pgA s m.p (pgAt s ws0 m.p)):=i1
    rw[hAe]at i1
    show slK (slAt s ws0 m.p i)=1
    rw[(t5 i i0 (by rw[hi,kk];exact i1)).2];exact(opn_ne A hA.1 (by omega)).2.1
   ·show pgAt s _ m.p=held c
    rw[pg_pg hm hq.1 hq.2 hq.1 hq.2,if_pos rfl]
  ·
   rw[kk]at hi
   have hgs:slAt s w.ws m.p m.i=opn A:=by
    rw[hat,kk,slot_at hm hq.1 hq.2 t3 (by omega)]at hg;exact hg
   have hws:(w.swap m.c (m.at' m.i) (opn m.k) (way m.c)).ws=upW w.ws (slot s.p s.c s.m m.p m.i) (way c):=by rw[swap_yes hg,hat,hmc]
   rw[e2]
   show Ph s ws0 c k f (t.set (.st { m with i:=m.i+1 })) (w.swap m.c (m.at' m.i) (opn m.k) (way m.c)).ws
   rw[hws,set_go _ (by exact hmd)]
   refine .st _ rfl hd no ns ne nf (of.sl hm hq.1 hq.2 t3 (by omega) _) ?_ (by rw[hAe];exact kk) bk
   show Rw.Tr s ws0 c (upW w.ws (slot s.p s.c s.m m.p m.i) (way c)) m.p (m.i+1)
   refine⟨(pg_sl hm hq.1 hq.2 (by omega) (by omega) hq.1 hq.2).trans t1,t2,by omega,by rw[hAe];omega,fun i i0 i1=>?_,fun i i0 i1=>?_⟩
   ·rw[hAe,sl_sl hm hq.1 hq.2 (by omega) (by omega) hq.1 i0 (by omega)]
    by_cases g:i=m.i
    ·subst g
     rw[if_pos ⟨rfl,rfl⟩]
     exact⟨rfl,(t6 _ (Int.le_refl _) (by omega)).symm.trans hgs⟩
    ·rw[if_neg (by omega)];exact t5 i i0 (by omega)
   ·rw[sl_sl hm hq.1 hq.2 (by omega) (by omega) hq.1 (by omega) i1,if_neg (by omega)];exact t6 i (by omega) i1
  ·
   rw[kk]at hi
   have hgs:slAt s w.ws m.p m.i≠opn A:=by
    rw[hat,kk,slot_at hm hq.1 hq.2 t3 (by omega)]at hg;exact hg
   have hws:(w.swap m.c (m.at' m.i) (opn m.k) (way m.c)).ws=w.ws:=swap_no hg
   have hnf:¬ Rw.Free s ws0 m.p:=fun hfr=>by
    rcases hfr with g |⟨-,g⟩
    ·rw[t2]at g;cases g
    ·rw[hAe]at g
     have g1:=g m.i t3 (by omega)
     have g2:=hsup m.i.toNat (by omega)
     rw[show((m.i.toNat:Nat):Int)=m.i by omega]at g2
     unfold slB at g2
     rw[decide_eq_true (by omega:m.i<slots A),g1]at g2
     have g3:slA (slAt s ws0 m.p m.i)=A:=by simpa using g2
     have g4:=is_opn g1
     rw[g3]at g4
     exact hgs ((t6 _ (Int.le_refl _) (by omega)).trans g4)
   rw[e2]
   show Ph s ws0 c k f (t.set (.st { m with bk:=true,dn:=decide (m.i=0) })) (w.swap m.c (m.at' m.i) (opn m.k) (way m.c)).ws
   rw[hws]
   have tr2:Rw.Tr s ws0 c w.ws m.p m.i:=⟨t1,t2,t3,by rw[hAe];exact t4,by rw[hAe];exact t5,t6⟩
   by_cases hl:m.i=0
   ·rw[set_af _ (by show decide (m.i=0)=true;exact decide_eq_true hl)]
    have ea:({ t with nw:=.st { m with bk:=true,dn:=decide (m.i=0) } }:Sk).after=({ t with nw:=.st { m with bk:=true,dn:=decide (m.i=0) } }:Sk).turn:=by
     show(if m.hd then _ else _:Sk)=_;rw[o5 hmd];rfl
    rw[ea]
    exact turnN _ _ (of.same hm hq.1 hq.2 t1 fun i i0 i1=>t6 i (by omega) i1) hnf
   ·rw[set_go _ (by show decide (m.i=0)=false;exact decide_eq_false hl)]
    exact .st _ rfl hd no ns ne nf of tr2 (by rw[hAe];exact kk) fun _=>hnf
 |b1 m e hd og of hx pg sl=>
  obtain⟨ho,hmd⟩:=h.wf.nw hd
  rw[e]at ho hmd
  have hmd:m.dn=false:=hmd
  obtain⟨o1,o2,o3,o4,o5,o6,o7⟩:=ho
  obtain⟨-,-,-,p0,p1,-,i0,i1,-⟩:=o1.of hmd
  rw[o2,hts]at p1
  have hmc:m.c=c:=o3.trans hc
  have hmk:m.k=k:=o4.trans hk
  have hat:m.at'=slot s.p s.c s.m m.p m.i:=by unfold Bi.at';rw[o2,hts]
  have hpat:m.pat=page s.p s.c s.m m.p:=by unfold Bi.pat;rw[o2,hts]
  rw[Sk.step_bi hd e]
  by_cases hl:m.i=16
  ·have es:m.step w=({ m with bd:=true,i:=slots m.k - 1 },w.store m.c m.pat (super m.k m.c)):=by
    unfold Bi.step;rw[if_neg (by rw[hmd];decide),if_neg (by rw[hx];decide),if_pos hl]
   have hws:(w.store m.c m.pat (super m.k m.c)).ws=upW w.ws (page s.p s.c s.m m.p) (super k c):=by rw[store_ws,hpat,hmk,hmc]
   rw[es,set_go _ (by exact hmd)]
   show Ph s ws0 c k f { t with nw:=.bi { m with bd:=true,i:=slots m.k - 1 } } (w.store m.c m.pat (super m.k m.c)).ws
   rw[hws]
   refine .b2 _ rfl hd og (of.pg hm p0 p1 _) rfl ?_ (fun i a0 a1=>?_) (fun i a0 a1=>?_) (fun i a0 a1=>?_)
   ·show pgAt s _ m.p=_
    rw[pg_pg hm p0 p1 p0 p1,if_pos rfl]
   ·have a1:i≤slots m.k - 1:=a1
    rw[hmk]at a1
    show slAt s _ m.p i=_
    rw[sl_pg hm p0 p1 p0 a0,sl i a0 (by omega),if_pos (by omega)]
   ·have a0:slots m.k - 1<i:=a0
    rw[hmk]at a0;omega
   ·show slAt s _ m.p i=_
    rw[sl_pg hm p0 p1 p0 (by omega),sl i (by omega) (by omega),if_neg (by omega)]
  ·have es:m.step w=({ m with i:=m.i+1 },w.store m.c m.at' (if m.i<slots m.k then way m.c else 0)):=by
    unfold Bi.step;rw[if_neg (by rw[hmd];decide),if_neg (by rw[hx];decide),if_neg hl]
   have hws:(w.store m.c m.at' (if m.i<slots m.k then way m.c else 0)).ws=upW w.ws (slot s.p s.c s.m m.p m.i) (if m.i<slots k then way c else 0):=by rw[store_ws,hat,hmk,hmc]
   rw[es,set_go _ (by exact hmd)]
   show Ph s ws0 c k f { t with nw:=.bi { m with i:=m.i+1 } } (w.store m.c m.at' (if m.i<slots m.k then way m.c else 0)).ws
   rw[hws]
   refine .b1 _ rfl hd og (of.sl hm p0 p1 i0 (by omega) _) hx ?_ (fun i a0 a1=>?_)
   ·show pgAt s _ m.p=_
    rw[pg_sl hm p0 p1 i0 (by omega) p0 p1];exact pg
   ·have a1:i<m.i+1:=a1
    show slAt s _ m.p i=_
    rw[sl_sl hm p0 p1 i0 (by omega) p0 a0 (by omega)]
    by_cases g:i=m.i
    ·rw[if_pos ⟨rfl,g⟩,g]
    ·rw[if_neg (fun x=>g x.2)];exact sl i a0 (by omega)
 |b2 m e hd og of hx pg sl so sz=>
  obtain⟨ho,hmd⟩:=h.wf.nw hd
  rw[e]at ho hmd
  have hmd:m.dn=false:=hmd
  obtain⟨o1,o2,o3,o4,o5,o6,o7⟩:=ho
  obtain⟨-,-,-,p0,p1,-,i0,i1,i2⟩:=o1.of hmd
  have i2:=i2 hx
  rw[o2,hts]at p1
  have hmk:m.k=k:=o4.trans hk
  rw[hmk]at i2
  have hat:m.at'=slot s.p s.c s.m m.p m.i:=by unfold Bi.at';rw[o2,hts]
  have es:m.step w=({ m with i:=m.i - 1,dn:=decide (m.i - 1=0) },w.store m.c m.at' (opn m.k)):=by
   unfold Bi.step;rw[if_neg (by rw[hmd];decide),if_pos hx]
  have hws:(w.store m.c m.at' (opn m.k)).ws=upW w.ws (slot s.p s.c s.m m.p m.i) (opn k):=by rw[store_ws,hat,hmk]
  have of2:=of.sl hm p0 p1 i0 (by omega) (opn k)
  have hsl:∀ i,0≤i→i<16→slAt s (upW w.ws (slot s.p s.c s.m m.p m.i) (opn k)) m.p i=if i=m.i then opn k else slAt s w.ws m.p i:=fun i a0 a1=>by
   rw[sl_sl hm p0 p1 i0 (by omega) p0 a0 a1]
   by_cases g:i=m.i
   ·rw[if_pos ⟨rfl,g⟩,if_pos g]
   ·rw[if_neg (fun x=>g x.2),if_neg g]
  have pg2:pgAt s (upW w.ws (slot s.p s.c s.m m.p m.i) (opn k)) m.p=super k c:=by rw[pg_sl hm p0 p1 i0 (by omega) p0 p1];exact pg
  have sl2:∀ i,0≤i→i≤m.i - 1→slAt s (upW w.ws (slot s.p s.c s.m m.p m.i) (opn k)) m.p i=way c:=fun i a0 a1=>by rw[hsl i a0 (by omega),if_neg (by omega)];exact sl i a0 (by omega)
  have so2:∀ i,m.i - 1<i→i<slots k→slAt s (upW w.ws (slot s.p s.c s.m m.p m.i) (opn k)) m.p i=opn k:=fun i a0 a1=>by
   rw[hsl i (by omega) (by omega)]
   split
   ·rfl
   ·exact so i (by omega) a1
  have sz2:∀ i,slots k≤i→i<16→slAt s (upW w.ws (slot s.p s.c s.m m.p m.i) (opn k)) m.p i=0:=fun i a0 a1=>by rw[hsl i (by omega) a1,if_neg (by omega)];exact sz i a0 a1
  rw[Sk.step_bi hd e,es]
  show Ph s ws0 c k f (t.set (.bi { m with i:=m.i - 1,dn:=decide (m.i - 1=0) })) (w.store m.c m.at' (opn m.k)).ws
  rw[hws]
  by_cases hl:m.i - 1=0
  ·rw[set_af _ (by show decide (m.i - 1=0)=true;exact decide_eq_true hl)]
   show Ph s ws0 c k f (({ t with nw:=.bi { m with i:=m.i - 1,dn:=decide (m.i - 1=0) } }:Sk).fin t.pg 0) _
   rw[hl]at sl2 so2
   rw[o5]at og of2 pg2 sl2 so2 sz2 ⊢
   exact .f3 rfl rfl o6 (by rw[hts]at o7;exact o7) og rfl of2 pg2 (sl2 0 (Int.le_refl _) (Int.le_refl _)) so2 sz2
  ·rw[set_go _ (by show decide (m.i - 1=0)=false;exact decide_eq_false hl)]
   exact .b2 _ rfl hd og of2 hx pg2 sl2 so2 sz2
 | f1 i hd hf i0 i1 ok kk hp hs hw=>rw[Sk.step_dn hd];exact .f1 i hd hf i0 i1 ok kk hp hs hw
 | f2 hd hf p0 p1 hh hw=>rw[Sk.step_dn hd];exact .f2 hd hf p0 p1 hh hw
 | f3 hd hf p0 p1 og hl of pg sl so sz=>rw[Sk.step_dn hd];exact .f3 hd hf p0 p1 og hl of pg sl so sz
 | n hd hf hw no ns nf=>rw[Sk.step_dn hd];exact .n hd hf hw no ns nf
theorem Al.init (hm:may s.p s.c s.m=true) (ho:w.of s) (c0:0≤c) (c1:c<s.c) (k0:0≤k) (k1:k≤3) (f0:0≤f) (f1:f<s.p) (hs:Snd s w.ws):Al s w.ws c k f (Sk.new s c k f) w:=by
 have hb:=(may_iff _ _ _).1 hm
 have hsk:=slots_four k0 k1
 have g1:good s c k=true:=by
  unfold good
  rw[status_yes hm c0 c1,decide_eq_true (by omega:0<slots k),decide_eq_true c0];rfl
 have g2:decide (0≤page s.p s.c s.m f)=true:=decide_eq_true (by rw[page_yes hm f0 f1];omega)
 have en:Sk.new s c k f=Sk.set ⟨s,c,k,f,.tk (Tk.new s c k),0,0,0,false,false⟩ (.tk (Tk.new s c k)):=by
  unfold Sk.new;rw[g1,g2];rfl
 have hkp:Sk.Kp ⟨s,c,k,f,.tk (Tk.new s c k),0,0,0,false,false⟩ (Sk.new s c k f):=by rw[en];exact Sk.set_kp _ _
 refine⟨Sk.new_wf ..,ho,hm,hkp.1,⟨hkp.2.1,c0,c1⟩,⟨hkp.2.2.1,k0,k1⟩,⟨hkp.2.2.2,f0,f1⟩,hs,?_⟩
 rw[en]
 by_cases h0:s.m=0
 ·have hd:(Tk.new s c k).dn=true:=by show(!good s c k || decide (s.m=0))=true;rw[decide_eq_true h0];simp
  rw[set_af _ (m:=.tk _) hd]
  show Ph s w.ws c k f { (_:Sk) with nw:=.sc (Sc.new s c k f) } w.ws
  exact .sc _ rfl rfl rfl (fun j j0 j1=>by omega) (fun q q0 q1=>by have q1:q<0:=q1;omega) (fun _=>rfl) (fun g=>absurd rfl g) (fun g=>by cases g)
 ·have hd:(Tk.new s c k).dn=false:=by show(!good s c k || decide (s.m=0))=false;rw[decide_eq_false h0,g1];rfl
  rw[set_go _ (m:=.tk _) hd]
  exact .tk _ rfl rfl rfl rfl (fun j j0 j1=>by have j1:j<0:=j1;omega)
theorem turn_at {f P p:Int} (f0:0≤f) (f1:f<P) (p0:0≤p) (p1:p<P):∃ q,0≤q∧q<P∧(f+q) % P=p:=by
 by_cases h:f≤p
 ·exact⟨p - f,by omega,by omega,by rw[show f+(p - f)=p by omega];exact Int.emod_eq_of_lt p0 p1⟩
 ·exact⟨p - f+P,by omega,by omega,by rw[show f+(p - f+P)=p+P by omega,Int.add_emod_right];exact Int.emod_eq_of_lt p0 p1⟩
def Want (s:Sh) (ws0:Nat→Int) (c k:Int):Prop:=(∃ i,0≤i∧i<s.m∧okEn s (mgAt s ws0 c i)=true∧enK s (mgAt s ws0 c i)=k)∨(∃ p i,0≤p∧p<s.p∧Has s ws0 k p i)∨∃ p,0≤p∧p<s.p∧Rw.Free s ws0 p
theorem Al.fin (h:Al s ws0 c k f t w) (hd:t.dn=true):t.fd=true↔Want s ws0 c k:=by
 cases h.ph with
 | tk m e hd'=>rw[hd]at hd';cases hd'
 | ht m e hd'=>rw[hd]at hd';cases hd'
 | sc m e hd'=>rw[hd]at hd';cases hd'
 | pc m e hd'=>rw[hd]at hd';cases hd'
 | no e hd'=>rw[hd]at hd';cases hd'
 | st m e hd'=>rw[hd]at hd';cases hd'
 | b1 m e hd'=>rw[hd]at hd';cases hd'
 | b2 m e hd'=>rw[hd]at hd';cases hd'
 | f1 i _ hf i0 i1 ok kk=>exact⟨fun _=>.inl ⟨i,i0,i1,ok,kk⟩,fun _=>hf⟩
 | f2 _ hf p0 p1 hh=>exact⟨fun _=>.inr (.inl ⟨_,_,p0,p1,hh⟩),fun _=>hf⟩
 | f3 _ hf p0 p1 og=>exact⟨fun _=>.inr (.inr ⟨_,p0,p1,og.1⟩),fun _=>hf⟩
 |n _ hf hw no ns nf=>
  refine⟨fun g=>by (rw[hf]at g;cases g),fun g=>?_⟩
  exfalso
  rcases g with⟨i,i0,i1,g1,g2⟩|⟨p,i,p0,p1,g⟩|⟨p,p0,p1,g⟩
  ·exact no i i0 i1 ⟨g1,g2⟩
  ·obtain⟨q,q0,q1,rfl⟩:=turn_at h.ff.2.1 h.ff.2.2 p0 p1
   exact ns q q0 q1 i g
  ·obtain⟨q,q0,q1,rfl⟩:=turn_at h.ff.2.1 h.ff.2.2 p0 p1
   exact nf q q0 q1 g
end
end Sa
end Go.Ma
namespace Go.Ma
open Go.Pl
namespace Sa
section
variable {s:Sh} {ws0 ws:Nat→Int} {c k f p:Int} {t:Sk} {w:Wd}
theorem super_ok {q:Int} (hm:may s.p s.c s.m=true) (q0:0≤q) (q1:q<s.p) (k0:0≤k) (k1:k≤3) (c0:0≤c) (c1:c<s.c):okPg s q (super k c)=true∧pgK s q (super k c)=2∧pgA s q (super k c)=k:=by
 have hb:=(may_iff _ _ _).1 hm
 have hv:super k c=2+16*k+4096*c:=by unfold super putPg;rw[if_pos (by omega)]
 have e1:(2+16*k+4096*c) % 16=2:=by omega
 have e2:pt (2+16*k+4096*c) 16=k:=by unfold pt;omega
 have e3:pt (2+16*k+4096*c) 4096=c:=by unfold pt;omega
 have hp:0≤page s.p s.c s.m q:=by rw[page_yes hm q0 q1];omega
 have ok:okPg s q (super k c)=true:=by
  rw[hv]
  unfold okPg
  rw[e1,e2,e3]
  have g1:decide (putPg 2 k c=2+16*k+4096*c)=true:=decide_eq_true hv
  have g3:fits s q 2 k c=true:=by unfold fits;simp;omega
  rw[g1,g3,decide_eq_true hp];rfl
 refine⟨ok,?_,?_⟩
 ·unfold pgK;rw[if_pos ok,hv,e1]
 ·unfold pgA;rw[if_pos ok,hv,e2]
theorem one (hm:may s.p s.c s.m=true) (hsn:Snd s ws0) (p0:0≤p) (p1:p<s.p) (hkp:pgK s p (pgAt s ws0 p)=0∨pgK s p (pgAt s ws0 p)=2) (un:∀ q,0≤q→q<s.p→q≠p→Rw.Un s ws0 ws q)
  (ok:okPg s p (pgAt s ws p)=true) (k2:pgK s p (pgAt s ws p)=2) (sl:∀ i:Nat,i<16→slB s.c (pgA s p (pgAt s ws p)) i (slAt s ws p i)=true)
  (mg:∀ c' j,0≤c'→c'<s.c→0≤j→j<s.m→mgAt s ws c' j=mgAt s ws0 c' j∨mgAt s ws c' j=0)
  (en:∀ c' j:Nat,(c':Int)<s.c→(j:Int)<s.m→mgAt s ws0 c' j≠0→enP s (mgAt s ws0 c' j)=p→EnB s ws0 c' (mgAt s ws0 c' j)→EnB s ws c' (mgAt s ws0 c' j)):Snd s ws:=by
 have hb:=(may_iff _ _ _).1 hm
 have nk:∀ (k':Int) (q:Int),pgK s q (pgAt s ws0 q)=k'→k'≠0→k'≠2→q≠p:=fun k' q h h0 h2 e=>by
  subst e
  rcases hkp with g | g<;>rw[h]at g
  ·exact h0 g
  ·exact h2 g
 refine⟨fun q q1=>?_,fun c' j h1 h2 hx=>?_,fun c' j c'' j' h1 h2 h3 ha hx hy=>?_⟩
 ·by_cases e:(q:Int)=p
  ·rw[e];exact⟨ok,SpB.two (by rw[k2];rfl) sl⟩
  ·obtain⟨e1,e2⟩:=hsn.pg q q1
   have hu:=un q (by omega) q1 e
   rw[hu.1]
   refine⟨e1,⟨fun k j hj=>?_,fun k k' j hj=>?_,fun k k' k4=>?_,fun k k' k4 k3 j j1 j2=>?_⟩⟩
   ·rw[hu.2 j (by omega) (by omega)];exact e2.sup k j hj
   ·rw[hu.2 j (by omega) (by omega)];exact e2.emp k k' j hj
   ·have hbo:=Ad.ok_body e1 (beq_iff_eq.1 k4)
    have hbd:=e2.bod k k' k4
    obtain⟨A',hA'⟩:∃ A',pgA s q (pgAt s ws0 q)=A':=⟨_,rfl⟩
    rw[hA']at hbo hbd ⊢
    have hne:A'≠p:=by
     obtain⟨k',hk'⟩:∃ k',pgK s A' (pgAt s ws0 A')=k':=⟨_,rfl⟩
     rw[hk']at hbd
     refine nk k' A' hk' (fun e=>?_) (fun e=>?_)<;>rw[e]at hbd<;>simp at hbd
    rw[(un A' hbo.1 (by omega) hne).1];exact hbd
   ·have hl:=large_bd e1 (beq_iff_eq.1 k3)
    have he:=e2.lar k k' k4 k3 j j1 j2
    rw[(un (q+j) (by omega) (by omega) (nk 4 _ he.1 (by decide) (by decide))).1];exact he
 ·rcases mg c' j (by omega) h1 (by omega) h2 with g | g
  ·rw[g]at hx ⊢
   have hE:=hsn.en c' j h1 h2 hx
   by_cases e:enP s (mgAt s ws0 c' j)=p
   ·exact en c' j h1 h2 hx e hE
   ·obtain⟨e1,e2,e3,e4⟩:=hE
    have hbd:=en_bd e1
    have hu:=un _ hbd.1 hbd.2.1 e
    exact⟨e1,by rw[hu.1];exact e2,by rw[hu.1];exact e3,by rw[hu.2 _ hbd.2.2.1 hbd.2.2.2];exact e4⟩
  ·exact absurd g hx
 ·have hc':(c'':Int)<s.c:=by unfold ahead at ha;omega
  rcases mg c' j (by omega) h1 (by omega) h2 with g | g
  ·rcases mg c'' j' (by omega) hc' (by omega) h3 with g' | g'
   ·rw[g]at hx ⊢
    rw[g']at hy ⊢
    exact hsn.dj c' j c'' j' h1 h2 h3 ha hx hy
   ·exact absurd g' hy
  ·exact absurd g hx
theorem Al.ends (h:Al s ws0 c k f t w) (hd:t.dn=true):Snd s w.ws∧(t.fd=true→0≤t.pg∧t.pg<s.p∧0≤t.sl∧t.sl<16∧okPg s t.pg (pgAt s w.ws t.pg)=true∧pgK s t.pg (pgAt s w.ws t.pg)=2∧pgA s t.pg (pgAt s w.ws t.pg)=k∧slAt s w.ws t.pg t.sl=way c):=by
 have hm:=h.ok
 have hb:=(may_iff _ _ _).1 hm
 obtain⟨hc,c0,c1⟩:=h.ec
 obtain⟨hk,k0,k1⟩:=h.kk
 have hsn:=h.snd
 have hsk:=slots_four k0 k1
 have wn:=way_ne c c0 (by omega)
 have on:=opn_ne k k0 (by omega)
 cases h.ph with
 | tk m e hd'=>rw[hd]at hd';cases hd'
 | ht m e hd'=>rw[hd]at hd';cases hd'
 | sc m e hd'=>rw[hd]at hd';cases hd'
 | pc m e hd'=>rw[hd]at hd';cases hd'
 | no e hd'=>rw[hd]at hd';cases hd'
 | st m e hd'=>rw[hd]at hd';cases hd'
 | b1 m e hd'=>rw[hd]at hd';cases hd'
 | b2 m e hd'=>rw[hd]at hd';cases hd'
 | n _ hf hw=>rw[hw];exact⟨hsn,fun g=>by (rw[hf]at g;cases g)⟩
 |f1 i _ hf i0 i1 ok kk hp hs hw=>
  have hne:mgAt s ws0 c i≠0:=fun g=>by rw[g]at ok;cases ok
  have hE:=hsn.en c.toNat i.toNat (by omega) (by omega)
  rw[show((c.toNat:Nat):Int)=c by omega,show((i.toNat:Nat):Int)=i by omega]at hE
  obtain⟨e1,e2,e3,e4⟩:=hE hne
  have hbd:=en_bd e1
  have un:∀ q,0≤q→q<s.p→Rw.Un s ws0 w.ws q:=fun q q0 q1=>by
   rw[hw];exact⟨pg_mg hm c0 c1 i0 i1 q0 q1,fun j j0 j1=>sl_mg hm c0 c1 i0 i1 q0 q1 j0 j1⟩
  rw[← hp]at e2 e3 hbd
  rw[← hp,← hs]at e4
  rw[← hs]at hbd
  have hu:=un t.pg hbd.1 hbd.2.1
  have hpn:=hsn.pg t.pg.toNat (by omega)
  rw[show((t.pg.toNat:Nat):Int)=t.pg by omega]at hpn
  refine⟨one hm hsn hbd.1 hbd.2.1 (.inr e2) (fun q q0 q1 _=>un q q0 q1) (by rw[hu.1];exact hpn.1) (by rw[hu.1];exact e2) (fun j hj=>?_) (fun c' j a0 a1 b0 b1=>?_) (fun c' j a1 b1 hx _ hE=>?_),fun _=>⟨hbd.1,hbd.2.1,hbd.2.2.1,hbd.2.2.2,by rw[hu.1];exact hpn.1,by rw[hu.1];exact e2,by rw[hu.1,e3];exact kk,by rw[hu.2 _ hbd.2.2.1 hbd.2.2.2];exact e4⟩⟩
  ·rw[hu.1,hu.2 j (by omega) (by omega)];exact hpn.2.sup (by rw[e2];rfl) j hj
  ·rw[hw,mg_mg hm c0 c1 i0 i1 a0 b0 b1]
   split
   ·exact .inr rfl
   ·exact .inl rfl
  ·obtain⟨r1,r2,r3,r4⟩:=hE
   have hb2:=en_bd r1
   have hu2:=un _ hb2.1 hb2.2.1
   exact⟨r1,by rw[hu2.1];exact r2,by rw[hu2.1];exact r3,by rw[hu2.2 _ hb2.2.2.1 hb2.2.2.2];exact r4⟩
 |f2 _ hf p0 p1 hh hw=>
  obtain⟨g1,g2,g3,g4,g5⟩:=hh
  have un:∀ q,0≤q→q<s.p→q≠t.pg→Rw.Un s ws0 w.ws q:=fun q q0 q1 hne=>by
   rw[hw];exact Rw.Un.tr ⟨rfl,fun _ _ _=>rfl⟩ (Rw.Sm.sl hm p0 p1 g3 (by omega) q0 q1 hne)
  have hpg:pgAt s w.ws t.pg=pgAt s ws0 t.pg:=by rw[hw];exact pg_sl hm p0 p1 g3 (by omega) p0 p1
  have hsl:∀ j,0≤j→j<16→slAt s w.ws t.pg j=if j=t.sl then way c else slAt s ws0 t.pg j:=fun j j0 j1=>by
   rw[hw,sl_sl hm p0 p1 g3 (by omega) p0 j0 j1]
   by_cases e:j=t.sl
   ·rw[if_pos ⟨rfl,e⟩,if_pos e]
   ·rw[if_neg (fun x=>e x.2),if_neg e]
  have hpn:=hsn.pg t.pg.toNat (by omega)
  rw[show((t.pg.toNat:Nat):Int)=t.pg by omega]at hpn
  refine⟨one hm hsn p0 p1 (.inr g1) un (by rw[hpg];exact hpn.1) (by rw[hpg];exact g1) (fun j hj=>?_) (fun c' j a0 a1 b0 b1=>.inl ?_) (fun c' j a1 b1 hx he hE=>?_),fun _=>⟨p0,p1,g3,by omega,by rw[hpg];exact hpn.1,by rw[hpg];exact g1,by rw[hpg];exact g2,by rw[hsl _ g3 (by omega),if_pos rfl]⟩⟩
  ·rw[hpg,hsl j (by omega) (by omega)]
   split
   ·rename_i e
    unfold slB
    rw[g2,decide_eq_true (by omega:(j:Int)<slots k),wn.2.1,wn.2.2];simp;exact c1
   ·exact hpn.2.sup (by rw[g1];rfl) j hj
  ·rw[hw];exact mg_sl hm p0 p1 g3 (by omega) a0 b0
  ·obtain⟨r1,r2,r3,r4⟩:=hE
   have hb2:=en_bd r1
   rw[he]at r2 r3 r4
   have hns:enS s (mgAt s ws0 c' j)≠t.sl:=fun e=>by
    rw[e,g5]at r4
    have:=congrArg slK r4
    rw[on.2.1]at this
    have h5:=(way_ne c' (by omega) (by omega)).2.1
    unfold way at h5
    rw[h5]at this;cases this
   exact⟨r1,by rw[he,hpg];exact r2,by rw[he,hpg];exact r3,by rw[he,hsl _ hb2.2.2.1 hb2.2.2.2,if_neg hns];exact r4⟩
 |f3 _ hf p0 p1 og hl of pg sl so sz=>
  obtain⟨fr,-⟩:=og
  have hso:=super_ok hm p0 p1 k0 k1 c0 c1
  have un:∀ q,0≤q→q<s.p→q≠t.pg→Rw.Un s ws0 w.ws q:=fun q q0 q1 hne=>by
   refine⟨?_,fun j j0 j1=>?_⟩
   ·unfold pgAt;rw[page_yes hm q0 q1];exact of _ (by omega) (by omega)
   ·exact of _ (by omega) (by omega)
  refine⟨one hm hsn p0 p1 (fr.imp id fun x=>x.1) un (by rw[pg];exact hso.1) (by rw[pg];exact hso.2.1) (fun j hj=>?_) (fun c' j a0 a1 b0 b1=>.inl ?_) (fun c' j a1 b1 hx he hE=>?_),fun _=>⟨p0,p1,by omega,by omega,by rw[pg];exact hso.1,by rw[pg];exact hso.2.1,by rw[pg];exact hso.2.2,by rw[hl];exact sl⟩⟩
  ·rw[pg,hso.2.2]
   unfold slB
   by_cases e:(j:Int)<slots k
   ·rw[decide_eq_true e]
    by_cases e0:(j:Int)=0
    ·rw[e0,sl,wn.2.1,wn.2.2];simp;exact c1
    ·rw[so j (by omega) e,on.2.1,on.2.2];simp
   ·rw[decide_eq_false e,sz j (by omega) (by omega)];rfl
  ·have h5:=Int.mul_nonneg a0 (by omega:0≤s.m)
   exact of _ (by omega) (by omega)
  ·exfalso
   obtain⟨r1,r2,r3,r4⟩:=hE
   have hb2:=en_bd r1
   have hS:=en_slot r1
   rw[he]at r2 r3 r4
   rcases fr with g |⟨g,g2⟩
   ·rw[r2]at g;cases g
   ·have:=g2 _ hb2.2.2.1 (by rw[r3];exact hS)
    rw[r4]at this
    have h5:=(way_ne c' (by omega) (by omega)).2.1
    unfold way at h5
    rw[h5]at this;cases this
end
end Sa
end Go.Ma
namespace Go.Ma
open Go.Pl
namespace Rk
def rOwn (t:Rn) (q:Int):Int:=
 if t.dn=true then(if t.fd=true∧t.hd≤q∧q<t.hd+t.n then(if q=t.hd then held 0 else putPg 4 t.hd 0) else 0)
 else if t.nx≤2 then(if t.hd≤q∧q<t.at' then held 0 else 0)
 else if t.nx=4 then(if t.hd≤q∧q<t.i then held 0 else 0)
 else(if q=t.hd then held 0 else if t.hd<q∧q<t.i then putPg 4 t.hd 0 else if t.i≤q∧q<t.hd+t.n then held 0 else 0)
section
variable {t:Rn} {q:Int}
end
section
variable (P n K f:Int)
def sh:Sh:=⟨P,2,0⟩
inductive Bp (u:Sk) (ws:Nat→Int) (bp:Int):Prop
 | sc (m:Sc) (e:u.nw=.sc m) (d:u.dn=false) (b:bp=-1) (x:m.nx=0) (i:m.i=0)
 | pc (m:Pc) (e:u.nw=.pc m) (d:u.dn=false) (b:bp=-1) (nz:∀ j,0≤j→j<m.many→pgAt (sh P) ws ((f+j) % P)≠0)
 | no (e:u.nw=.no) (d:u.dn=false) (b:bp=-1) (nz:∀ q,0≤q→q<P→pgAt (sh P) ws q≠0)
 | b1 (m:Bi) (e:u.nw=.bi m) (d:u.dn=false) (b:bp=m.p) (x:m.bd=false) (pg:pgAt (sh P) ws bp=held 1) (sl:∀ i,0≤i→i<m.i→slAt (sh P) ws bp i=if i<slots K then way 1 else 0)
 | b2 (m:Bi) (e:u.nw=.bi m) (d:u.dn=false) (b:bp=m.p) (x:m.bd=true) (pg:pgAt (sh P) ws bp=super K 1) (sl:∀ i,0≤i→i≤m.i→slAt (sh P) ws bp i=way 1) (so:∀ i,m.i<i→i<slots K→slAt (sh P) ws bp i=opn K) (sz:∀ i,slots K≤i→i<16→slAt (sh P) ws bp i=0)
 | f (d:u.dn=true) (g:u.fd=true) (b:bp=u.pg) (b0:0≤bp) (pg:pgAt (sh P) ws bp=super K 1) (s0:slAt (sh P) ws bp 0=way 1) (so:∀ i,0<i→i<slots K→slAt (sh P) ws bp i=opn K) (sz:∀ i,slots K≤i→i<16→slAt (sh P) ws bp i=0)
 | n (d:u.dn=true) (g:u.fd=false) (b:bp=-1) (nz:∀ q,0≤q→q<P→pgAt (sh P) ws q≠0)
structure Inv (t:Rn) (u:Sk) (w:Wd) (bp:Int):Prop where
 ok:1≤P∧P≤9
 of:w.of (sh P)
 ts:t.wf∧t.s=sh P∧t.c=0∧t.n=n∧1≤n∧n≤8
 us:u.wf∧u.s=sh P∧u.c=1∧u.k=K∧u.f=f
 kf:0≤K∧K≤3∧0≤f∧f<P
 pg:∀ q,0≤q→q<P→q≠bp→pgAt (sh P) w.ws q=rOwn t q
 sl:∀ q,0≤q→q<P→q≠bp→Rw.Zs (sh P) w.ws q
 bo:-1≤bp∧(0≤bp→bp<P∧rOwn t bp=0)
 r3:t.dn=false→t.nx≠3
 r2:t.dn=false→t.nx=2→0≤bp∧bp=t.at'∧pgAt (sh P) w.ws bp=super K 1∧∃ q,t.st=some q∧q.i=0∧q.bk=false∧0≤q.k∧q.k≤3
 r1:bp=-1→t.hd=0∧(t.dn=false→t.nx≠4)∧(t.dn=true→t.fd=true∨P<n)
 r0:P<n→t.dn=true∧t.fd=false
 hb:0≤t.hd∧t.hd≤P+8
 ph:Bp P K f u w.ws bp
end
section
variable {P n K f bp:Int} {t:Rn} {u:Sk} {w:Wd}
end
end Rk
end Go.Ma
namespace Go.Ma
open Go.Pl
section
variable {s:Sh} {ws0 ws:Nat→Int} {pg A i c sl x:Int}
structure LX (s:Sh) (ws0:Nat→Int) (pg A c i:Int) (ws:Nat→Int):Prop where
 hd:pgAt s ws pg=held c∨(pgAt s ws pg=0∧i=A - 1)
 em:∀ j,1≤j→j≤i→pgAt s ws (pg+j)=0
 ot:∀ q,0≤q→q<s.p→q≠pg→¬ (pg<q∧q≤pg+i)→pgAt s ws q=pgAt s ws0 q
 sl:∀ q j,0≤q→q<s.p→0≤j→j<16→slAt s ws q j=slAt s ws0 q j
 mg:∀ c' j,0≤c'→c'<s.c→0≤j→j<s.m→mgAt s ws c' j=mgAt s ws0 c' j
section
variable (hm:may s.p s.c s.m=true) (hsn:Snd s ws0) (p0:0≤pg) (p1:pg<s.p) (hk:pgK s pg (pgAt s ws0 pg)=3) (hA:pgA s pg (pgAt s ws0 pg)=A) (c0:0≤c) (c1:c<s.c) (i0:0≤i) (i1:i<A)
include hm hsn p0 p1 hk hA
theorem row_body {j:Int} (j0:1≤j) (j1:j<A):pgK s (pg+j) (pgAt s ws0 (pg+j))=4∧pgA s (pg+j) (pgAt s ws0 (pg+j))=pg:=by
 obtain⟨e1,e2⟩:=hsn.pg pg.toNat (by omega)
 rw[show((pg.toNat:Nat):Int)=pg by omega]at e1 e2
 exact e2.lar (by rw[hk];rfl) (by rw[hk];rfl) (by rw[hk];rfl) (by rw[hk];rfl) j j0 (by rw[hA];exact j1)
theorem row_bd:1≤A∧A≤8∧pg+A≤s.p:=by
 rw[← hA];exact large_bd (pgK_ne (by rw[hk];decide)) hk
include c0 c1 i0 i1
theorem LX.snd (h:LX s ws0 pg A c i ws):Snd s ws:=by
 have hb:=(may_iff _ _ _).1 hm
 have hr:=row_bd hm hsn p0 p1 hk hA
 have hbody:=fun j j0 j1=>row_body hm hsn p0 p1 hk hA (j:=j) j0 j1
 -- what a page of ws0 that is none of the row says is said still
 have keep:∀ q,0≤q→q<s.p→(pgAt s ws q=pgAt s ws0 q∧q≠pg∧¬ (pg<q∧q≤pg+i))∨q=pg∨(pg<q∧q≤pg+i∧pgAt s ws q=0∧pgK s q (pgAt s ws0 q)=4∧pgA s q (pgAt s ws0 q)=pg):=fun q q0 q1=>by
  by_cases e:q=pg
  ·exact .inr (.inl e)
  ·by_cases e2:pg<q∧q≤pg+i
   ·right;right
    have h1:=h.em (q - pg) (by omega) (by omega)
    have h2:=hbody (q - pg) (by omega) (by omega)
    rw[show pg+(q - pg)=q by omega]at h1 h2
    exact⟨e2.1,e2.2,h1,h2.1,h2.2⟩
   ·exact .inl ⟨h.ot q q0 q1 e e2,e,e2⟩
 have zero:∀ q:Nat,(q:Int)<s.p→pgAt s ws q=0→(pgK s q (pgAt s ws0 q)=3∨pgK s q (pgAt s ws0 q)=4)→okPg s q (pgAt s ws q)=true∧SpB s ws q (pgK s q (pgAt s ws q)) (pgA s q (pgAt s ws q)):=fun q q1 hz hkq=>by
  rw[hz,pgK_zero]
  refine⟨okPg_zero hm (by omega) q1,SpB.oth rfl (fun j hj=>?_) rfl rfl⟩
  rw[h.sl q j (by omega) q1 (by omega) (by omega)]
  exact(hsn.pg q q1).2.emp (by rcases hkq with e | e<;>rw[e]<;>rfl) (by rcases hkq with e | e<;>rw[e]<;>rfl) j hj
 refine⟨fun q q1=>?_,fun c' j h1 h2 hx=>?_,fun c' j c'' j' h1 h2 h3 ha hx hy=>?_⟩
 ·obtain⟨e1,e2⟩:=hsn.pg q q1
  rcases keep q (by omega) q1 with⟨e,n1,n2⟩| e |⟨g1,g2,g3,g4,g5⟩
  ·rw[e]
   refine⟨e1,⟨fun k j hj=>?_,fun k k' j hj=>?_,fun k k' k4=>?_,fun k k' k4 k3 j j1 j2=>?_⟩⟩
   ·rw[h.sl q j (by omega) q1 (by omega) (by omega)];exact e2.sup k j hj
   ·rw[h.sl q j (by omega) q1 (by omega) (by omega)];exact e2.emp k k' j hj
   ·have hbo:=Ad.ok_body e1 (beq_iff_eq.1 k4)
    have hbd:=e2.bod k k' k4
    obtain⟨A',hA'⟩:∃ A',pgA s q (pgAt s ws0 q)=A':=⟨_,rfl⟩
    rw[hA']at hbo hbd ⊢
    rcases keep A' hbo.1 (by omega) with⟨e3,-,-⟩| e3 |⟨g1,g2,g3,g4,g5⟩
    ·rw[e3];exact hbd
    ·subst e3
     rcases h.hd with hh |⟨hh,hi⟩
     ·rw[hh,(held_ok hm hbo.1 (by omega) c0 c1).2.1];rfl
     ·exfalso
      rw[hk,hA]at hbd
      have hq:(q:Int)<A'+A:=by simpa using hbd
      exact n2 ⟨hbo.2.1,by omega⟩
    ·rw[g4]at hbd;simp at hbd
   ·have hl:=large_bd e1 (beq_iff_eq.1 k3)
    have he:=e2.lar k k' k4 k3 j j1 j2
    rcases keep (q+j) (by omega) (by omega) with⟨e3,-,-⟩| e3 |⟨g1,g2,g3,g4,g5⟩
    ·rw[e3];exact he
    ·rw[e3,hk]at he;exact absurd he.1 (by decide)
    ·rw[g5]at he;exact absurd he.2.symm n1
  ·rcases h.hd with hh |⟨hh,hi⟩
   ·rw[e,hh]
    have ho:=held_ok hm p0 p1 c0 c1
    exact⟨ho.1,SpB.one (by rw[ho.2.1];rfl) (by rw[ho.2.1];rfl)⟩
   ·exact zero q q1 (by rw[e];exact hh) (.inl (by rw[e];exact hk))
  ·exact zero q q1 g3 (.inr g4)
 ·rw[h.mg c' j (by omega) h1 (by omega) h2]at hx ⊢
  obtain⟨e1,e2,e3,e4⟩:=hsn.en c' j h1 h2 hx
  have hE:=en_bd e1
  have hpg:pgAt s ws (enP s (mgAt s ws0 c' j))=pgAt s ws0 (enP s (mgAt s ws0 c' j)):=by
   rcases keep _ hE.1 hE.2.1 with⟨e5,-,-⟩| e5 |⟨g1,g2,g3,g4,g5⟩
   ·exact e5
   ·rw[e5,hk]at e2;cases e2
   ·rw[g4]at e2;cases e2
  exact⟨e1,by rw[hpg];exact e2,by rw[hpg];exact e3,by rw[h.sl _ _ hE.1 hE.2.1 hE.2.2.1 hE.2.2.2];exact e4⟩
 ·have hc':(c'':Int)<s.c:=by unfold ahead at ha;omega
  rw[h.mg c' j (by omega) h1 (by omega) h2]at hx ⊢
  rw[h.mg c'' j' (by omega) hc' (by omega) h3]at hy ⊢
  exact hsn.dj c' j c'' j' h1 h2 h3 ha hx hy
end
structure SX (s:Sh) (ws0:Nat→Int) (pg sl A c x:Int) (e:Option Int) (ws:Nat→Int):Prop where
 xx:x=way c∨(x=opn A∧e=none)
 at':slAt s ws pg sl=x
 pg':∀ q,0≤q→q<s.p→pgAt s ws q=pgAt s ws0 q
 sl':∀ q j,0≤q→q<s.p→0≤j→j<16→¬ (q=pg∧j=sl)→slAt s ws q j=slAt s ws0 q j
 mg:∀ c' j,0≤c'→c'<s.c→0≤j→j<s.m→mgAt s ws c' j=mgAt s ws0 c' j∨(c'=c∧e=some j∧mgAt s ws c' j=putEn pg sl A∧mgAt s ws0 c' j=0)
theorem SX.snd {e:Option Int} (hm:may s.p s.c s.m=true) (hsn:Snd s ws0) (p0:0≤pg) (p1:pg<s.p) (hk:pgK s pg (pgAt s ws0 pg)=2) (hA:pgA s pg (pgAt s ws0 pg)=A) (s0:0≤sl) (s1:sl<slots A) (c0:0≤c) (c1:c<s.c) (ht:slAt s ws0 pg sl=taken A)
  (h:SX s ws0 pg sl A c x e ws):Snd s ws:=by
 have hb:=(may_iff _ _ _).1 hm
 have hAs:=Gv.ok_super (pgK_ne (s:=s) (q:=pg) (x:=pgAt s ws0 pg) (by rw[hk];decide)) hk
 rw[hA]at hAs
 have hsl:=slots_four hAs.1 hAs.2.1
 have tn:=taken_ne A hAs.1 (by omega)
 have wn:=way_ne c c0 (by omega)
 have on:=opn_ne A hAs.1 (by omega)
 have hxe:e≠none→x=way c:=fun hne=>by
  rcases h.xx with h | h
  ·exact h
  ·exact absurd h.2 hne
 -- what an old entry says is there still
 have old:∀ c' j:Nat,(c':Int)<s.c→(j:Int)<s.m→mgAt s ws0 c' j≠0→EnB s ws c' (mgAt s ws0 c' j)∧¬ (enP s (mgAt s ws0 c' j)=pg∧enS s (mgAt s ws0 c' j)=sl):=fun c' j h1 h2 hx=>by
  obtain⟨e1,e2,e3,e4⟩:=hsn.en c' j h1 h2 hx
  have hE:=en_bd e1
  have hne:¬ (enP s (mgAt s ws0 c' j)=pg∧enS s (mgAt s ws0 c' j)=sl):=fun ⟨g1,g2⟩=>by
   rw[g1,g2,ht]at e4
   have:=congrArg slK e4
   rw[tn.2.1]at this
   have h5:=(way_ne c' (by omega) (by omega)).2.1
   unfold way at h5
   rw[h5]at this;cases this
  exact⟨⟨e1,by rw[h.pg' _ hE.1 hE.2.1];exact e2,by rw[h.pg' _ hE.1 hE.2.1];exact e3,by rw[h.sl' _ _ hE.1 hE.2.1 hE.2.2.1 hE.2.2.2 hne];exact e4⟩,hne⟩
 have hen:=en_put hm p0 p1 s0 s1 hAs.1 hAs.2.1
 refine⟨fun q q1=>?_,fun c' j h1 h2 hx=>?_,fun c' j c'' j' h1 h2 h3 ha hx hy=>?_⟩
 ·obtain⟨e1,e2⟩:=hsn.pg q q1
  rw[h.pg' q (by omega) q1]
  refine⟨e1,⟨fun k j hj=>?_,fun k k' j hj=>?_,fun k k' k4=>?_,fun k k' k4 k3 j j1 j2=>?_⟩⟩
  ·by_cases hq:(q:Int)=pg∧(j:Int)=sl
   ·obtain⟨g1,g2⟩:=hq
    rw[g1,g2,h.at',hA]
    unfold slB
    rw[decide_eq_true s1]
    rcases h.xx with hx |⟨hx,-⟩
    ·rw[hx,wn.2.1,wn.2.2];simp;exact c1
    ·rw[hx,on.2.1,on.2.2];simp
   ·rw[h.sl' q j (by omega) q1 (by omega) (by omega) hq];exact e2.sup k j hj
  ·have hq:¬ ((q:Int)=pg∧(j:Int)=sl):=fun hg=>by rw[hg.1,hk]at k;cases k
   rw[h.sl' q j (by omega) q1 (by omega) (by omega) hq];exact e2.emp k k' j hj
  ·have hbo:=Ad.ok_body e1 (beq_iff_eq.1 k4)
   rw[h.pg' _ hbo.1 (by omega)];exact e2.bod k k' k4
  ·have hl:=large_bd e1 (beq_iff_eq.1 k3)
   rw[h.pg' _ (by omega) (by omega)];exact e2.lar k k' k4 k3 j j1 j2
 ·rcases h.mg c' j (by omega) h1 (by omega) h2 with e1 |⟨g1,g2,g3,g4⟩
  ·rw[e1]at hx ⊢
   exact(old c' j h1 h2 hx).1
  ·rw[g3]
   refine⟨hen.1,?_,?_,?_⟩
   ·rw[hen.2.1,h.pg' _ p0 p1];exact hk
   ·rw[hen.2.1,h.pg' _ p0 p1,hen.2.2.2.1];exact hA
   ·rw[hen.2.1,hen.2.2.1,h.at',hxe (by rw[g2];exact Option.some_ne_none _),g1];rfl
 ·have hc':(c'':Int)<s.c:=by unfold ahead at ha;omega
  rcases h.mg c' j (by omega) h1 (by omega) h2 with e1 |⟨g1,g2,g3,g4⟩
  ·rcases h.mg c'' j' (by omega) hc' (by omega) h3 with e2 |⟨k1,k2,k3,k4⟩
   ·rw[e1]at hx ⊢
    rw[e2]at hy ⊢
    exact hsn.dj c' j c'' j' h1 h2 h3 ha hx hy
   ·rw[e1]at hx ⊢
    rw[k3,hen.2.1,hen.2.2.1]
    exact fun ⟨q1,q2⟩=>(old c' j h1 h2 hx).2 ⟨q1.symm,q2.symm⟩
  ·rcases h.mg c'' j' (by omega) hc' (by omega) h3 with e2 |⟨k1,k2,k3,k4⟩
   ·rw[e2]at hy ⊢
    rw[g3,hen.2.1,hen.2.2.1]
    exact(old c'' j' hc' h3 hy).2
   ·exfalso
    rw[g2]at k2
    injection k2 with k2
    unfold ahead at ha;omega
end
end Go.Ma
namespace Go.Ma
open Go.Pl
section
variable {s:Sh} {ws ws':Nat→Int}
theorem blkPg_mem {p:Nat} {y:Int×Int} (h:y∈blkPg s ws p):(pgK s p (pgAt s ws p)=3∧y=((p:Int)*64,pgA s p (pgAt s ws p)*64))∨(pgK s p (pgAt s ws p)=2∧∃ i:Nat,(i:Int)<slots (pgA s p (pgAt s ws p))∧slK (slAt s ws p i)=3∧y=((p:Int)*64+i*size (pgA s p (pgAt s ws p)),size (pgA s p (pgAt s ws p)))):=by
 unfold blkPg at h
 split at h
 ·rename_i h3;exact .inl ⟨h3,by simpa using h⟩
 ·split at h
  ·rename_i h2
   obtain⟨i,h4,h5,h6⟩:=blkSl_mem.1 h
   exact .inr ⟨h2,i,by omega,h5,h6⟩
  ·cases h
theorem blkPg_in {p:Nat} {y:Int×Int} (h:y∈blkPg s ws p):(p:Int)*64≤y.1∧y.1<(p:Int)*64+64:=by
 rcases blkPg_mem h with⟨-,rfl⟩|⟨h2,i,h3,-,rfl⟩
 ·show(p:Int)*64≤(p:Int)*64∧(p:Int)*64<(p:Int)*64+64;omega
 ·have hA:=Gv.ok_super (pgK_ne (s:=s) (q:=p) (x:=pgAt s ws p) (by rw[h2];decide)) h2
  have hs:=slots_four hA.1 hA.2.1
  show(p:Int)*64≤(p:Int)*64+i*size _∧(p:Int)*64+i*size _<(p:Int)*64+64
  have h4:=Int.mul_le_mul_of_nonneg_right (by omega:(i:Int)+1≤slots (pgA s p (pgAt s ws p))) (by omega:0≤size (pgA s p (pgAt s ws p)))
  rw[Int.add_mul]at h4
  have h5:=Int.mul_nonneg (by omega:0≤(i:Int)) (by omega:0≤size (pgA s p (pgAt s ws p)))
  omega
theorem blks_mem {y:Int×Int}:∀ {n:Nat},y∈blks s ws n↔∃ p:Nat,p<n∧y∈blkPg s ws p
 | 0=>by simp [blks]
 |n+1=>by
  unfold blks
  rw[List.mem_append,blks_mem (n:=n)]
  constructor
  ·rintro(⟨p,h1,h2⟩| h)
   ·exact⟨p,by omega,h2⟩
   ·exact⟨n,by omega,h⟩
  ·rintro⟨p,h1,h2⟩
   by_cases e:p=n
   ·subst e;exact .inr h2
   ·exact .inl ⟨p,by omega,h2⟩
theorem blks_split (p:Nat):∀ n,p<n→∃ R:List (Int×Int),(∀ y∈R,∃ q:Nat,p<q∧y∈blkPg s ws q)∧blks s ws n=blks s ws p ++ blkPg s ws p ++ R∧∀ ws',(∀ q:Nat,q<n→q≠p→blkPg s ws' q=blkPg s ws q)→blks s ws' n=blks s ws p ++ blkPg s ws' p ++ R
 | 0,h=>by omega
 |n+1,h=>by
  by_cases e:p=n
  ·subst e
   refine⟨[],by simp,by simp [blks],fun ws' hw=>?_⟩
   have:blks s ws' p=blks s ws p:=blks_congr fun q hq=>hw q (by omega) (by omega)
   simp [blks,this]
  ·obtain⟨R,h1,h2,h3⟩:=blks_split p n (by omega)
   refine⟨R ++ blkPg s ws n,fun y hy=>?_,?_,fun ws' hw=>?_⟩
   ·rcases List.mem_append.1 hy with hy | hy
    ·exact h1 y hy
    ·exact⟨n,by omega,hy⟩
   ·show blks s ws n ++ blkPg s ws n=_
    rw[h2];simp
   ·show blks s ws' n ++ blkPg s ws' n=_
    rw[h3 ws' fun q hq hne=>hw q (by omega) hne,hw n (by omega) (by omega)];simp
theorem blkSl_split {p A:Int} (i:Nat):∀ n,i<n→∃ R:List (Int×Int),(∀ y∈R,∃ j:Nat,i<j∧j<n∧y=(p*64+j*size A,size A))∧blkSl s ws p A n=blkSl s ws p A i ++ (if slK (slAt s ws p i)=3 then [(p*64+i*size A,size A)] else []) ++ R ∧
  ∀ ws',(∀ j:Nat,j<n→j≠i→(slK (slAt s ws' p j)=3↔slK (slAt s ws p j)=3))→slK (slAt s ws' p i)≠3→blkSl s ws' p A n=blkSl s ws p A i ++ R
 | 0,h=>by omega
 |n+1,h=>by
  by_cases e:i=n
  ·subst e
   refine⟨[],by simp,by simp [blkSl],fun ws' hw hn=>?_⟩
   have:blkSl s ws' p A i=blkSl s ws p A i:=blkSl_congr fun j hj=>hw j (by omega) (by omega)
   simp [blkSl,this,hn]
  ·obtain⟨R,h1,h2,h3⟩:=blkSl_split (p:=p) (A:=A) i n (by omega)
   refine⟨R ++ (if slK (slAt s ws p n)=3 then [(p*64+n*size A,size A)] else []),fun y hy=>?_,?_,fun ws' hw hn=>?_⟩
   ·rcases List.mem_append.1 hy with hy | hy
    ·obtain⟨j,j1,j2,j3⟩:=h1 y hy;exact⟨j,j1,by omega,j3⟩
    ·split at hy
     ·exact⟨n,by omega,by omega,by simpa using hy⟩
     ·cases hy
   ·show blkSl s ws p A n ++ _=_
    rw[h2];simp only[List.append_assoc]
   ·show blkSl s ws' p A n ++ _=_
    rw[h3 ws' (fun j hj hne=>hw j (by omega) hne) hn]
    have:=hw n (by omega) (by omega)
    by_cases e3:slK (slAt s ws p n)=3
    ·rw[if_pos e3,if_pos (this.2 e3)];simp
    ·rw[if_neg e3,if_neg fun x=>e3 (this.1 x)];simp
def Out (l l':List (Int×Int)) (a:Int):Prop:=∃ pre post y,l=pre ++ [y] ++ post∧l'=pre ++ post∧y.1=a∧(∀ z∈pre,z.1≠a)∧∀ z∈post,z.1≠a
theorem page_out {p n:Nat} (hp:p<n) (hw:∀ q:Nat,q<n→q≠p→blkPg s ws' q=blkPg s ws q) {a:Int} (ho:Out (blkPg s ws p) (blkPg s ws' p) a):Out (blks s ws n) (blks s ws' n) a:=by
 obtain⟨R,h1,h2,h3⟩:=blks_split (s:=s) (ws:=ws) p n hp
 obtain⟨pre,post,y,e1,e2,e3,e4,e5⟩:=ho
 have hy:y∈blkPg s ws p:=by rw[e1];simp
 have hya:=blkPg_in hy
 rw[e3]at hya
 refine⟨blks s ws p ++ pre,post ++ R,y,?_,?_,e3,fun z hz=>?_,fun z hz=>?_⟩
 ·rw[h2,e1];simp
 ·rw[h3 ws' hw,e2];simp
 ·rcases List.mem_append.1 hz with hz | hz
  ·obtain⟨q,q1,q2⟩:=blks_mem.1 hz
   have:=blkPg_in q2;omega
  ·exact e4 z hz
 ·rcases List.mem_append.1 hz with hz | hz
  ·exact e5 z hz
  ·obtain⟨q,q1,q2⟩:=h1 z hz
   have:=blkPg_in q2;omega
end
section
variable {s:Sh} {ws0 ws:Nat→Int} {pg A i c sl x:Int}
theorem LX.out {P n:Nat} (hm:may s.p s.c s.m=true) (hsn:Snd s ws0) (hP:(P:Int)=pg) (p1:pg<s.p) (hn:P<n) (hn2:(n:Int)≤s.p) (hk:pgK s pg (pgAt s ws0 pg)=3) (hA:pgA s pg (pgAt s ws0 pg)=A) (c0:0≤c) (c1:c<s.c) (i0:0≤i) (i1:i<A) (h:LX s ws0 pg A c i ws) :
  Out (blks s ws0 n) (blks s ws n) (pg*64):=by
 subst hP
 refine page_out (p:=P) hn (fun q hq hne=>?_) ?_
 ·by_cases e:(P:Int)<q∧(q:Int)≤P+i
  ·have hb:=row_body hm hsn (by omega) p1 hk hA (j:=(q:Int) - P) (by omega) (by omega)
   have hz:=h.em ((q:Int) - P) (by omega) (by omega)
   rw[show(P:Int)+((q:Int) - P)=q by omega]at hb hz
   rw[blkPg_none (by rw[hz,pgK_zero];decide) (by rw[hz,pgK_zero];decide),blkPg_none (by rw[hb.1];decide) (by rw[hb.1];decide)]
  ·have hq2:=h.ot q (by omega) (by omega) (by omega) e
   exact blkPg_congr (by rw[hq2]) (fun _=>by rw[hq2]) fun _ j hj=>by rw[h.sl q j (by omega) (by omega) (by omega) (by omega)]
 ·have h1:blkPg s ws0 P = [((P:Int)*64,A*64)]:=by unfold blkPg;rw[if_pos hk,hA]
  have h2:blkPg s ws P = []:=by
   rcases h.hd with hh |⟨hh,-⟩
   ·have ho:=held_ok hm (by omega:(0:Int)≤P) p1 c0 c1
    exact blkPg_none (by rw[hh,ho.2.1];decide) (by rw[hh,ho.2.1];decide)
   ·exact blkPg_none (by rw[hh,pgK_zero];decide) (by rw[hh,pgK_zero];decide)
  rw[h1,h2]
  exact⟨[],[],_,rfl,rfl,rfl,by simp,by simp⟩
theorem SX.out {e:Option Int} {P n:Nat} (hm:may s.p s.c s.m=true) (hP:(P:Int)=pg) (p1:pg<s.p) (hn:P<n) (hn2:(n:Int)≤s.p) (hk:pgK s pg (pgAt s ws0 pg)=2) (hA:pgA s pg (pgAt s ws0 pg)=A) (s0:0≤sl) (s1:sl<slots A) (c0:0≤c) (c1:c<s.c) (ht:slAt s ws0 pg sl=taken A)
  (h:SX s ws0 pg sl A c x e ws):Out (blks s ws0 n) (blks s ws n) (pg*64+sl*size A):=by
 have hb:=(may_iff _ _ _).1 hm
 subst hP
 have hAs:=Gv.ok_super (pgK_ne (s:=s) (q:=P) (x:=pgAt s ws0 P) (by rw[hk];decide)) hk
 rw[hA]at hAs
 have hs4:=slots_four hAs.1 hAs.2.1
 have tn:=taken_ne A hAs.1 (by omega)
 have wn:=way_ne c c0 (by omega)
 have on:=opn_ne A hAs.1 (by omega)
 obtain⟨j,rfl⟩:∃ j:Nat,sl=j:=⟨sl.toNat,by omega⟩
 refine page_out (p:=P) hn (fun q hq hne=>?_) ?_
 ·have hq2:=h.pg' q (by omega) (by omega)
  exact blkPg_congr (by rw[hq2]) (fun _=>by rw[hq2]) fun _ i hi=>by rw[h.sl' q i (by omega) (by omega) (by omega) (by omega) (by omega)]
 ·obtain⟨R,h1,h2,h3⟩:=blkSl_split (s:=s) (ws:=ws0) (p:=P) (A:=A) j (slots A).toNat (by omega)
  have e1:blkPg s ws0 P=blkSl s ws0 P A (slots A).toNat:=by unfold blkPg;rw[if_neg (by rw[hk];decide),if_pos hk,hA]
  have e2:blkPg s ws P=blkSl s ws P A (slots A).toNat:=by
   have hq:=h.pg' P (by omega) p1
   unfold blkPg;rw[hq,if_neg (by rw[hk];decide),if_pos hk,hA]
  have h4:=h3 ws (fun i hi hne=>by rw[h.sl' P i (by omega) p1 (by omega) (by omega) (by omega)]) (by
   rw[h.at']
   rcases h.xx with hx |⟨hx,-⟩
   ·rw[hx,wn.2.1];decide
   ·rw[hx,on.2.1];decide)
  rw[ht,tn.2.1,if_pos rfl]at h2
  rw[e1,e2,h2,h4]
  have mono:∀ u v:Int,u<v→(P:Int)*64+u*size A≠P*64+v*size A:=fun u v huv=>by
   have:=Int.mul_le_mul_of_nonneg_right (by omega:u+1≤v) (by omega:0≤size A)
   rw[Int.add_mul]at this
   omega
  refine⟨blkSl s ws0 P A j,R,_,rfl,rfl,rfl,fun z hz=>?_,fun z hz=>?_⟩
  ·obtain⟨i,hi,-,rfl⟩:=blkSl_mem.1 hz
   exact mono i j (by omega)
  ·obtain⟨i,hi,hi2,rfl⟩:=h1 z hz
   exact fun e=>mono j i (by omega) e.symm
end
end Go.Ma
namespace Go.Ma
open Go.Pl
namespace Rw
section
variable (s:Sh) (ws0:Nat→Int) (c n:Int) (ws:Nat→Int)
def Lo (hd:Int):Prop:=∀ q,0≤q→q<hd→Un s ws0 ws q∨Em s ws0 ws q
def Hi (a:Int):Prop:=∀ q,a≤q→q<s.p→Un s ws0 ws q
def No (hd:Int):Prop:=∀ h,0≤h→h<hd→∃ q,h≤q∧q<h+n∧¬ Free s ws0 q
def Hs (a b:Int):Prop:=∀ q,a≤q→q<b→Hl s ws0 c ws q
inductive Ph (hd at' i nx:Int) (st:Option St) (fd dn:Bool):Prop
 | look (d:dn=false) (x:nx=0) (h:Hs s ws0 c ws hd at') (u:Hi s ws0 ws at')
 | claim (d:dn=false) (x:nx=1) (h:Hs s ws0 c ws hd at') (u:Hi s ws0 ws at') (z:pgAt s ws0 at'=0)
 | strip (q:St) (d:dn=false) (x:nx=2) (h:Hs s ws0 c ws hd at') (u:Hi s ws0 ws (at'+1)) (e:st=some q) (k:q.k=pgA s at' (pgAt s ws0 at')) (t:Tr s ws0 c ws at' q.i) (b:q.bk=true→¬ Free s ws0 at')
 | clear (d:dn=false) (x:nx=3) (h:Hs s ws0 c ws hd at') (u:Hi s ws0 ws (at'+1)) (l:Cl s ws0 c ws at' i)
 | back (d:dn=false) (x:nx=4) (h:Hs s ws0 c ws hd i) (e:∀ q,i≤q→q<at'→Em s ws0 ws q) (u:Hi s ws0 ws at') (f:¬ Free s ws0 at')
 | body (d:dn=false) (x:nx=5) (a:at'=hd+n) (l:hd<i) (hh:Hl s ws0 c ws hd) (e:∀ q,hd<q→q<i→Bo s ws0 ws q hd) (h:Hs s ws0 c ws i at') (u:Hi s ws0 ws at')
 | won (d:dn=true) (f:fd=true) (nn:1≤n∧n≤8∧0≤hd∧hd+n≤s.p) (hh:Hl s ws0 c ws hd) (e:∀ q,hd<q→q<hd+n→Bo s ws0 ws q hd) (u:Hi s ws0 ws (hd+n))
 | lost (d:dn=true) (f:fd=false) (a:Lo s ws0 ws s.p) (o:∀ h,0≤h→h+n≤s.p→∃ q,h≤q∧q<h+n∧¬ Free s ws0 q)
def Go' (t:Rn):Prop:=(t.fd=true∨t.dn=false→Lo s ws0 ws t.hd∧No s ws0 n t.hd)∧Ph s ws0 c n ws t.hd t.at' t.i t.nx t.st t.fd t.dn
end
section
variable {s:Sh} {ws0 ws ws':Nat→Int} {c n:Int} {t:Rn}
theorem written_ok (hd:t.dn=false) (hx:t.nx=5) (hn:1≤n∧n≤8∧0≤t.hd∧t.hd+n≤s.p) (htn:t.n=n) (a:t.at'=t.hd+n) (l:t.hd≤t.i) (l2:t.i<t.hd+n) (lo:Lo s ws0 ws t.hd) (no:No s ws0 n t.hd)
  (hh:Hl s ws0 c ws t.hd) (e:∀ q,t.hd<q→q<t.i+1→Bo s ws0 ws q t.hd) (h:Hs s ws0 c ws (t.i+1) t.at') (u:Hi s ws0 ws t.at'):Go' s ws0 c n ws t.written:=by
 unfold Rn.written
 split
 ·rename_i h1
  rw[htn]at h1
  exact⟨fun _=>⟨lo,no⟩,.won rfl rfl hn hh (fun q q0 q1=>e q q0 (by have q1:q<t.hd+n:=q1;omega)) (by rw[a]at u;exact u)⟩
 ·exact⟨fun _=>⟨lo,no⟩,.body hd hx a (by show t.hd<t.i+1;omega) hh e h u⟩
theorem own_ok (hd:t.dn=false) (hn:1≤n∧n≤8∧0≤t.hd∧t.hd+n≤s.p) (htn:t.n=n) (a0:t.hd≤t.at') (a1:t.at'<t.hd+n) (lo:Lo s ws0 ws t.hd) (no:No s ws0 n t.hd)
  (h:Hs s ws0 c ws t.hd (t.at'+1)) (u:Hi s ws0 ws (t.at'+1)):Go' s ws0 c n ws t.own:=by
 unfold Rn.own
 split
 ·rename_i h1
  rw[htn]at h1
  exact written_ok (t:={ t with at':=t.at'+1,nx:=5,i:=t.hd }) hd rfl hn htn h1 (Int.le_refl _) (by show t.hd<t.hd+n;omega) lo no (h t.hd (Int.le_refl _) (by omega)) (fun q q0 q1=>by have q0:t.hd<q:=q0;have q1:q<t.hd+1:=q1;omega)
   (fun q q0 q1=>h q (by have q0:t.hd+1≤q:=q0;omega) q1) u
 ·exact⟨fun _=>⟨lo,no⟩,.look hd rfl h u⟩
theorem gone_ok (hd:t.dn=false) (hf:t.fd=false) (hx:t.nx=4) (hs:t.s=s) (hn:1≤n∧n≤8∧0≤t.hd∧t.hd+n≤s.p) (htn:t.n=n) (a0:t.hd≤t.at') (a1:t.at'<t.hd+n) (lo:Lo s ws0 ws t.hd) (no:No s ws0 n t.hd)
  (h:Hs s ws0 c ws t.hd t.i) (e:∀ q,t.i≤q→q<t.at'→Em s ws0 ws q) (u:Hi s ws0 ws t.at') (f:¬ Free s ws0 t.at'):Go' s ws0 c n ws t.gone:=by
 unfold Rn.gone
 split
 ·exact⟨fun _=>⟨lo,no⟩,.back hd hx h e u f⟩
 ·rename_i h1
  have lo':Lo s ws0 ws (t.at'+1):=fun q q0 q1=>by
   by_cases g:q<t.hd
   ·exact lo q q0 g
   ·by_cases g2:q=t.at'
    ·exact .inl (u q (by omega) (by omega))
    ·exact .inr (e q (by omega) (by omega))
  have no':No s ws0 n (t.at'+1):=fun h h0 h1=>by
   by_cases g:h<t.hd
   ·exact no h h0 g
   ·exact⟨t.at',by omega,by omega,f⟩
  rw[hs,htn]
  cases hz:decide (s.p - n<t.at'+1)
  ·exact⟨fun _=>⟨lo',no'⟩,.look rfl rfl (fun q q0 q1=>by have q0:t.at'+1≤q:=q0;have q1:q<t.at'+1:=q1;omega) fun q q0 q1=>u q (by have q0:t.at'+1≤q:=q0;omega) q1⟩
  ·have hz:=of_decide_eq_true hz
   refine⟨fun g=>?_,.lost rfl hf (fun q q0 q1=>?_) fun h h0 h1=>no' h h0 (by omega)⟩
   ·rcases g with g | g
    ·have g:t.fd=true:=g
     rw[hf]at g;cases g
    ·cases g
   ·by_cases g:q<t.at'+1
    ·exact lo' q q0 g
    ·exact .inl (u q (by omega) q1)
theorem miss_ok (hd:t.dn=false) (hf:t.fd=false) (hs:t.s=s) (hn:1≤n∧n≤8∧0≤t.hd∧t.hd+n≤s.p) (htn:t.n=n) (a0:t.hd≤t.at') (a1:t.at'<t.hd+n) (lo:Lo s ws0 ws t.hd) (no:No s ws0 n t.hd)
  (h:Hs s ws0 c ws t.hd t.at') (u:Hi s ws0 ws t.at') (f:¬ Free s ws0 t.at'):Go' s ws0 c n ws t.miss:=
 gone_ok (t:={ t with nx:=4,i:=t.at',gx:=t.at'+1 }) hd hf rfl hs hn htn a0 a1 lo no h (fun q q0 q1=>by have q0:t.at'≤q:=q0;have q1:q<t.at':=q1;omega) u f
structure Al (s:Sh) (ws0:Nat→Int) (c n:Int) (t:Rn) (w:Wd):Prop where
 of:w.of s
 ok:may s.p s.c s.m=true
 wf:t.wf∧t.s=s∧t.c=c∧t.n=n
 cb:0≤c∧c<s.c
 snd:Snd s ws0
 mg:∀ c' j,0≤c'→c'<s.c→0≤j→j<s.m→mgAt s w.ws c' j=mgAt s ws0 c' j
 go:Go' s ws0 c n w.ws t
variable {w:Wd}
theorem Al.all (h:Al s ws0 c n t w):∀ q,0≤q→q<s.p→Pq s ws0 c w.ws q t.hd:=fun q q0 q1=>by
 have hst:=h.go.1
 have hlo:t.fd=true∨t.dn=false→q<t.hd→Pq s ws0 c w.ws q t.hd:=fun g hq=>by
  rcases (hst g).1 q q0 hq with e | e
  ·exact .u e
  ·exact .e e
 have har:=fun hd=>(h.wf.1.of hd).2.2
 unfold Rn.Ar at har
 rw[h.wf.2.1,h.wf.2.2.2]at har
 cases h.go.2 with
 |look d x hh u=>
  have:=har d
  by_cases g:q<t.hd
  ·exact hlo (.inr d) g
  ·by_cases g2:q<t.at'
   ·exact .h (hh q (by omega) g2).1 (hh q (by omega) g2).2.1
   ·exact .u (u q (by omega) q1)
 |claim d x hh u z=>
  have:=har d
  by_cases g:q<t.hd
  ·exact hlo (.inr d) g
  ·by_cases g2:q<t.at'
   ·exact .h (hh q (by omega) g2).1 (hh q (by omega) g2).2.1
   ·exact .u (u q (by omega) q1)
 |strip q' d x hh u e k tr b=>
  have:=har d
  by_cases g:q<t.hd
  ·exact hlo (.inr d) g
  ·by_cases g2:q<t.at'
   ·exact .h (hh q (by omega) g2).1 (hh q (by omega) g2).2.1
   ·by_cases g3:q=t.at'
    ·subst g3;exact .t _ tr
    ·exact .u (u q (by omega) q1)
 |clear d x hh u l=>
  have:=har d
  by_cases g:q<t.hd
  ·exact hlo (.inr d) g
  ·by_cases g2:q<t.at'
   ·exact .h (hh q (by omega) g2).1 (hh q (by omega) g2).2.1
   ·by_cases g3:q=t.at'
    ·subst g3;exact .h l.1 l.2.1
    ·exact .u (u q (by omega) q1)
 |back d x hh e u f=>
  have:=har d
  by_cases g:q<t.hd
  ·exact hlo (.inr d) g
  ·by_cases g2:q<t.i
   ·exact .h (hh q (by omega) g2).1 (hh q (by omega) g2).2.1
   ·by_cases g3:q<t.at'
    ·exact .e (e q (by omega) g3)
    ·exact .u (u q (by omega) q1)
 |body d x a l hh e h' u=>
  have:=har d
  by_cases g:q<t.hd
  ·exact hlo (.inr d) g
  ·by_cases g0:q=t.hd
   ·rw[g0];exact .h hh.1 hh.2.1
   ·by_cases g2:q<t.i
    ·exact .b (e q (by omega) g2) (by omega) (by omega) (by omega) hh.2.1
    ·by_cases g3:q<t.at'
     ·exact .h (h' q (by omega) g3).1 (h' q (by omega) g3).2.1
     ·exact .u (u q (by omega) q1)
 |won d f nn hh e u=>
  by_cases g:q<t.hd
  ·exact hlo (.inl f) g
  ·by_cases g0:q=t.hd
   ·rw[g0];exact .h hh.1 hh.2.1
   ·by_cases g2:q<t.hd+n
    ·exact .b (e q (by omega) g2) (by omega) (by omega) (by omega) hh.2.1
    ·exact .u (u q (by omega) q1)
 |lost d f a o=>
  rcases a q q0 q1 with e | e
  ·exact .u e
  ·exact .e e
theorem Al.sound (h:Al s ws0 c n t w):Snd s w.ws:=Pq.snd h.ok h.snd h.cb.1 h.cb.2 h.all h.mg
theorem Al.fin (h:Al s ws0 c n t w) (hd:t.dn=true):t.fd=true↔∃ h,0≤h∧h+n≤s.p∧∀ q,h≤q→q<h+n→Free s ws0 q:=by
 cases h.go.2 with
 | look d=>rw[hd]at d;cases d
 | claim d=>rw[hd]at d;cases d
 | strip q' d=>rw[hd]at d;cases d
 | clear d=>rw[hd]at d;cases d
 | back d=>rw[hd]at d;cases d
 | body d=>rw[hd]at d;cases d
 |won d f nn hh e u=>
  refine⟨fun _=>⟨t.hd,nn.2.2.1,nn.2.2.2,fun q q0 q1=>?_⟩,fun _=>f⟩
  by_cases g:q=t.hd
  ·rw[g];exact hh.1
  ·exact(e q (by omega) q1).1
 |lost d f a o=>
  refine⟨fun g=>by (rw[f]at g;cases g),fun ⟨h,h0,h1,h2⟩=>?_⟩
  obtain⟨q,q0,q1,q2⟩:=o h h0 h1
  exact absurd (h2 q q0 q1) q2
theorem Lo.tr {hd q0:Int} (hq:hd≤q0) (hp:hd≤s.p) (h:Lo s ws0 ws hd) (fr:∀ q,0≤q→q<s.p→q≠q0→Sm s ws q ws'):Lo s ws0 ws' hd:=fun q a0 a1=>
 (h q a0 a1).imp (fun e=>e.tr (fr q a0 (by omega) (by omega))) fun e=>e.tr (fr q a0 (by omega) (by omega))
theorem Hi.tr {a q0:Int} (hq:q0<a) (ha:0≤a) (h:Hi s ws0 ws a) (fr:∀ q,0≤q→q<s.p→q≠q0→Sm s ws q ws'):Hi s ws0 ws' a:=fun q a0 a1=>(h q a0 a1).tr (fr q (by omega) a1 (by omega))
theorem Hs.tr {a b q0:Int} (hq:q0<a∨b≤q0) (ha:0≤a) (hb:b≤s.p) (h:Hs s ws0 c ws a b) (fr:∀ q,0≤q→q<s.p→q≠q0→Sm s ws q ws'):Hs s ws0 c ws' a b:=fun q a0 a1=>(h q a0 a1).tr (fr q (by omega) (by omega) (by omega))
theorem Al.step (h:Al s ws0 c n t w):Al s ws0 c n (t.step w).1 (t.step w).2:=by
 obtain⟨w1,w2,w3,w4⟩:=h.wf
 have hm:=h.ok
 have hc:=h.cb
 have hb:=(may_iff _ _ _).1 hm
 have hk:=Rn.step_k w1 w
 suffices hh:(∀ c' j,0≤c'→c'<s.c→0≤j→j<s.m→mgAt s (t.step w).2.ws c' j=mgAt s ws0 c' j)∧Go' s ws0 c n (t.step w).2.ws (t.step w).1 from
  ⟨Rn.step_of w1 h.of,hm,⟨Rn.step_wf w1 w,hk.1.trans w2,hk.2.1.trans w3,hk.2.2.trans w4⟩,hc,h.snd,hh.1,hh.2⟩
 rcases Rn.step_cases w1 w with⟨-,e⟩|⟨hd,hcs⟩
 ·rw[e];exact⟨h.mg,h.go⟩
 obtain⟨-,hf,har⟩:=w1.of hd
 have hqq:=w1.q hd
 obtain⟨lo,no⟩:=h.go.1 (.inr hd)
 unfold Rn.Ar at har
 rw[w2,w3,w4]at har
 have hnn:1≤n∧n≤8∧0≤t.hd∧t.hd+n≤s.p:=by omega
 have hpat:t.pat=page s.p s.c s.m t.at':=by unfold Rn.pat;rw[w2]
 have hgp:w.get t.pat=pgAt s w.ws t.at':=by rw[hpat];rfl
 have hok:∀ q,0≤q→q<s.p→okPg s q (pgAt s ws0 q)=true:=fun q q0 q1=>by
  have:=(h.snd.pg q.toNat (by omega)).1
  rw[show((q.toNat:Nat):Int)=q by omega]at this;exact this
 have hsp:∀ q,0≤q→q<s.p→SpB s ws0 q (pgK s q (pgAt s ws0 q)) (pgA s q (pgAt s ws0 q)):=fun q q0 q1=>by
  have:=(h.snd.pg q.toNat (by omega)).2
  rw[show((q.toNat:Nat):Int)=q by omega]at this;exact this
 rcases hcs with⟨hx,e⟩|⟨hx,e⟩|⟨hx,q,hq,hqw,hqd,hqs,hqc,hqp,e⟩|⟨hx,e⟩|⟨hx,e⟩|⟨hx,e⟩
 ·
  clear hqq
  rw[e]
  refine⟨h.mg,?_⟩
  show Go' s ws0 c n w.ws (t.look (w.get t.pat))
  cases h.go.2 with
  |look _ _ hh u=>
   have hun:=u t.at' (Int.le_refl _) (by omega)
   rw[hgp,hun.1]
   have ho:=hok t.at' (by omega) (by omega)
   unfold Rn.look
   split
   ·rename_i g
    unfold Rn.isE at g
    rw[w2]at g
    simp only[Bool.and_eq_true,decide_eq_true_eq]at g
    exact⟨fun _=>⟨lo,no⟩,.claim hd rfl hh u (is_empty g.1 g.2)⟩
   ·rename_i g
    split
    ·rename_i g2
     unfold Rn.isS at g2
     rw[w2]at g2
     simp only[Bool.and_eq_true,decide_eq_true_eq]at g2
     have hA:=Gv.ok_super g2.1 g2.2
     have hs4:=slots_four hA.1 hA.2.1
     refine⟨fun _=>⟨lo,no⟩,.strip _ hd rfl hh (fun q q0 q1=>u q (by have q0:t.at'+1≤q:=q0;omega) q1) rfl (by show pgA t.s t.at' _=_;rw[w2]) ⟨hun.1,g2.2,Int.le_refl _,by show 0≤slots (pgA s t.at' (pgAt s ws0 t.at'));omega,fun i i0 i1=>by have i1:i<0:=i1;omega,fun i i0 i1=>hun.2 i i0 i1⟩ (fun g=>by cases g)⟩
    ·rename_i g2
     refine miss_ok hd hf w2 hnn w4 (by omega) (by omega) lo no hh u fun hfr=>?_
     rcases hfr with g3 |⟨g3,-⟩
     ·exact g (by unfold Rn.isE;rw[w2,ho,decide_eq_true g3];rfl)
     ·exact g2 (by unfold Rn.isS;rw[w2,ho,decide_eq_true g3];rfl)
  | claim _ x=>omega
  | strip _ _ x=>omega
  | clear _ x=>omega
  | back _ x=>omega
  | body _ x=>omega
  | won d=>rw[hd]at d;cases d
  | lost d=>rw[hd]at d;cases d
 ·
  clear hqq
  rw[e]
  cases h.go.2 with
  |claim _ _ hh u z=>
   have hun:=u t.at' (Int.le_refl _) (by omega)
   have hg0:w.get t.pat=0:=by rw[hgp,hun.1,z]
   have hws:(w.swap t.c t.pat 0 (held t.c)).ws=upW w.ws (page s.p s.c s.m t.at') (held c):=by rw[swap_yes hg0,hpat,w3]
   have fr:∀ q,0≤q→q<s.p→q≠t.at'→Sm s w.ws q (upW w.ws (page s.p s.c s.m t.at') (held c)):=fun q q0 q1 hne=>Sm.pg hm (by omega) (by omega) q0 q1 hne
   refine⟨fun c' j c0 c1 j0 j1=>?_,?_⟩
   ·show mgAt s (w.swap t.c t.pat 0 (held t.c)).ws c' j=_
    rw[hws,mg_pg hm (by omega) (by omega) c0 j0];exact h.mg c' j c0 c1 j0 j1
   ·show Go' s ws0 c n (w.swap t.c t.pat 0 (held t.c)).ws (t.claim (w.get t.pat))
    unfold Rn.claim
    rw[if_pos hg0,hws]
    refine own_ok hd hnn w4 (by omega) (by omega) (lo.tr (by omega) (by omega) fr) no (fun q q0 q1=>?_) (fun q q0 q1=>(u q (by omega) q1).tr (fr q (by omega) q1 (by omega)))
    by_cases g:q=t.at'
    ·subst g
     refine⟨.inl (by rw[z,pgK_zero]),by rw[pg_pg hm (by omega) (by omega) (by omega) (by omega),if_pos rfl],fun i i0 i1=>?_⟩
     rw[sl_pg hm (by omega) (by omega) (by omega) i0,hun.2 i i0 i1]
     have:=(hsp t.at' (by omega) (by omega)).emp (by rw[z,pgK_zero];rfl) (by rw[z,pgK_zero];rfl) i.toNat (by omega)
     rw[show((i.toNat:Nat):Int)=i by omega]at this;exact this
    ·exact(hh q q0 (by omega)).tr (fr q (by omega) (by omega) g)
  | look _ x=>omega
  | strip _ _ x=>omega
  | clear _ x=>omega
  | back _ x=>omega
  | body _ x=>omega
  | won d=>rw[hd]at d;cases d
  | lost d=>rw[hd]at d;cases d
 ·
  rw[e]
  cases h.go.2 with
  |strip q' _ _ hh u eq k tr b=>
   have hqe:q'=q:=by rw[hq]at eq;exact(Option.some.inj eq).symm
   subst hqe
   rw[w2]at hqs
   rw[w3]at hqc
   have hqh:q'.hd=false:=by
    obtain⟨q2,g1,-,-,-,-,-,g2⟩:=hqq hx
    rw[hq]at g1;rw[Option.some.inj g1];exact g2
   clear hqq
   obtain⟨t1,t2,t3,t4,t5,t6⟩:=tr
   have hA:=Gv.ok_super (pgK_ne (s:=s) (x:=pgAt s ws0 t.at') (by rw[t2];decide)) t2
   have hs4:=slots_four hA.1 hA.2.1
   have hsup:=(hsp t.at' (by omega) (by omega)).sup (by rw[t2];rfl)
   obtain⟨A,hAe⟩:∃ A,pgA s t.at' (pgAt s ws0 t.at')=A:=⟨_,rfl⟩
   rw[hAe]at k t4 t5 hA hs4 hsup
   have hat:∀ j,q'.at' j=slot s.p s.c s.m t.at' j:=fun j=>by unfold St.at';rw[hqs,hqp]
   have hqpat:q'.pat=page s.p s.c s.m t.at':=by unfold St.pat;rw[hqs,hqp]
   have frS:∀ j y,0≤j→j<16→∀ q,0≤q→q<s.p→q≠t.at'→Sm s w.ws q (upW w.ws (slot s.p s.c s.m t.at' j) y):=fun j y j0 j1 q q0 q1 hne=>Sm.sl hm (by omega) (by omega) j0 j1 q0 q1 hne
   have frP:∀ y,∀ q,0≤q→q<s.p→q≠t.at'→Sm s w.ws q (upW w.ws (page s.p s.c s.m t.at') y):=fun y q q0 q1 hne=>Sm.pg hm (by omega) (by omega) q0 q1 hne
   have mgS:∀ j y,0≤j→j<16→∀ c' i,0≤c'→c'<s.c→0≤i→i<s.m→mgAt s (upW w.ws (slot s.p s.c s.m t.at' j) y) c' i=mgAt s ws0 c' i:=fun j y j0 j1 c' i c0 c1 i0 i1=>(mg_sl hm (by omega) (by omega) j0 j1 c0 i0).trans (h.mg c' i c0 c1 i0 i1)
   rcases St.step_cases q' w with⟨e1,-⟩|⟨-,⟨hb1,e2⟩|⟨hb1,hi,e2⟩|⟨hb1,hi,hg,e2⟩|⟨hb1,hi,hg,e2⟩⟩
   ·rw[hqd]at e1;cases e1
   ·
    obtain⟨-,-,-,-,-,-,a7,a8,a9⟩:=hqw.of hqd
    have a9:=a9 hb1
    have hws:(w.store q'.c (q'.at' (q'.i - 1)) (opn q'.k)).ws=upW w.ws (slot s.p s.c s.m t.at' (q'.i - 1)) (opn A):=by rw[store_ws,hat,k]
    rw[e2]
    refine⟨fun c' j c0 c1 j0 j1=>?_,?_⟩
    ·show mgAt s (w.store q'.c (q'.at' (q'.i - 1)) (opn q'.k)).ws c' j=_
     rw[hws];exact mgS _ _ (by omega) (by omega) c' j c0 c1 j0 j1
    show Go' s ws0 c n (w.store q'.c (q'.at' (q'.i - 1)) (opn q'.k)).ws (t.outs { q' with i:=q'.i - 1,dn:=decide (q'.i - 1=0) })
    rw[hws]
    have fr:=frS (q'.i - 1) (opn A) (by omega) (by omega)
    have lo2:=lo.tr (q0:=t.at') (by omega) (by omega) fr
    have hh2:=hh.tr (q0:=t.at') (.inr (Int.le_refl _)) (by omega) (by omega) fr
    have u2:=u.tr (q0:=t.at') (by omega) (by omega) fr
    have tr2:Tr s ws0 c (upW w.ws (slot s.p s.c s.m t.at' (q'.i - 1)) (opn A)) t.at' (q'.i - 1):=by
     refine⟨(pg_sl hm (by omega) (by omega) (by omega) (by omega) (by omega) (by omega)).trans t1,t2,by omega,by rw[hAe];omega,fun i i0 i1=>?_,fun i i0 i1=>?_⟩
     ·rw[sl_sl hm (by omega) (by omega) (by omega) (by omega) (by omega) i0 (by omega),if_neg (by omega),hAe];exact t5 i i0 (by omega)
     ·rw[sl_sl hm (by omega) (by omega) (by omega) (by omega) (by omega) (by omega) i1]
      split
      ·rename_i g;rw[g.2];exact(t5 (q'.i - 1) (by omega) (by omega)).2.symm
      ·exact t6 i (by omega) i1
    unfold Rn.outs
    rw[if_neg (by show ¬ q'.hd=true;have:=hqh;rw[this];decide)]
    split
    ·rename_i g
     have g:q'.i - 1=0:=of_decide_eq_true g
     rw[g]at tr2
     refine miss_ok (t:={ t with st:=some _ }) hd hf w2 hnn w4 (by show t.hd≤t.at';omega) (by show t.at'<t.hd+n;omega) lo2 no hh2 (fun q q0 q1=>?_) (b hb1)
     by_cases g2:q=t.at'
     ·subst g2;rw[g];exact⟨tr2.1,tr2.2.2.2.2.2⟩
     ·exact u2 q (by have q0:t.at'≤q:=q0;omega) q1
    ·exact⟨fun _=>⟨lo2,no⟩,.strip _ hd hx hh2 u2 rfl (by rw[hAe];exact k) tr2 b⟩
   ·
    have hws:(w.store q'.c q'.pat (held q'.c)).ws=upW w.ws (page s.p s.c s.m t.at') (held c):=by rw[store_ws,hqpat,hqc]
    rw[e2]
    refine⟨fun c' j c0 c1 j0 j1=>?_,?_⟩
    ·show mgAt s (w.store q'.c q'.pat (held q'.c)).ws c' j=_
     rw[hws,mg_pg hm (by omega) (by omega) c0 j0];exact h.mg c' j c0 c1 j0 j1
    show Go' s ws0 c n (w.store q'.c q'.pat (held q'.c)).ws (t.outs { q' with hd:=true,dn:=true })
    rw[hws]
    have fr:=frP (held c)
    have lo2:=lo.tr (q0:=t.at') (by omega) (by omega) fr
    have hh2:=hh.tr (q0:=t.at') (.inr (Int.le_refl _)) (by omega) (by omega) fr
    have u2:=u.tr (q0:=t.at') (by omega) (by omega) fr
    have l4:Cl s ws0 c (upW w.ws (page s.p s.c s.m t.at') (held c)) t.at' 0:=by
     refine⟨.inr ⟨t2,fun i i0 i1=>?_⟩,?_,fun j j0 j1=>by omega⟩
     ·rw[hAe]at i1
      rw[(t5 i i0 (by rw[hi,k];exact i1)).2];exact(opn_ne A hA.1 (by omega)).2.1
     ·rw[pg_pg hm (by omega) (by omega) (by omega) (by omega),if_pos rfl]
    unfold Rn.outs
    rw[if_pos (by rfl)]
    exact⟨fun _=>⟨lo2,no⟩,.clear hd rfl hh2 u2 l4⟩
   ·
    rw[k]at hi
    have a7:0≤q'.i:=t3
    have hgs:slAt s w.ws t.at' q'.i=opn A:=by
     rw[hat,k,slot_at hm (by omega) (by omega) (by omega) (by omega)]at hg;exact hg
    have hws:(w.swap q'.c (q'.at' q'.i) (opn q'.k) (way q'.c)).ws=upW w.ws (slot s.p s.c s.m t.at' q'.i) (way c):=by rw[swap_yes hg,hat,hqc]
    rw[e2]
    refine⟨fun c' j c0 c1 j0 j1=>?_,?_⟩
    ·show mgAt s (w.swap q'.c (q'.at' q'.i) (opn q'.k) (way q'.c)).ws c' j=_
     rw[hws];exact mgS _ _ (by omega) (by omega) c' j c0 c1 j0 j1
    show Go' s ws0 c n (w.swap q'.c (q'.at' q'.i) (opn q'.k) (way q'.c)).ws (t.outs { q' with i:=q'.i+1 })
    rw[hws]
    have fr:=frS q'.i (way c) (by omega) (by omega)
    have lo2:=lo.tr (q0:=t.at') (by omega) (by omega) fr
    have hh2:=hh.tr (q0:=t.at') (.inr (Int.le_refl _)) (by omega) (by omega) fr
    have u2:=u.tr (q0:=t.at') (by omega) (by omega) fr
    have tr2:Tr s ws0 c (upW w.ws (slot s.p s.c s.m t.at' q'.i) (way c)) t.at' (q'.i+1):=by
     refine⟨(pg_sl hm (by omega) (by omega) (by omega) (by omega) (by omega) (by omega)).trans t1,t2,by omega,by rw[hAe];omega,fun i i0 i1=>?_,fun i i0 i1=>?_⟩
     ·rw[hAe,sl_sl hm (by omega) (by omega) (by omega) (by omega) (by omega) i0 (by omega)]
      by_cases g:i=q'.i
      ·subst g
       rw[if_pos ⟨rfl,rfl⟩]
       exact⟨rfl,(t6 _ (Int.le_refl _) (by omega)).symm.trans hgs⟩
      ·rw[if_neg (by omega)];exact t5 i i0 (by omega)
     ·rw[sl_sl hm (by omega) (by omega) (by omega) (by omega) (by omega) (by omega) i1,if_neg (by omega)];exact t6 i (by omega) i1
    unfold Rn.outs
    rw[if_neg (by show ¬ q'.hd=true;rw[hqh];decide),if_neg (by show ¬ q'.dn=true;rw[hqd];decide)]
    exact⟨fun _=>⟨lo2,no⟩,.strip _ hd hx hh2 u2 rfl (by rw[hAe];exact k) tr2 b⟩
   ·
    rw[k]at hi
    have a7:0≤q'.i:=t3
    have hgs:slAt s w.ws t.at' q'.i≠opn A:=by
     rw[hat,k,slot_at hm (by omega) (by omega) (by omega) (by omega)]at hg;exact hg
    have hws:(w.swap q'.c (q'.at' q'.i) (opn q'.k) (way q'.c)).ws=w.ws:=swap_no hg
    have hnf:¬ Free s ws0 t.at':=fun hfr=>by
     rcases hfr with g |⟨-,g⟩
     ·rw[t2]at g;cases g
     ·rw[hAe]at g
      have g1:=g q'.i a7 (by omega)
      have g2:=hsup q'.i.toNat (by omega)
      rw[show((q'.i.toNat:Nat):Int)=q'.i by omega]at g2
      unfold slB at g2
      rw[decide_eq_true (by omega:q'.i<slots A),g1]at g2
      have g3:slA (slAt s ws0 t.at' q'.i)=A:=by simpa using g2
      have g4:=is_opn g1
      rw[g3]at g4
      exact hgs ((t6 _ (Int.le_refl _) (by omega)).trans g4)
    rw[e2]
    refine⟨fun c' j c0 c1 j0 j1=>?_,?_⟩
    ·show mgAt s (w.swap q'.c (q'.at' q'.i) (opn q'.k) (way q'.c)).ws c' j=_
     rw[hws];exact h.mg c' j c0 c1 j0 j1
    show Go' s ws0 c n (w.swap q'.c (q'.at' q'.i) (opn q'.k) (way q'.c)).ws (t.outs { q' with bk:=true,dn:=decide (q'.i=0) })
    rw[hws]
    have tr2:Tr s ws0 c w.ws t.at' q'.i:=⟨t1,t2,t3,by rw[hAe];exact t4,by rw[hAe];exact t5,t6⟩
    unfold Rn.outs
    rw[if_neg (by show ¬ q'.hd=true;rw[hqh];decide)]
    split
    ·rename_i g
     have g:q'.i=0:=of_decide_eq_true g
     refine miss_ok (t:={ t with st:=some _ }) hd hf w2 hnn w4 (by show t.hd≤t.at';omega) (by show t.at'<t.hd+n;omega) lo no hh (fun q q0 q1=>?_) hnf
     by_cases g2:q=t.at'
     ·subst g2;exact⟨t1,fun i i0 i1=>t6 i (by omega) i1⟩
     ·exact u q (by have q0:t.at'≤q:=q0;omega) q1
    ·exact⟨fun _=>⟨lo,no⟩,.strip _ hd hx hh u rfl (by rw[hAe];exact k) tr2 fun _=>hnf⟩
  | look _ x=>omega
  | claim _ x=>omega
  | clear _ x=>omega
  | back _ x=>omega
  | body _ x=>omega
  | won d=>rw[hd]at d;cases d
  | lost d=>rw[hd]at d;cases d
 ·
  clear hqq
  rw[e]
  cases h.go.2 with
  |clear _ _ hh u l=>
   obtain⟨l1,l2,l3⟩:=l
   have hi:0≤t.i∧t.i<16:=by omega
   have hws:(w.store t.c t.sat 0).ws=upW w.ws (slot s.p s.c s.m t.at' t.i) 0:=by rw[store_ws];unfold Rn.sat;rw[w2]
   have fr:∀ q,0≤q→q<s.p→q≠t.at'→Sm s w.ws q (upW w.ws (slot s.p s.c s.m t.at' t.i) 0):=fun q q0 q1 hne=>Sm.sl hm (by omega) (by omega) hi.1 hi.2 q0 q1 hne
   have lo2:=lo.tr (q0:=t.at') (by omega) (by omega) fr
   have hh2:=hh.tr (q0:=t.at') (.inr (Int.le_refl _)) (by omega) (by omega) fr
   have u2:=u.tr (q0:=t.at') (by omega) (by omega) fr
   have l4:Cl s ws0 c (upW w.ws (slot s.p s.c s.m t.at' t.i) 0) t.at' (t.i+1):=by
    refine⟨l1,(pg_sl hm (by omega) (by omega) hi.1 hi.2 (by omega) (by omega)).trans l2,fun j j0 j1=>?_⟩
    rw[sl_sl hm (by omega) (by omega) hi.1 hi.2 (by omega) j0 (by omega)]
    split
    ·rfl
    ·exact l3 j j0 (by omega)
   refine⟨fun c' j c0 c1 j0 j1=>?_,?_⟩
   ·show mgAt s (w.store t.c t.sat 0).ws c' j=_
    rw[hws,mg_sl hm (by omega) (by omega) hi.1 hi.2 c0 j0];exact h.mg c' j c0 c1 j0 j1
   show Go' s ws0 c n (w.store t.c t.sat 0).ws t.clear
   rw[hws]
   unfold Rn.clear
   split
   ·rename_i g
    rw[g]at l4
    refine own_ok (t:={ t with i:=t.i+1 }) hd hnn w4 (by show t.hd≤t.at';omega) (by show t.at'<t.hd+n;omega) lo2 no (fun q q0 q1=>?_) u2
    have q1:q<t.at'+1:=q1
    by_cases g2:q=t.at'
    ·rw[g2];exact l4
    ·exact hh2 q q0 (by omega)
   ·exact⟨fun _=>⟨lo2,no⟩,.clear hd hx hh2 u2 l4⟩
  | look _ x=>omega
  | claim _ x=>omega
  | strip _ _ x=>omega
  | back _ x=>omega
  | body _ x=>omega
  | won d=>rw[hd]at d;cases d
  | lost d=>rw[hd]at d;cases d
 ·
  clear hqq
  rw[e]
  cases h.go.2 with
  |back _ _ hh em u f=>
   have hi:t.hd<t.i∧t.i≤t.at':=by omega
   have hws:(w.store t.c t.bat 0).ws=upW w.ws (page s.p s.c s.m (t.i - 1)) 0:=by rw[store_ws];unfold Rn.bat;rw[w2]
   have fr:∀ q,0≤q→q<s.p→q≠t.i - 1→Sm s w.ws q (upW w.ws (page s.p s.c s.m (t.i - 1)) 0):=fun q q0 q1 hne=>Sm.pg hm (by omega) (by omega) q0 q1 hne
   have lo2:=lo.tr (q0:=t.i - 1) (by omega) (by omega) fr
   have u2:=u.tr (q0:=t.i - 1) (by omega) (by omega) fr
   have hone:=hh (t.i - 1) (by omega) (by omega)
   refine⟨fun c' j c0 c1 j0 j1=>?_,?_⟩
   ·show mgAt s (w.store t.c t.bat 0).ws c' j=_
    rw[hws,mg_pg hm (by omega) (by omega) c0 j0];exact h.mg c' j c0 c1 j0 j1
   show Go' s ws0 c n (w.store t.c t.bat 0).ws { t with i:=t.i - 1 }.gone
   rw[hws]
   refine gone_ok (t:={ t with i:=t.i - 1 }) hd hf hx w2 hnn w4 (by show t.hd≤t.at';omega) (by show t.at'<t.hd+n;omega) lo2 no (fun q q0 q1=>?_) (fun q q0 q1=>?_) u2 f
   ·have q1:q<t.i - 1:=q1
    have q0:t.hd≤q:=q0
    exact(hh q q0 (by omega)).tr (fr q (by omega) (by omega) (by omega))
   ·have q0:t.i - 1≤q:=q0
    have q1:q<t.at':=q1
    by_cases g:q=t.i - 1
    ·rw[g]
     refine⟨hone.1,by rw[pg_pg hm (by omega) (by omega) (by omega) (by omega),if_pos rfl],fun i i0 i1=>?_⟩
     rw[sl_pg hm (by omega) (by omega) (by omega) i0];exact hone.2.2 i i0 i1
    ·exact(em q (by omega) q1).tr (fr q (by omega) (by omega) g)
  | look _ x=>omega
  | claim _ x=>omega
  | strip _ _ x=>omega
  | clear _ x=>omega
  | body _ x=>omega
  | won d=>rw[hd]at d;cases d
  | lost d=>rw[hd]at d;cases d
 ·
  clear hqq
  rw[e]
  cases h.go.2 with
  |body _ _ a l hh b hr u=>
   have hi:t.hd<t.i∧t.i<t.hd+n:=by omega
   have hws:(w.store t.c t.iat (putPg 4 t.hd 0)).ws=upW w.ws (page s.p s.c s.m t.i) (putPg 4 t.hd 0):=by rw[store_ws];unfold Rn.iat;rw[w2]
   have fr:∀ q,0≤q→q<s.p→q≠t.i→Sm s w.ws q (upW w.ws (page s.p s.c s.m t.i) (putPg 4 t.hd 0)):=fun q q0 q1 hne=>Sm.pg hm (by omega) (by omega) q0 q1 hne
   have lo2:=lo.tr (q0:=t.i) (by omega) (by omega) fr
   have u2:=u.tr (q0:=t.i) (by omega) (by omega) fr
   have hone:=hr t.i (Int.le_refl _) (by omega)
   refine⟨fun c' j c0 c1 j0 j1=>?_,?_⟩
   ·show mgAt s (w.store t.c t.iat (putPg 4 t.hd 0)).ws c' j=_
    rw[hws,mg_pg hm (by omega) (by omega) c0 j0];exact h.mg c' j c0 c1 j0 j1
   show Go' s ws0 c n (w.store t.c t.iat (putPg 4 t.hd 0)).ws t.written
   rw[hws]
   refine written_ok hd hx hnn w4 a (by omega) (by omega) lo2 no (hh.tr (fr t.hd (by omega) (by omega) (by omega))) (fun q q0 q1=>?_) (fun q q0 q1=>(hr q (by omega) q1).tr (fr q (by omega) (by omega) (by omega))) u2
   by_cases g:q=t.i
   ·rw[g]
    refine⟨hone.1,by rw[pg_pg hm (by omega) (by omega) (by omega) (by omega),if_pos rfl],fun i i0 i1=>?_⟩
    rw[sl_pg hm (by omega) (by omega) (by omega) i0];exact hone.2.2 i i0 i1
   ·exact(b q q0 (by omega)).tr (fr q (by omega) (by omega) g)
  | look _ x=>omega
  | claim _ x=>omega
  | strip _ _ x=>omega
  | clear _ x=>omega
  | back _ x=>omega
  | won d=>rw[hd]at d;cases d
  | lost d=>rw[hd]at d;cases d
theorem Al.init (hm:may s.p s.c s.m=true) (ho:w.of s) (c0:0≤c) (c1:c<s.c) (n0:1≤n) (n1:n≤8) (hs:Snd s w.ws):Al s w.ws c n (Rn.new s c n) w:=by
 have hu:∀ q,Un s w.ws w.ws q:=fun q=>⟨rfl,fun i i0 i1=>rfl⟩
 refine⟨ho,hm,⟨Rn.new_wf ..,rfl,rfl,rfl⟩,⟨c0,c1⟩,hs,fun _ _ _ _ _ _=>rfl,fun _=>⟨fun q q0 q1=>.inl (hu q),fun h h0 h1=>?_⟩,?_⟩
 ·have h1:h<0:=h1;omega
 ·cases hd:(Rn.new s c n).dn
  ·exact .look rfl rfl (fun q q0 q1=>by have q0:(0:Int)≤q:=q0;have q1:q<0:=q1;omega) fun q q0 q1=>hu q
  ·refine .lost rfl rfl (fun q q0 q1=>.inl (hu q)) fun h h0 h1=>?_
   have hd':(!Rn.ok s c n)=true:=hd
   unfold Rn.ok at hd'
   rw[status_yes hm c0 c1,decide_eq_true c0,decide_eq_true n0,decide_eq_true n1,decide_eq_true (by omega:n≤s.p)]at hd'
   cases hd'
end
end Rw
end Go.Ma
namespace Go.Ma
open Go.Pl
theorem is_taken {x:Int} (hk:slK x=3):x=taken (slA x):=by
 have ho:okSl x=true:=by
  cases e:okSl x
  ·unfold slK at hk;rw[e]at hk;cases hk
  ·rfl
 have h1:x % 16=3:=by unfold slK at hk;rw[if_pos ho]at hk;exact hk
 unfold slA taken
 rw[if_pos ho]
 unfold okSl at ho
 rw[h1]at ho
 exact(of_decide_eq_true ho).symm
structure Fd (s:Sh) (ws0 ws:Nat→Int):Prop where
 pg:∀ q,0≤q→q<s.p→pgAt s ws q=pgAt s ws0 q∨(pgAt s ws q=0∧(pgK s q (pgAt s ws0 q)=3∨(pgK s q (pgAt s ws0 q)=4∧0≤pgA s q (pgAt s ws0 q)∧pgA s q (pgAt s ws0 q)<s.p∧pgK s (pgA s q (pgAt s ws0 q)) (pgAt s ws0 (pgA s q (pgAt s ws0 q)))=3)))
 sl:∀ q j,0≤q→q<s.p→0≤j→j<16→slAt s ws q j=slAt s ws0 q j∨(slK (slAt s ws0 q j)=3∧(slK (slAt s ws q j)=1∨0<s.m))
 mg:∀ c' j,0≤c'→c'<s.c→0≤j→j<s.m→mgAt s ws c' j=mgAt s ws0 c' j∨∃ p i,0≤p∧p<s.p∧0≤i∧i<16∧enP s (mgAt s ws c' j)=p∧enS s (mgAt s ws c' j)=i∧slK (slAt s ws0 p i)=3
theorem LX.fd {s:Sh} {ws0 ws:Nat→Int} {pg A c i:Int} (hm:may s.p s.c s.m=true) (hsn:Snd s ws0) (p0:0≤pg) (p1:pg<s.p) (hk:pgK s pg (pgAt s ws0 pg)=3) (hA:pgA s pg (pgAt s ws0 pg)=A) (i1:i<A) (hz:pgAt s ws pg=0) (h:LX s ws0 pg A c i ws):Fd s ws0 ws:=by
 refine⟨fun q q0 q1=>?_,fun q j q0 q1 j0 j1=>.inl (h.sl q j q0 q1 j0 j1),fun c' j c0 c1 j0 j1=>.inl (h.mg c' j c0 c1 j0 j1)⟩
 by_cases e:q=pg
 ·subst e;exact .inr ⟨hz,.inl hk⟩
 ·by_cases e2:pg<q∧q≤pg+i
  ·have h1:=h.em (q - pg) (by omega) (by omega)
   have h2:=row_body hm hsn p0 p1 hk hA (j:=q - pg) (by omega) (by omega)
   rw[show pg+(q - pg)=q by omega]at h1 h2
   exact .inr ⟨h1,.inr ⟨h2.1,by rw[h2.2];exact p0,by rw[h2.2];exact p1,by rw[h2.2];exact hk⟩⟩
  ·exact .inl (h.ot q q0 q1 e e2)
theorem SX.fd {s:Sh} {ws0 ws:Nat→Int} {pg sl A c x:Int} {e:Option Int} (hm:may s.p s.c s.m=true) (p0:0≤pg) (p1:pg<s.p) (hA0:0≤A) (hA1:A≤3) (s0:0≤sl) (s1:sl<slots A) (ht:slAt s ws0 pg sl=taken A) (hx:(x=opn A)∨0<s.m)
  (h:SX s ws0 pg sl A c x e ws):Fd s ws0 ws:=by
 have hs4:=slots_four hA0 hA1
 have tn:=taken_ne A hA0 (by omega)
 refine⟨fun q q0 q1=>.inl (h.pg' q q0 q1),fun q j q0 q1 j0 j1=>?_,fun c' j c0 c1 j0 j1=>?_⟩
 ·by_cases e2:q=pg∧j=sl
  ·obtain⟨rfl,rfl⟩:=e2
   refine .inr ⟨by rw[ht];exact tn.2.1,?_⟩
   rw[h.at']
   rcases hx with hx | hx
   ·rw[hx];exact .inl (opn_ne A hA0 (by omega)).2.1
   ·exact .inr hx
  ·exact .inl (h.sl' q j q0 q1 j0 j1 e2)
 ·rcases h.mg c' j c0 c1 j0 j1 with g |⟨-,-,g,-⟩
  ·exact .inl g
  ·have hen:=en_put hm p0 p1 s0 s1 hA0 hA1
   exact .inr ⟨pg,sl,p0,p1,s0,by omega,by rw[g];exact hen.2.1,by rw[g];exact hen.2.2.1,by rw[ht];exact tn.2.1⟩
namespace Gv
inductive Ga (s:Sh) (ws0:Nat→Int) (c a:Int) (t:Gv) (w:Wd):Prop
 | a (hd:t.dn=false) (hn:t.nx=0) (hw:w.ws=ws0)
 | n (hd:t.dn=true) (hg:t.gv=false) (hw:w.ws=ws0) (hno:∀ n:Nat,(n:Int)≤s.p→∀ z∈blks s ws0 n,z.1≠a)
 | l1 (hd:t.dn=false) (hn:t.nx=1) (hw:w.ws=ws0) (kK:t.pK=3) (hk:pgK s t.pg (pgAt s ws0 t.pg)=3) (hA:pgA s t.pg (pgAt s ws0 t.pg)=t.pA) (hwd:t.wd=pgAt s ws0 t.pg) (ha:t.pg*64=a)
 | l2 (hd:t.dn=false) (hn:t.nx=4) (hg:t.gv=true) (hk:pgK s t.pg (pgAt s ws0 t.pg)=3) (hA:pgA s t.pg (pgAt s ws0 t.pg)=t.pA) (ha:t.pg*64=a) (hx:LX s ws0 t.pg t.pA c t.i w.ws)
 | s1 (hd:t.dn=false) (hn:t.nx=1) (hw:w.ws=ws0) (kK:t.pK=2) (hk:pgK s t.pg (pgAt s ws0 t.pg)=2) (hA:pgA s t.pg (pgAt s ws0 t.pg)=t.pA) (s0:0≤t.sl) (s1:t.sl<slots t.pA) (ha:t.pg*64+t.sl*size t.pA=a)
 | s2 (p:Pu) (hd:t.dn=false) (hn:t.nx=2) (hp:t.put=some p) (hg:t.gv=true) (hk:pgK s t.pg (pgAt s ws0 t.pg)=2) (hA:pgA s t.pg (pgAt s ws0 t.pg)=t.pA) (s0:0≤t.sl) (s1:t.sl<slots t.pA) (ha:t.pg*64+t.sl*size t.pA=a) (ht:slAt s ws0 t.pg t.sl=taken t.pA)
   (hpe:p.ep=t.pg∧p.es=t.sl∧p.ek=t.pA) (hz:p.hit=true→mgAt s w.ws c p.i=0) (hx:SX s ws0 t.pg t.sl t.pA c (way c) none w.ws)
 | s3 (hd:t.dn=false) (hn:t.nx=3) (hg:t.gv=true) (hk:pgK s t.pg (pgAt s ws0 t.pg)=2) (hA:pgA s t.pg (pgAt s ws0 t.pg)=t.pA) (s0:0≤t.sl) (s1:t.sl<slots t.pA) (ha:t.pg*64+t.sl*size t.pA=a) (ht:slAt s ws0 t.pg t.sl=taken t.pA) (hx:SX s ws0 t.pg t.sl t.pA c (way c) none w.ws)
 | e (hd:t.dn=true) (hg:t.gv=true) (hp:t.pg<s.p) (hs:Snd s w.ws) (ho:∀ n:Nat,t.pg<n→(n:Int)≤s.p→Out (blks s ws0 n) (blks s w.ws n) a) (hf:Fd s ws0 w.ws)
structure Al (s:Sh) (ws0:Nat→Int) (c a:Int) (t:Gv) (w:Wd):Prop where
 of:w.of s
 ok:may s.p s.c s.m=true
 wf:t.wf∧t.s=s∧t.c=c∧t.a=a
 cb:0≤c∧c<s.c
 pb:t.dn=false→0≤t.pg∧t.pg<s.p
 snd:Snd s ws0
 ph:Ga s ws0 c a t w
variable {s:Sh} {ws0:Nat→Int} {c a:Int} {t:Gv} {w:Wd}
theorem Al.step (h:Al s ws0 c a t w):Al s ws0 c a (t.step w).1 (t.step w).2:=by
 obtain⟨w1,w2,w3,w4⟩:=h.wf
 have hm:=h.ok
 have hb:=(may_iff _ _ _).1 hm
 have hc:=h.cb
 have hkp:=step_keeps (w:=w) w1
 have hpb:(t.step w).1.dn=false→0≤(t.step w).1.pg∧(t.step w).1.pg<s.p:=fun hd=>by
  rw[hkp.2.2.2]
  cases hd0:t.dn
  ·exact h.pb hd0
  ·rw[step_dn hd0]at hd
   have hd:t.dn=false:=hd
   rw[hd0]at hd;cases hd
 suffices hh:Ga s ws0 c a (t.step w).1 (t.step w).2 from
  ⟨step_of w1 h.of,hm,⟨step_wf w1 h.of.u,hkp.1.trans w2,hkp.2.1.trans w3,hkp.2.2.1.trans w4⟩,hc,hpb,h.snd,hh⟩
 have hpat:t.pat=page s.p s.c s.m t.pg:=by unfold pat;rw[w2]
 have hsat:t.sat=slot s.p s.c s.m t.pg t.sl:=by unfold sat;rw[w2]
 have hgp:w.get t.pat=pgAt s w.ws t.pg:=by rw[hpat];rfl
 cases h.ph with
 |a hd hn hw=>
  obtain⟨p0,p1⟩:=h.pb hd
  obtain⟨-,-,-,-,-,hth,hpg,-,-⟩:=w1.of hd
  obtain⟨z1,z2,z3⟩:=w1.n01 (.inl hn)
  have hob:=off_bd hth
  rw[w2,w4]at hth hpg
  have hof:t.off=a % 64:=by unfold off so;rw[w2,w4,if_pos hth]
  have hpg2:t.pg=a / 64:=by rw[hpg];unfold sp;rw[if_pos hth]
  rw[step_0 hd hn]
  show Ga s ws0 c a (t.look w) (w.load t.c t.pat)
  rw[hw]at hgp
  unfold look
  by_cases hL:t.isL w=true
  ·rw[if_pos hL]
   unfold isL at hL
   rw[w2,hgp]at hL
   simp only[Bool.and_eq_true,decide_eq_true_eq]at hL
   exact .l1 hd rfl hw (by show pgK t.s t.pg (w.get t.pat)=3;rw[w2,hgp];exact hL.2.1) hL.2.1 (by show pgA s t.pg (pgAt s ws0 t.pg)=pgA t.s t.pg (w.get t.pat);rw[w2,hgp]) hgp (by show t.pg*64=a;have:=hL.2.2;omega)
  ·rw[if_neg hL]
   by_cases hS:t.isS w=true
   ·rw[if_pos hS]
    unfold isS at hS
    rw[w2,hgp]at hS
    simp only[Bool.and_eq_true,decide_eq_true_eq]at hS
    have hAs:=ok_super hS.1 hS.2.1
    have hs4:=slots_four hAs.1 hAs.2.1
    have hso:=slot_of ⟨hAs.1,hAs.2.1⟩ hob
    have hdm:=Int.mul_ediv_add_emod t.off (size (pgA s t.pg (pgAt s ws0 t.pg)))
    rw[hS.2.2]at hdm
    refine .s1 hd rfl hw (by show pgK t.s t.pg (w.get t.pat)=2;rw[w2,hgp];exact hS.2.1) hS.2.1 (by show pgA s t.pg (pgAt s ws0 t.pg)=pgA t.s t.pg (w.get t.pat);rw[w2,hgp]) ?_ ?_ ?_
    ·show 0≤t.off / size (pgA t.s t.pg (w.get t.pat));rw[w2,hgp];exact hso.1
    ·show t.off / size (pgA t.s t.pg (w.get t.pat))<slots (pgA t.s t.pg (w.get t.pat));rw[w2,hgp];exact hso.2
    ·show t.pg*64+t.off / size (pgA t.s t.pg (w.get t.pat))*size (pgA t.s t.pg (w.get t.pat))=a
     rw[w2,hgp,Int.mul_comm (t.off / _)];omega
   ·rw[if_neg hS]
    refine .n rfl z2 hw fun n hn z hz hza=>?_
    obtain⟨p,hp,hzp⟩:=blks_mem.1 hz
    have hin:=blkPg_in hzp
    have hpp:(p:Int)=t.pg:=by omega
    rcases blkPg_mem hzp with⟨h3,rfl⟩|⟨h2,i,hi,-,rfl⟩
    ·rw[hpp]at h3 hza
     refine hL ?_
     unfold isL
     rw[w2,hgp,pgK_ne (by rw[h3];decide),decide_eq_true h3,decide_eq_true (by have:t.pg*64=a:=hza;omega)];rfl
    ·rw[hpp]at h2 hza
     refine hS ?_
     have hAs:=ok_super (pgK_ne (s:=s) (q:=t.pg) (x:=pgAt s ws0 t.pg) (by rw[h2];decide)) h2
     have hs4:=slots_four hAs.1 hAs.2.1
     have hza:t.pg*64+i*size (pgA s t.pg (pgAt s ws0 t.pg))=a:=hza
     have ho:t.off=i*size (pgA s t.pg (pgAt s ws0 t.pg)):=by omega
     unfold isS
     rw[w2,hgp,pgK_ne (by rw[h2];decide),decide_eq_true h2,ho,Int.mul_emod_left];rfl
 | n hd hg hw hno=>rw[step_dn hd];exact .n hd hg hw hno
 |l1 hd hn hw kK hk hA hwd ha=>
  obtain⟨p0,p1⟩:=h.pb hd
  obtain⟨z1,z2,z3⟩:=w1.n01 (.inr hn)
  have hr:=row_bd hm h.snd p0 p1 hk hA
  have hgw:w.get t.pat=t.wd:=by rw[hgp,hw,hwd]
  rw[step_1L hd hn kK]
  have hsw:(w.swap t.c t.pat t.wd (held t.c)).ws=upW ws0 (page s.p s.c s.m t.pg) (held c):=by rw[swap_yes hgw,hpat,hw,w3]
  show Ga s ws0 c a (t.claimL w) (w.swap t.c t.pat t.wd (held t.c))
  have hcl:decide (w.get t.pat=t.wd)=true:=decide_eq_true hgw
  refine .l2 (by show(!decide (w.get t.pat=t.wd))=false;rw[hcl];rfl) rfl hcl hk hA ha ?_
  rw[hsw]
  show LX s ws0 t.pg t.pA c t.i _
  rw[z3]
  refine⟨.inl ?_,fun j j0 j1=>by omega,fun q q0 q1 hne _=>?_,fun q j q0 q1 j0 j1=>sl_pg hm p0 p1 q0 j0,fun c' j c0 c1 j0 j1=>mg_pg hm p0 p1 c0 j0⟩
  ·rw[pg_pg hm p0 p1 p0 p1,if_pos rfl]
  ·rw[pg_pg hm p0 p1 q0 q1,if_neg hne]
 |l2 hd hn hg hk hA ha hx=>
  obtain⟨p0,p1⟩:=h.pb hd
  have h4:=(w1.n4 hd hn).2
  have hr:=row_bd hm h.snd p0 p1 hk hA
  by_cases hi:t.i=t.pA - 1
  ·rw[step_4l hd hn hi]
   have hxx:LX s ws0 t.pg t.pA c t.i (upW w.ws (page s.p s.c s.m t.pg) 0):=by
    refine⟨.inr ⟨by rw[pg_pg hm p0 p1 p0 p1,if_pos rfl],hi⟩,fun j j0 j1=>?_,fun q q0 q1 hne hno=>?_,fun q j q0 q1 j0 j1=>(sl_pg hm p0 p1 q0 j0).trans (hx.sl q j q0 q1 j0 j1),fun c' j c0 c1 j0 j1=>(mg_pg hm p0 p1 c0 j0).trans (hx.mg c' j c0 c1 j0 j1)⟩
    ·rw[pg_pg hm p0 p1 (by omega) (by omega),if_neg (by omega)];exact hx.em j j0 j1
    ·rw[pg_pg hm p0 p1 q0 q1,if_neg hne];exact hx.ot q q0 q1 hne hno
   have hws:(w.store t.c t.pat 0).ws=upW w.ws (page s.p s.c s.m t.pg) 0:=by rw[store_ws,hpat]
   refine .e rfl hg p1 ?_ (fun n hn hn2=>?_) ?_
   ·show Snd s (w.store t.c t.pat 0).ws
    rw[hws];exact hxx.snd hm h.snd p0 p1 hk hA hc.1 hc.2 h4.1 h4.2
   ·show Out (blks s ws0 n) (blks s (w.store t.c t.pat 0).ws n) a
    have hn:t.pg<n:=hn
    rw[hws,← ha]
    exact hxx.out (P:=t.pg.toNat) hm h.snd (by omega) p1 (by omega) hn2 hk hA hc.1 hc.2 h4.1 h4.2
   ·show Fd s ws0 (w.store t.c t.pat 0).ws
    rw[hws];exact hxx.fd hm h.snd p0 p1 hk hA h4.2 (by rw[pg_pg hm p0 p1 p0 p1,if_pos rfl])
  ·rw[step_4m hd hn hi]
   have hp2:page t.s.p t.s.c t.s.m (t.pg+t.i+1)=page s.p s.c s.m (t.pg+t.i+1):=by rw[w2]
   refine .l2 hd hn hg hk hA ha ?_
   show LX s ws0 t.pg t.pA c (t.i+1) (w.store t.c (page t.s.p t.s.c t.s.m (t.pg+t.i+1)) 0).ws
   rw[store_ws,hp2]
   refine⟨?_,fun j j0 j1=>?_,fun q q0 q1 hne hno=>?_,fun q j q0 q1 j0 j1=>(sl_pg hm (by omega) (by omega) q0 j0).trans (hx.sl q j q0 q1 j0 j1),fun c' j c0 c1 j0 j1=>(mg_pg hm (by omega) (by omega) c0 j0).trans (hx.mg c' j c0 c1 j0 j1)⟩
   ·rw[pg_pg hm (by omega) (by omega) p0 p1,if_neg (by omega)]
    rcases hx.hd with e |⟨e,e2⟩
    ·exact .inl e
    ·exact absurd e2 hi
   ·rw[pg_pg hm (by omega) (by omega) (by omega) (by omega)]
    split
    ·rfl
    ·exact hx.em j j0 (by omega)
   ·rw[pg_pg hm (by omega) (by omega) q0 q1,if_neg (by omega)];exact hx.ot q q0 q1 hne (by omega)
 |s1 hd hn hw kK hk hA s0 s1 ha=>
  obtain⟨p0,p1⟩:=h.pb hd
  have hAs:=ok_super (pgK_ne (s:=s) (q:=t.pg) (x:=pgAt s ws0 t.pg) (by rw[hk];decide)) hk
  rw[hA]at hAs
  have hs4:=slots_four hAs.1 hAs.2.1
  have hgs:w.get t.sat=slAt s ws0 t.pg t.sl:=by rw[hsat,slot_at hm p0 p1 s0 (by omega),hw]
  rw[step_1S hd hn kK]
  show Ga s ws0 c a (t.claimS w) (w.swap t.c t.sat (taken t.pA) (way t.c))
  by_cases ht:slAt s ws0 t.pg t.sl=taken t.pA
  ·have hgt:w.get t.sat=taken t.pA:=hgs.trans ht
   have hws:(w.swap t.c t.sat (taken t.pA) (way t.c)).ws=upW ws0 (slot s.p s.c s.m t.pg t.sl) (way c):=by rw[swap_yes hgt,hsat,hw,w3]
   have hx:SX s ws0 t.pg t.sl t.pA c (way c) none (w.swap t.c t.sat (taken t.pA) (way t.c)).ws:=by
    rw[hws]
    refine⟨.inl rfl,?_,fun q q0 q1=>pg_sl hm p0 p1 s0 (by omega) q0 q1,fun q j q0 q1 j0 j1 hne=>?_,fun c' j c0 c1 j0 j1=>.inl (mg_sl hm p0 p1 s0 (by omega) c0 j0)⟩
    ·rw[sl_sl hm p0 p1 s0 (by omega) p0 s0 (by omega),if_pos ⟨rfl,rfl⟩]
    ·rw[sl_sl hm p0 p1 s0 (by omega) q0 j0 j1,if_neg hne]
   have hcl:decide (w.get t.sat=taken t.pA)=true:=decide_eq_true hgt
   unfold claimS
   rw[hcl]
   by_cases hB:t.pB=t.c
   ·rw[if_pos hB]
    cases hpd:t.pnew.dn
    ·exact .s2 t.pnew rfl rfl rfl rfl hk hA s0 s1 ha ht ⟨rfl,rfl,rfl⟩ (fun h=>by cases h) hx
    ·exact .s3 rfl rfl rfl hk hA s0 s1 ha ht hx
   ·rw[if_neg hB]
    exact .s3 rfl rfl rfl hk hA s0 s1 ha ht hx
  ·have hgt:w.get t.sat≠taken t.pA:=by rw[hgs];exact ht
   have hcl:decide (w.get t.sat=taken t.pA)=false:=decide_eq_false hgt
   have hws:(w.swap t.c t.sat (taken t.pA) (way t.c)).ws=ws0:=by rw[swap_no hgt,hw]
   have hno:∀ n:Nat,(n:Int)≤s.p→∀ z∈blks s ws0 n,z.1≠a:=fun n hn z hz hza=>by
    obtain⟨p,hp,hzp⟩:=blks_mem.1 hz
    have hin:=blkPg_in hzp
    have h64:0≤t.sl*size t.pA∧t.sl*size t.pA<64:=by
     have h5:=Int.mul_le_mul_of_nonneg_right (by omega:t.sl+1≤slots t.pA) (by omega:0≤size t.pA)
     rw[Int.add_mul]at h5
     have h6:=Int.mul_nonneg s0 (by omega:0≤size t.pA)
     omega
    have hpp:(p:Int)=t.pg:=by omega
    rcases blkPg_mem hzp with⟨h3,rfl⟩|⟨h2,i,hi,hi3,rfl⟩
    ·rw[hpp,hk]at h3;cases h3
    ·rw[hpp]at hza hi hi3
     have hza:t.pg*64+i*size (pgA s t.pg (pgAt s ws0 t.pg))=a:=hza
     rw[hA]at hza hi
     have hisl:(i:Int)=t.sl:=by
      rcases Int.lt_trichotomy (i:Int) t.sl with g | g | g
      ·have:=Int.mul_le_mul_of_nonneg_right (by omega:(i:Int)+1≤t.sl) (by omega:0≤size t.pA)
       rw[Int.add_mul]at this;omega
      ·exact g
      ·have:=Int.mul_le_mul_of_nonneg_right (by omega:t.sl+1≤(i:Int)) (by omega:0≤size t.pA)
       rw[Int.add_mul]at this;omega
     have hsu:=(h.snd.pg t.pg.toNat (by omega)).2.sup (by rw[show((t.pg.toNat:Nat):Int)=t.pg by omega];exact beq_iff_eq.2 hk) i (by omega)
     rw[show((t.pg.toNat:Nat):Int)=t.pg by omega,hA]at hsu
     unfold slB at hsu
     rw[decide_eq_true hi,hi3]at hsu
     have hsa:slA (slAt s ws0 t.pg i)=t.pA:=by simpa using hsu
     have:=is_taken hi3
     rw[hsa,hisl]at this
     exact ht this
   unfold claimS
   rw[hcl]
   by_cases hB:t.pB=t.c
   ·rw[if_pos hB];exact .n rfl rfl hws hno
   ·rw[if_neg hB];exact .n rfl rfl hws hno
 |s2 p hd hn hp hg hk hA s0 s1 ha ht hpe hz hx=>
  obtain⟨p0,p1⟩:=h.pb hd
  have hAs:=ok_super (pgK_ne (s:=s) (q:=t.pg) (x:=pgAt s ws0 t.pg) (by rw[hk];decide)) hk
  rw[hA]at hAs
  have hs4:=slots_four hAs.1 hAs.2.1
  obtain⟨-,p',hp',hpw,hpd,hpp,hps,hpc⟩:=w1.n2 hd hn
  rw[hp]at hp'
  injection hp' with hp'
  subst hp'
  rw[w2]at hps
  rw[w3]at hpc
  obtain⟨-,-,-,i0,i1⟩:=hpw.of hpd
  rw[hps]at i1
  have hat:p.at'=mag s.p s.c s.m c p.i:=by unfold Pu.at';rw[hps,hpc]
  rw[step_2 hd hn hp]
  show Ga s ws0 c a (t.kept (p.step w).1) (p.step w).2
  rcases Pu.step_cases p w with⟨e,-⟩|⟨-,⟨hh,e⟩|⟨hh,hg0,e⟩|⟨hh,hg0,e⟩⟩
  ·rw[hpd]at e;cases e
  ·rw[e]
   have hws:(w.store p.c p.at' (putEn p.ep p.es p.ek)).ws=upW w.ws (mag s.p s.c s.m c p.i) (putEn t.pg t.sl t.pA):=by rw[store_ws,hat,hpe.1,hpe.2.1,hpe.2.2]
   have hxx:SX s ws0 t.pg t.sl t.pA c (way c) (some p.i) (w.store p.c p.at' (putEn p.ep p.es p.ek)).ws:=by
    rw[hws]
    refine⟨.inl rfl,?_,fun q q0 q1=>(pg_mg hm hc.1 hc.2 i0 i1 q0 q1).trans (hx.pg' q q0 q1),fun q j q0 q1 j0 j1 hne=>(sl_mg hm hc.1 hc.2 i0 i1 q0 q1 j0 j1).trans (hx.sl' q j q0 q1 j0 j1 hne),fun c' j c0 c1 j0 j1=>?_⟩
    ·rw[sl_mg hm hc.1 hc.2 i0 i1 p0 p1 s0 (by omega)];exact hx.at'
    ·rw[mg_mg hm hc.1 hc.2 i0 i1 c0 j0 j1]
     have hold:mgAt s w.ws c' j=mgAt s ws0 c' j:=by
      rcases hx.mg c' j c0 c1 j0 j1 with g |⟨-,g,-⟩
      ·exact g
      ·cases g
     by_cases he:c'=c∧j=p.i
     ·rw[if_pos he]
      refine .inr ⟨he.1,by rw[he.2],rfl,?_⟩
      rw[← hold,he.1,he.2];exact hz hh
     ·rw[if_neg he];exact .inl hold
   show Ga s ws0 c a (t.kept { p with put:=true,dn:=true }) _
   unfold kept
   rw[if_pos rfl]
   refine .e rfl hg p1 (hxx.snd hm h.snd p0 p1 hk hA s0 s1 hc.1 hc.2 ht) (fun n hn hn2=>?_) (hxx.fd hm p0 p1 hAs.1 hAs.2.1 s0 s1 ht (.inr (by omega)))
   have hn:t.pg<n:=hn
   rw[← ha]
   exact hxx.out (P:=t.pg.toNat) hm (by omega) p1 (by omega) hn2 hk hA s0 s1 hc.1 hc.2 ht
  ·rw[e]
   show Ga s ws0 c a (t.kept { p with hit:=true }) _
   unfold kept
   rw[if_neg (by show ¬ p.put=true;rw[hpp];decide),if_neg (by show ¬ p.dn=true;rw[hpd];decide)]
   refine .s2 _ hd hn rfl hg hk hA s0 s1 ha ht hpe (fun _=>?_) hx
   show mgAt s w.ws c p.i=0
   rw[← mag_at hm hc.1 hc.2 i0 i1,← hat];exact hg0
  ·rw[e]
   show Ga s ws0 c a (t.kept { p with i:=p.i+1,dn:=decide (p.i+1=p.s.m) }) _
   unfold kept
   rw[if_neg (by show ¬ p.put=true;rw[hpp];decide)]
   by_cases hl:p.i+1=p.s.m
   ·rw[if_pos (by show decide (p.i+1=p.s.m)=true;exact decide_eq_true hl)]
    exact .s3 hd rfl hg hk hA s0 s1 ha ht hx
   ·rw[if_neg (by show ¬ decide (p.i+1=p.s.m)=true;rw[decide_eq_false hl];decide)]
    exact .s2 _ hd hn rfl hg hk hA s0 s1 ha ht hpe (fun h2=>by have h2:p.hit=true:=h2;rw[hh]at h2;cases h2) hx
 |s3 hd hn hg hk hA s0 s1 ha ht hx=>
  obtain⟨p0,p1⟩:=h.pb hd
  have hAs:=ok_super (pgK_ne (s:=s) (q:=t.pg) (x:=pgAt s ws0 t.pg) (by rw[hk];decide)) hk
  rw[hA]at hAs
  have hs4:=slots_four hAs.1 hAs.2.1
  rw[step_3 hd hn]
  have hws:(w.store t.c t.sat (opn t.pA)).ws=upW w.ws (slot s.p s.c s.m t.pg t.sl) (opn t.pA):=by rw[store_ws,hsat]
  have hxx:SX s ws0 t.pg t.sl t.pA c (opn t.pA) none (w.store t.c t.sat (opn t.pA)).ws:=by
   rw[hws]
   refine⟨.inr ⟨rfl,rfl⟩,?_,fun q q0 q1=>(pg_sl hm p0 p1 s0 (by omega) q0 q1).trans (hx.pg' q q0 q1),fun q j q0 q1 j0 j1 hne=>?_,fun c' j c0 c1 j0 j1=>?_⟩
   ·rw[sl_sl hm p0 p1 s0 (by omega) p0 s0 (by omega),if_pos ⟨rfl,rfl⟩]
   ·rw[sl_sl hm p0 p1 s0 (by omega) q0 j0 j1,if_neg hne];exact hx.sl' q j q0 q1 j0 j1 hne
   ·rw[mg_sl hm p0 p1 s0 (by omega) c0 j0]
    rcases hx.mg c' j c0 c1 j0 j1 with g |⟨-,g,-⟩
    ·exact .inl g
    ·cases g
  refine .e rfl hg p1 (hxx.snd hm h.snd p0 p1 hk hA s0 s1 hc.1 hc.2 ht) (fun n hn hn2=>?_) (hxx.fd hm p0 p1 hAs.1 hAs.2.1 s0 s1 ht (.inl rfl))
  have hn:t.pg<n:=hn
  rw[← ha]
  exact hxx.out (P:=t.pg.toNat) hm (by omega) p1 (by omega) hn2 hk hA s0 s1 hc.1 hc.2 ht
 | e hd hg hp hs ho hf=>rw[step_dn hd];exact .e hd hg hp hs ho hf
theorem Al.init (hm:may s.p s.c s.m=true) (ho:w.of s) (c0:0≤c) (c1:c<s.c) (hs:Snd s w.ws):Al s w.ws c a (new s c a) w:=by
 refine⟨ho,hm,⟨new_wf ..,rfl,rfl,rfl⟩,⟨c0,c1⟩,fun hd=>?_,hs,?_⟩
 ·have h1:=(new_wf s c a).of hd;exact⟨h1.2.2.2.1,h1.2.2.2.2.1⟩
 ·cases hd:(new s c a).dn
  ·exact .a hd rfl rfl
  ·refine .n hd rfl rfl fun n hn z hz hza=>?_
   have hd':(!there s.p s.c s.m a || decide (status s.p s.c s.m c<0))=true:=hd
   rw[status_yes hm c0 c1,decide_eq_false (by omega)]at hd'
   have hth:there s.p s.c s.m a=false:=by simpa using hd'
   obtain⟨p,hp,hzp⟩:=blks_mem.1 hz
   have hin:=blkPg_in hzp
   have:there s.p s.c s.m a=true:=(there_iff _ _ _ _).2 ⟨hm,by omega,by omega⟩
   rw[hth]at this;cases this
end Gv
end Go.Ma
namespace Go.Ma
open Go.Pl
def Srt (l:List (Int×Int)):Prop:=l.Pairwise (fun a b=>a.1+a.2≤b.1)
section
variable {s:Sh} {ws ws0:Nat→Int}
theorem blkPg_pos {p:Nat} {z:Int×Int} (hm:may s.p s.c s.m=true) (hs:Snd s ws) (p1:(p:Int)<s.p) (h:z∈blkPg s ws p):1≤z.2∧z.1+z.2≤s.p*64∧(z.1+z.2≤p*64+64∨∃ A,z=((p:Int)*64,A*64)∧pgK s p (pgAt s ws p)=3∧pgA s p (pgAt s ws p)=A):=by
 rcases blkPg_mem h with⟨h3,rfl⟩|⟨h2,i,hi,-,rfl⟩
 ·have hr:=row_bd hm hs (by omega) p1 h3 rfl
  exact⟨by show 1≤_*(64:Int);omega,by show(p:Int)*64+_*64≤_;omega,.inr ⟨_,rfl,h3,rfl⟩⟩
 ·have hAs:=Gv.ok_super (pgK_ne (s:=s) (q:=p) (x:=pgAt s ws p) (by rw[h2];decide)) h2
  have hs4:=slots_four hAs.1 hAs.2.1
  have h5:=Int.mul_le_mul_of_nonneg_right (by omega:(i:Int)+1≤slots (pgA s p (pgAt s ws p))) (by omega:0≤size (pgA s p (pgAt s ws p)))
  rw[Int.add_mul]at h5
  exact⟨by show 1≤size _;omega,by show(p:Int)*64+i*size _+size _≤_;omega,.inl (by show(p:Int)*64+i*size _+size _≤_;omega)⟩
end
def Out2 (l l':List (Int×Int)) (y:Int×Int):Prop:=∃ pre post,l=pre ++ [y] ++ post∧l'=pre ++ post∧(∀ z∈pre,z.1≠y.1)∧∀ z∈post,z.1≠y.1
theorem Out.two {l l':List (Int×Int)} {a:Int} {z:Int×Int} (h:Out l l' a) (hz:z∈l) (ha:z.1=a):Out2 l l' z:=by
 obtain⟨pre,post,y,rfl,rfl,hy,h1,h2⟩:=h
 have e:z=y:=by
  simp only[List.mem_append,List.mem_singleton]at hz
  rcases hz with(hz | hz) | hz
  ·exact absurd ha (h1 z hz)
  ·exact hz
  ·exact absurd ha (h2 z hz)
 subst e
 exact⟨pre,post,rfl,rfl,fun x hx=>by rw[ha];exact h1 x hx,fun x hx=>by rw[ha];exact h2 x hx⟩
theorem Out2.len {l l':List (Int×Int)} {y:Int×Int} (h:Out2 l l' y):l.length=l'.length+1:=by
 obtain⟨pre,post,rfl,rfl,-⟩:=h
 simp only[List.length_append,List.length_cons,List.length_nil];omega
section
variable {s:Sh} {ws ws0:Nat→Int} {c:Int} {b:Bk}
theorem large_ok {q n:Int} (hm:may s.p s.c s.m=true) (q0:0≤q) (n1:1≤n) (n8:n≤8) (nq:q+n≤s.p):okPg s q (putPg 3 n 0)=true∧pgK s q (putPg 3 n 0)=3∧pgA s q (putPg 3 n 0)=n:=by
 have hb:=(may_iff _ _ _).1 hm
 have hv:putPg 3 n 0=3+16*n:=by unfold putPg;rw[if_pos (by omega)];omega
 have e1:(3+16*n) % 16=3:=by omega
 have e2:pt (3+16*n) 16=n:=by unfold pt;omega
 have e3:pt (3+16*n) 4096=0:=by unfold pt;omega
 have hp:0≤page s.p s.c s.m q:=by rw[page_yes hm (by omega) (by omega)];omega
 have ok:okPg s q (putPg 3 n 0)=true:=by
  rw[hv]
  unfold okPg
  rw[e1,e2,e3]
  have g1:decide (putPg 3 n 0=3+16*n)=true:=decide_eq_true hv
  have g3:fits s q 3 n 0=true:=by unfold fits;simp;omega
  rw[g1,g3,decide_eq_true hp];rfl
 refine⟨ok,?_,?_⟩
 ·unfold pgK;rw[if_pos ok,hv,e1]
 ·unfold pgA;rw[if_pos ok,hv,e2]
structure Res (s:Sh) (ws:Nat→Int) (c:Int) (b:Bk):Prop where
 f:b.Fit s c
 l:b.lg=true→pgAt s ws b.p=held c∧Rw.Zs s ws b.p∧(∀ q,b.p<q→q<b.p+b.n→pgAt s ws q=putPg 4 b.p 0)∧∀ q,0≤q→q<s.p→pgK s q (pgAt s ws q)=4→pgA s q (pgAt s ws q)=b.p→q<b.p+b.n
 s:b.lg=false→0≤b.k∧b.k≤3∧pgK s b.p (pgAt s ws b.p)=2∧pgA s b.p (pgAt s ws b.p)=b.k∧slAt s ws b.p b.i=way c∧∀ c' j,0≤c'→c'<s.c→0≤j→j<s.m→mgAt s ws c' j≠0→¬ (enP s (mgAt s ws c' j)=b.p∧enS s (mgAt s ws c' j)=b.i)
def cmW (s:Sh) (ws:Nat→Int) (b:Bk):Nat→Int:=if b.lg then upW ws (page s.p s.c s.m b.p) (putPg 3 b.n 0) else upW ws (slot s.p s.c s.m b.p b.i) (putSl 3 b.k)
theorem Res.cm_snd (hm:may s.p s.c s.m=true) (hs:Snd s ws) (h:Res s ws c b):Snd s (cmW s ws b):=by
 have hb:=(may_iff _ _ _).1 hm
 have F:=h.f
 have p0:=F.p0
 have p1:=F.p1
 unfold cmW
 cases e:b.lg
 ·simp only[Bool.false_eq_true,if_false]
  obtain⟨k0,k1,h1,h2,h3,h4⟩:=h.s e
  have hsl:=F.s e
  have hs4:=slots_four k0 k1
  have tn:=taken_ne b.k k0 (by omega)
  have i1:b.i<16:=by omega
  refine⟨fun q q1=>?_,fun c' j h1' h2' hx=>?_,fun c' j c'' j' g1 g2 g3 ha hx hy=>?_⟩
  ·obtain⟨e1,e2⟩:=hs.pg q q1
   rw[pg_sl hm p0 p1 hsl.1 i1 (by omega) q1]
   refine⟨e1,⟨fun k j hj=>?_,fun k k' j hj=>?_,fun k k' k4=>?_,fun k k' k4 k3 j j1 j2=>?_⟩⟩
   ·rw[sl_sl hm p0 p1 hsl.1 i1 (by omega) (by omega) (by omega)]
    by_cases hq:(q:Int)=b.p∧(j:Int)=b.i
    ·rw[if_pos hq,hq.1,hq.2,h2]
     unfold slB
     rw[decide_eq_true hsl.2]
     show((((slK (taken b.k) == 1) || (slK (taken b.k) == 3)) && (slA (taken b.k) == b.k)) || ((slK (taken b.k) == 2) && decide (slA (taken b.k)<s.c)))=true
     rw[tn.2.1,tn.2.2];simp
    ·rw[if_neg hq];exact e2.sup k j hj
   ·rw[sl_sl hm p0 p1 hsl.1 i1 (by omega) (by omega) (by omega),if_neg fun hq=>by rw[hq.1,h1]at k;cases k];exact e2.emp k k' j hj
   ·have hbo:=Ad.ok_body e1 (beq_iff_eq.1 k4)
    rw[pg_sl hm p0 p1 hsl.1 i1 hbo.1 (by omega)];exact e2.bod k k' k4
   ·have hl:=large_bd e1 (beq_iff_eq.1 k3)
    rw[pg_sl hm p0 p1 hsl.1 i1 (by omega) (by omega)];exact e2.lar k k' k4 k3 j j1 j2
  ·rw[mg_sl hm p0 p1 hsl.1 i1 (by omega) (by omega)]at hx ⊢
   obtain⟨e1,e2,e3,e4⟩:=hs.en c' j h1' h2' hx
   have hE:=en_bd e1
   refine⟨e1,by rw[pg_sl hm p0 p1 hsl.1 i1 hE.1 hE.2.1];exact e2,by rw[pg_sl hm p0 p1 hsl.1 i1 hE.1 hE.2.1];exact e3,?_⟩
   rw[sl_sl hm p0 p1 hsl.1 i1 hE.1 hE.2.2.1 hE.2.2.2,if_neg (h4 c' j (by omega) h1' (by omega) h2' hx)];exact e4
  ·have hc':(c'':Int)<s.c:=by unfold ahead at ha;omega
   rw[mg_sl hm p0 p1 hsl.1 i1 (by omega) (by omega)]at hx hy ⊢
   rw[mg_sl hm p0 p1 hsl.1 i1 (by omega) (by omega)]
   exact hs.dj c' j c'' j' g1 g2 g3 ha hx hy
 ·simp only[if_true]
  obtain⟨h1,h2,h3,h4⟩:=h.l e
  have hl:=F.l e
  have ho:=held_ok hm p0 p1 F.c0 F.c1
  have lo:=large_ok (s:=s) (q:=b.p) (n:=b.n) hm p0 hl.1 hl.2.1 hl.2.2
  have hbo:=fun q (q0:b.p<q) (q1:q<b.p+b.n)=>body_ok (s:=s) (q:=q) hm p0 q0 (by omega) (by omega)
  refine⟨fun q q1=>?_,fun c' j h1' h2' hx=>?_,fun c' j c'' j' g1 g2 g3 ha hx hy=>?_⟩
  ·obtain⟨e1,e2⟩:=hs.pg q q1
   rw[pg_pg hm p0 p1 (by omega) q1]
   by_cases hq:(q:Int)=b.p
   ·rw[if_pos hq,hq]
    refine⟨lo.1,SpB.large (by rw[lo.2.1];rfl) (fun i hi=>?_) (by rw[lo.2.1];rfl) fun i i1 i2=>?_⟩
    ·rw[sl_pg hm p0 p1 p0 (by omega)];exact h2 i (by omega) (by omega)
    ·rw[lo.2.2]at i2
     rw[pg_pg hm p0 p1 (by omega) (by omega),if_neg (by omega),h3 (b.p+i) (by omega) (by omega)]
     have:=hbo (b.p+i) (by omega) (by omega)
     exact⟨this.2.1,this.2.2⟩
   ·rw[if_neg hq]
    refine⟨e1,⟨fun k j hj=>?_,fun k k' j hj=>?_,fun k k' k4=>?_,fun k k' k4 k3 j j1 j2=>?_⟩⟩
    ·rw[sl_pg hm p0 p1 (by omega) (by omega)];exact e2.sup k j hj
    ·rw[sl_pg hm p0 p1 (by omega) (by omega)];exact e2.emp k k' j hj
    ·have hb':=Ad.ok_body e1 (beq_iff_eq.1 k4)
     rw[pg_pg hm p0 p1 hb'.1 (by omega)]
     by_cases hA:pgA s q (pgAt s ws q)=b.p
     ·rw[if_pos hA,hA,lo.2.1,lo.2.2]
      have:=h4 q (by omega) q1 (beq_iff_eq.1 k4) hA
      simp;omega
     ·rw[if_neg hA];exact e2.bod k k' k4
    ·have hl':=large_bd e1 (beq_iff_eq.1 k3)
     have hr:=e2.lar k k' k4 k3 j j1 j2
     rw[pg_pg hm p0 p1 (by omega) (by omega),if_neg fun g=>by rw[g,h1,ho.2.1]at hr;exact absurd hr.1 (by decide)]
     exact hr
  ·rw[mg_pg hm p0 p1 (by omega) (by omega)]at hx ⊢
   obtain⟨e1,e2,e3,e4⟩:=hs.en c' j h1' h2' hx
   have hE:=en_bd e1
   have hne:enP s (mgAt s ws c' j)≠b.p:=fun g=>by rw[g,h1,ho.2.1]at e2;cases e2
   exact⟨e1,by rw[pg_pg hm p0 p1 hE.1 hE.2.1,if_neg hne];exact e2,by rw[pg_pg hm p0 p1 hE.1 hE.2.1,if_neg hne];exact e3,by rw[sl_pg hm p0 p1 hE.1 hE.2.2.1];exact e4⟩
  ·have hc':(c'':Int)<s.c:=by unfold ahead at ha;omega
   rw[mg_pg hm p0 p1 (by omega) (by omega)]at hx hy ⊢
   rw[mg_pg hm p0 p1 (by omega) (by omega)]
   exact hs.dj c' j c'' j' g1 g2 g3 ha hx hy
theorem Res.cm_out (hm:may s.p s.c s.m=true) (hs:Snd s ws) (h:Res s ws c b) {n:Nat} (hn:b.p<n) (hn2:(n:Int)≤s.p):Out2 (blks s (cmW s ws b) n) (blks s ws n) (b.ad,b.len):=by
 have hb:=(may_iff _ _ _).1 hm
 have F:=h.f
 have p0:=F.p0
 have p1:=F.p1
 obtain⟨P,hP⟩:∃ P:Nat,(P:Int)=b.p:=⟨b.p.toNat,by omega⟩
 unfold cmW Bk.ad Bk.len
 cases e:b.lg
 ·simp only[Bool.false_eq_true,if_false]
  obtain⟨k0,k1,h1,h2,h3,h4⟩:=h.s e
  have hsl:=F.s e
  have hs4:=slots_four k0 k1
  have tn:=taken_ne b.k k0 (by omega)
  have wn:=way_ne c F.c0 (by have:=F.c1;omega)
  have i1:b.i<16:=by omega
  obtain⟨j,hj⟩:∃ j:Nat,(j:Int)=b.i:=⟨b.i.toNat,by omega⟩
  obtain⟨W,hW⟩:∃ W,upW ws (slot s.p s.c s.m b.p b.i) (putSl 3 b.k)=W:=⟨_,rfl⟩
  have hpg:∀ q,0≤q→q<s.p→pgAt s W q=pgAt s ws q:=fun q q0 q1=>by rw[← hW];exact pg_sl hm p0 p1 hsl.1 i1 q0 q1
  have hslo:∀ q i,0≤q→q<s.p→0≤i→i<16→¬ (q=b.p∧i=b.i)→slAt s W q i=slAt s ws q i:=fun q i q0 q1 i0 i1' hne=>by rw[← hW,sl_sl hm p0 p1 hsl.1 i1 q0 i0 i1',if_neg hne]
  have hsat:slAt s W b.p b.i=putSl 3 b.k:=by rw[← hW,sl_sl hm p0 p1 hsl.1 i1 p0 hsl.1 i1,if_pos ⟨rfl,rfl⟩]
  rw[hW]
  have ho:Out (blks s W n) (blks s ws n) (b.p*64+b.i*size b.k):=by
   refine page_out (p:=P) (by omega) (fun q hq hne=>(blkPg_congr (by rw[hpg q (by omega) (by omega)]) (fun _=>by rw[hpg q (by omega) (by omega)]) fun _ i hi=>by rw[hslo q i (by omega) (by omega) (by omega) (by omega) (by omega)]).symm) ?_
   obtain⟨R,r1,r2,r3⟩:=blkSl_split (s:=s) (ws:=W) (p:=P) (A:=b.k) j (slots b.k).toNat (by omega)
   have e1:blkPg s ws P=blkSl s ws P b.k (slots b.k).toNat:=by unfold blkPg;rw[hP,if_neg (by rw[h1];decide),if_pos h1,h2]
   have e2:blkPg s W P=blkSl s W P b.k (slots b.k).toNat:=by unfold blkPg;rw[hP,hpg b.p p0 p1,if_neg (by rw[h1];decide),if_pos h1,h2]
   have r4:=r3 ws (fun i hi hne=>by rw[hslo P i (by omega) (by omega) (by omega) (by omega) (by omega)]) (by rw[hP,hj,h3,wn.2.1];decide)
   rw[hP,hj,hsat,if_pos (show slK (putSl 3 b.k)=3 from tn.2.1)]at r2
   rw[e1,e2]
   rw[hP]at r1 r4 ⊢
   rw[r2,r4]
   have mono:∀ u v:Int,u<v→b.p*64+u*size b.k≠b.p*64+v*size b.k:=fun u v huv=>by
    have:=Int.mul_le_mul_of_nonneg_right (by omega:u+1≤v) (by omega:0≤size b.k)
    rw[Int.add_mul]at this
    omega
   refine⟨blkSl s W b.p b.k j,R,_,rfl,rfl,rfl,fun z hz=>?_,fun z hz=>?_⟩
   ·obtain⟨i,hi,-,rfl⟩:=blkSl_mem.1 hz
    exact mono i b.i (by omega)
   ·obtain⟨i,hi,hi2,rfl⟩:=r1 z hz
    exact fun e=>mono b.i i (by omega) e.symm
  refine ho.two (blks_mem.2 ⟨P,by omega,?_⟩) rfl
  unfold blkPg
  rw[hP,hpg b.p p0 p1,if_neg (by rw[h1];decide),if_pos h1,h2]
  exact blkSl_mem.2 ⟨j,by omega,by rw[hj,hsat];exact tn.2.1,by rw[hj]⟩
 ·simp only[if_true]
  obtain⟨h1,h2,h3,h4⟩:=h.l e
  have hl:=F.l e
  have ho:=held_ok hm p0 p1 F.c0 F.c1
  have lo:=large_ok (s:=s) (q:=b.p) (n:=b.n) hm p0 hl.1 hl.2.1 hl.2.2
  obtain⟨W,hW⟩:∃ W,upW ws (page s.p s.c s.m b.p) (putPg 3 b.n 0)=W:=⟨_,rfl⟩
  have hpg:∀ q,0≤q→q<s.p→pgAt s W q=if q=b.p then putPg 3 b.n 0 else pgAt s ws q:=fun q q0 q1=>by rw[← hW];exact pg_pg hm p0 p1 q0 q1
  have hsl:∀ q i,0≤q→q<s.p→0≤i→slAt s W q i=slAt s ws q i:=fun q i q0 q1 i0=>by rw[← hW];exact sl_pg hm p0 p1 q0 i0
  rw[hW]
  have e1:blkPg s ws P = []:=blkPg_none (by rw[hP,h1,ho.2.1];decide) (by rw[hP,h1,ho.2.1];decide)
  have e2:blkPg s W P = [(b.p*64,b.n*64)]:=by unfold blkPg;rw[hP,hpg b.p p0 p1,if_pos rfl,if_pos lo.2.1,lo.2.2]
  have hx:Out (blks s W n) (blks s ws n) (b.p*64):=by
   refine page_out (p:=P) (by omega) (fun q hq hne=>(blkPg_congr (by rw[hpg q (by omega) (by omega),if_neg (by omega)]) (fun _=>by rw[hpg q (by omega) (by omega),if_neg (by omega)]) fun _ i hi=>by rw[hsl q i (by omega) (by omega) (by omega)]).symm) ?_
   rw[e1,e2]
   exact⟨[],[],_,rfl,rfl,rfl,by simp,by simp⟩
  exact hx.two (blks_mem.2 ⟨P,by omega,by rw[e2];simp⟩) rfl
end
end Go.Ma
namespace Go.Ma
open Go.Pl
section
variable {s:Sh} {ws0 ws:Nat→Int} {c k f p q:Int} {b:Bk}
theorem way_not_opn {c:Int} (c0:0≤c) (c1:c≤255) {x:Int} (h:x=putSl 2 c):slK x=2:=by
 rw[h];exact(way_ne c c0 c1).2.1
theorem Snd.free_en (hm:may s.p s.c s.m=true) (hs:Snd s ws0) (hf:Rw.Free s ws0 p) {c' j:Nat} (h1:(c':Int)<s.c) (h2:(j:Int)<s.m) (hx:mgAt s ws0 c' j≠0):enP s (mgAt s ws0 c' j)≠p:=by
 have hb:=(may_iff _ _ _).1 hm
 intro he
 obtain⟨r1,r2,r3,r4⟩:=hs.en c' j h1 h2 hx
 have hb2:=en_bd r1
 have hS:=en_slot r1
 rw[he]at r2 r3 r4
 rcases hf with g |⟨g,g2⟩
 ·rw[r2]at g;cases g
 ·have:=g2 _ hb2.2.2.1 (by rw[r3];exact hS)
  rw[way_not_opn (by omega) (by omega) r4]at this;cases this
inductive Gq (s:Sh) (ws0 ws:Nat→Int) (c:Int) (b:Bk) (q:Int):Prop
 | u (e:Rw.Un s ws0 ws q)
 | e (e:Rw.Em s ws0 ws q)
 | r (l:b.lg=true) (h0:b.p≤q) (h1:q<b.p+b.n) (f:Rw.Free s ws0 q)
 | s1 (l:b.lg=false) (h:q=b.p) (e:Rw.Un s ws0 ws q) (w:slAt s ws0 q b.i=way c) (k:pgK s q (pgAt s ws0 q)=2∧pgA s q (pgAt s ws0 q)=b.k)
 | s2 (l:b.lg=false) (h:q=b.p) (p:pgAt s ws q=pgAt s ws0 q) (w:slAt s ws0 q b.i=opn b.k) (o:∀ i,0≤i→i<16→i≠b.i→slAt s ws q i=slAt s ws0 q i) (k:pgK s q (pgAt s ws0 q)=2∧pgA s q (pgAt s ws0 q)=b.k)
 | s3 (l:b.lg=false) (h:q=b.p) (f:Rw.Free s ws0 q) (o:∀ i,0≤i→i<slots b.k→i≠b.i→slAt s ws q i=opn b.k)
structure Got (s:Sh) (ws0 ws:Nat→Int) (c:Int) (b:Bk):Prop where
 res:Res s ws c b
 snd:Snd s ws
 pg:∀ q,0≤q→q<s.p→Gq s ws0 ws c b q
 row:b.lg=true→∀ q,b.p≤q→q<b.p+b.n→Rw.Free s ws0 q
structure Lost (s:Sh) (ws0 ws:Nat→Int):Prop where
 snd:Snd s ws
 pg:∀ q,0≤q→q<s.p→Rw.Un s ws0 ws q∨Rw.Em s ws0 ws q
theorem un_blk (hq:(0:Int)≤q) {P:Nat} (hP:(P:Int)=q) (h:Rw.Un s ws0 ws q):blkPg s ws P=blkPg s ws0 P:=by
 subst hP
 exact blkPg_congr (by rw[h.1]) (fun _=>by rw[h.1]) fun _ i hi=>by rw[h.2 i (by omega) (by omega)]
theorem em_blk {P:Nat} (hP:(P:Int)=q) (h:Rw.Em s ws0 ws q):blkPg s ws P=blkPg s ws0 P:=by
 subst hP
 rw[h.1.none,blkPg_none (by rw[h.2.1,pgK_zero];decide) (by rw[h.2.1,pgK_zero];decide)]
theorem Lost.blks (h:Lost s ws0 ws) {n:Nat} (hn:(n:Int)≤s.p):Go.Ma.blks s ws n=Go.Ma.blks s ws0 n:=
 blks_congr fun p hp=>by
  rcases h.pg p (by omega) (by omega) with g | g
  ·exact un_blk (by omega) rfl g
  ·exact em_blk rfl g
theorem Got.blks (hm:may s.p s.c s.m=true) (h:Got s ws0 ws c b) {n:Nat} (hn:(n:Int)≤s.p):Go.Ma.blks s ws n=Go.Ma.blks s ws0 n:=
 blks_congr fun p hp=>by
  have hb:=(may_iff _ _ _).1 hm
  have F:=h.res.f
  have wn:=way_ne c F.c0 (by have:=F.c1;omega)
  cases h.pg p (by omega) (by omega) with
  | u g=>exact un_blk (by omega) rfl g
  | e g=>exact em_blk rfl g
  |r l h0 h1 f=>
   have hl:=F.l l
   obtain⟨g1,g2,g3,g4⟩:=h.res.l l
   rw[f.none]
   by_cases e:(p:Int)=b.p
   ·have ho:=held_ok hm F.p0 F.p1 F.c0 F.c1
    exact blkPg_none (by rw[e,g1,ho.2.1];decide) (by rw[e,g1,ho.2.1];decide)
   ·have hbo:=body_ok (s:=s) (q:=p) hm F.p0 (by omega) (by omega) (by omega)
    rw[← g3 p (by omega) h1]at hbo
    exact blkPg_none (by rw[hbo.2.1];decide) (by rw[hbo.2.1];decide)
  | s1 l e g=>exact un_blk (by omega) rfl g
  |s2 l e g w o k=>
   obtain⟨k0,k1,r1,r2,r3,r4⟩:=h.res.s l
   have on:=opn_ne b.k k0 (by omega)
   refine blkPg_congr (by rw[g]) (fun _=>by rw[g]) fun _ i hi=>?_
   by_cases ei:(i:Int)=b.i
   ·rw[ei,w,on.2.1,e,r3,wn.2.1];decide
   ·rw[o i (by omega) (by omega) ei]
  |s3 l e f o=>
   obtain⟨k0,k1,r1,r2,r3,r4⟩:=h.res.s l
   have on:=opn_ne b.k k0 (by omega)
   rw[f.none]
   unfold blkPg
   rw[e,if_neg (by rw[r1];decide),if_pos r1,r2]
   refine List.eq_nil_iff_forall_not_mem.2 fun z hz=>?_
   obtain⟨i,hi,h3,-⟩:=blkSl_mem.1 hz
   by_cases ei:(i:Int)=b.i
   ·rw[ei,r3,wn.2.1]at h3;cases h3
   ·rw[← e,o i (by omega) (by omega) ei,on.2.1]at h3;cases h3
end
namespace Sa
section
variable {s:Sh} {ws0 ws:Nat→Int} {c k f p:Int} {t:Sk} {w:Wd}
theorem Off.un (hm:may s.p s.c s.m=true) (p0:0≤p) (p1:p<s.p) (h:Off s ws0 ws p) {q:Int} (q0:0≤q) (q1:q<s.p) (hne:q≠p):Rw.Un s ws0 ws q:=by
 have hb:=(may_iff _ _ _).1 hm
 refine⟨?_,fun j j0 j1=>?_⟩
 ·unfold pgAt;rw[page_yes hm q0 q1];exact h _ (by omega) (by omega)
 ·exact h _ (by omega) (by omega)
theorem Off.mg (hm:may s.p s.c s.m=true) (p0:0≤p) (p1:p<s.p) (h:Off s ws0 ws p) {c' j:Int} (a0:0≤c') (b0:0≤j):mgAt s ws c' j=mgAt s ws0 c' j:=by
 have hb:=(may_iff _ _ _).1 hm
 have h5:=Int.mul_nonneg a0 (by omega:0≤s.m)
 exact h _ (by omega) (by omega)
theorem Al.sound (h:Al s ws0 c k f t w):Snd s w.ws:=by
 have hm:=h.ok
 have hb:=(may_iff _ _ _).1 hm
 obtain⟨hc,c0,c1⟩:=h.ec
 obtain⟨hk,k0,k1⟩:=h.kk
 have hts:=h.es
 have hsn:=h.snd
 have hsk:=slots_four k0 k1
 have wn:=way_ne c c0 (by omega)
 have on:=opn_ne k k0 (by omega)
 cases h.ph with
 | tk m e hd hh hw=>rw[hw];exact hsn
 | ht m e hd hh hw=>rw[hw];exact hsn
 | sc m e hd hw=>rw[hw];exact hsn
 | pc m e hd hw=>rw[hw];exact hsn
 | no e hd hw=>rw[hw];exact hsn
 |st m e hd no ns ne nf of tr kk bk=>
  obtain⟨ho,hmd⟩:=h.wf.nw hd
  rw[e]at ho
  obtain⟨o1,o2,o3,o4,o5⟩:=ho
  have hpe:m.p=(f+t.many) % s.p:=by rw[o4];unfold Sk.here;rw[hts,h.ff.1]
  have p0:0≤m.p:=by rw[hpe];exact Int.emod_nonneg _ (by omega)
  have p1:m.p<s.p:=by rw[hpe];exact Int.emod_lt_of_pos _ (by omega)
  refine Rw.Pq.snd (h:=0) hm hsn c0 c1 (fun q q0 q1=>?_) fun c' j a0 a1 b0 b1=>of.mg hm p0 p1 a0 b0
  by_cases e2:q=m.p
  ·subst e2;exact .t _ tr
  ·exact .u (of.un hm p0 p1 q0 q1 e2)
 |b1 m e hd og of hx pg sl=>
  obtain⟨ho,hmd⟩:=h.wf.nw hd
  rw[e]at ho hmd
  have hmd:m.dn=false:=hmd
  obtain⟨o1,o2,o3,o4,o5,o6,o7⟩:=ho
  obtain⟨-,-,-,p0,p1,-⟩:=o1.of hmd
  rw[o2,hts]at p1
  refine Rw.Pq.snd (h:=0) hm hsn c0 c1 (fun q q0 q1=>?_) fun c' j a0 a1 b0 b1=>of.mg hm p0 p1 a0 b0
  by_cases e2:q=m.p
  ·subst e2;exact .h og.1 pg
  ·exact .u (of.un hm p0 p1 q0 q1 e2)
 |b2 m e hd og of hx pg sl so sz=>
  obtain⟨ho,hmd⟩:=h.wf.nw hd
  rw[e]at ho hmd
  have hmd:m.dn=false:=hmd
  obtain⟨o1,o2,o3,o4,o5,o6,o7⟩:=ho
  obtain⟨-,-,-,p0,p1,-⟩:=o1.of hmd
  rw[o2,hts]at p1
  obtain⟨fr,-⟩:=og
  have hso:=super_ok hm p0 p1 k0 k1 c0 c1
  refine one hm hsn p0 p1 (fr.imp id fun x=>x.1) (fun q q0 q1 hne=>of.un hm p0 p1 q0 q1 hne) (by rw[pg];exact hso.1) (by rw[pg];exact hso.2.1) (fun j hj=>?_) (fun c' j a0 a1 b0 b1=>.inl (of.mg hm p0 p1 a0 b0)) (fun c' j a1 b1 hx he hE=>absurd he (hsn.free_en hm fr a1 b1 hx))
  rw[pg,hso.2.2]
  unfold slB
  by_cases e1:(j:Int)<slots k
  ·rw[decide_eq_true e1]
   by_cases e0:(j:Int)≤m.i
   ·rw[sl j (by omega) e0,wn.2.1,wn.2.2];simp;exact c1
   ·rw[so j (by omega) e1,on.2.1,on.2.2];simp
  ·rw[decide_eq_false e1,sz j (by omega) (by omega)];rfl
 | f1 i hd=>exact(h.ends hd).1
 | f2 hd=>exact(h.ends hd).1
 | f3 hd=>exact(h.ends hd).1
 | n hd=>exact(h.ends hd).1
theorem Al.got (h:Al s ws0 c k f t w) (hd:t.dn=true) (hf:t.fd=true):Got s ws0 w.ws c ⟨false,t.pg,t.sl,t.k,0⟩:=by
 have hm:=h.ok
 have hb:=(may_iff _ _ _).1 hm
 obtain⟨hc,c0,c1⟩:=h.ec
 obtain⟨hk,k0,k1⟩:=h.kk
 have hsn:=h.snd
 have hsk:=slots_four k0 k1
 have wn:=way_ne c c0 (by omega)
 have on:=opn_ne k k0 (by omega)
 obtain⟨hS,hE⟩:=h.ends hd
 obtain⟨p0,p1,s0,s1,e1,e2,e3,e4⟩:=hE hf
 have mk:t.sl<slots k→(∀ c' j,0≤c'→c'<s.c→0≤j→j<s.m→mgAt s w.ws c' j≠0→¬ (enP s (mgAt s w.ws c' j)=t.pg∧enS s (mgAt s w.ws c' j)=t.sl))→Res s w.ws c ⟨false,t.pg,t.sl,t.k,0⟩:=fun hl hno=>
  ⟨⟨hm,c0,c1,p0,p1,fun g=>(by cases g),fun _=>⟨s0,by show t.sl<slots t.k;rw[hk];exact hl⟩⟩,fun g=>(by cases g),fun _=>⟨by show 0≤t.k;omega,by show t.k≤3;omega,e2,e3.trans hk.symm,e4,hno⟩⟩
 cases h.ph with
 | tk m e hd'=>rw[hd]at hd';cases hd'
 | ht m e hd'=>rw[hd]at hd';cases hd'
 | sc m e hd'=>rw[hd]at hd';cases hd'
 | pc m e hd'=>rw[hd]at hd';cases hd'
 | no e hd'=>rw[hd]at hd';cases hd'
 | st m e hd'=>rw[hd]at hd';cases hd'
 | b1 m e hd'=>rw[hd]at hd';cases hd'
 | b2 m e hd'=>rw[hd]at hd';cases hd'
 | n _ hf' hw=>rw[hf]at hf';cases hf'
 |f1 i _ hf' i0 i1 ok kk hp hs hw=>
  have un:∀ q,0≤q→q<s.p→Rw.Un s ws0 w.ws q:=fun q q0 q1=>by
   rw[hw];exact⟨pg_mg hm c0 c1 i0 i1 q0 q1,fun j j0 j1=>sl_mg hm c0 c1 i0 i1 q0 q1 j0 j1⟩
  have hne:mgAt s ws0 c i≠0:=fun g=>by rw[g]at ok;cases ok
  refine⟨mk ?_ fun c' j a0 a1 b0 b1 hx=>?_,hS,fun q q0 q1=>?_,fun g=>(by cases g)⟩
  ·have:=en_slot ok
   rw[kk]at this;rw[hs];exact this
  ·rw[hw,mg_mg hm c0 c1 i0 i1 a0 b0 b1]at hx ⊢
   by_cases e:c'=c∧j=i
   ·rw[if_pos e]at hx;exact absurd rfl hx
   ·rw[if_neg e]at hx ⊢
    rw[hp,hs]
    obtain⟨C,rfl⟩:∃ C:Nat,c=C:=⟨c.toNat,by omega⟩
    obtain⟨C',rfl⟩:∃ C:Nat,c'=C:=⟨c'.toNat,by omega⟩
    obtain⟨I,rfl⟩:∃ C:Nat,i=C:=⟨i.toNat,by omega⟩
    obtain⟨J,rfl⟩:∃ C:Nat,j=C:=⟨j.toNat,by omega⟩
    by_cases ha:ahead C' J C I
    ·exact hsn.dj C I C' J c1 i1 b1 ha hne hx
    ·have:=hsn.dj C' J C I a1 b1 i1 (by unfold ahead at *;omega) hx hne
     exact fun ⟨g1,g2⟩=>this ⟨g1.symm,g2.symm⟩
  ·by_cases e:q=t.pg
   ·subst e
    have hu:=un _ p0 p1
    exact .s1 rfl rfl hu (by rw[← hu.2 _ s0 s1];exact e4) (by rw[← hu.1];exact⟨e2,e3.trans hk.symm⟩)
   ·exact .u (un q q0 q1)
 |f2 _ hf' p0' p1' hh hw=>
  obtain⟨g1,g2,g3,g4,g5⟩:=hh
  refine⟨mk g4 fun c' j a0 a1 b0 b1 hx=>?_,hS,fun q q0 q1=>?_,fun g=>(by cases g)⟩
  ·rw[hw,mg_sl hm p0 p1 g3 (by omega) a0 b0]at hx ⊢
   obtain⟨C',rfl⟩:∃ C:Nat,c'=C:=⟨c'.toNat,by omega⟩
   obtain⟨J,rfl⟩:∃ C:Nat,j=C:=⟨j.toNat,by omega⟩
   rintro⟨h1,h2⟩
   have r4:=(hsn.en C' J a1 b1 hx).w
   rw[h1,h2,g5]at r4
   have:=way_not_opn (by omega) (by omega) r4
   rw[on.2.1]at this;cases this
  ·by_cases e:q=t.pg
   ·subst e
    have hpg:pgAt s w.ws t.pg=pgAt s ws0 t.pg:=by rw[hw];exact pg_sl hm p0 p1 g3 (by omega) p0 p1
    refine .s2 rfl rfl hpg (by show slAt s ws0 t.pg t.sl=opn t.k;rw[hk];exact g5) (fun i i0 i1 hne=>?_) ⟨g1,g2.trans hk.symm⟩
    rw[hw,sl_sl hm p0 p1 g3 (by omega) p0 i0 i1,if_neg fun x=>hne x.2]
   ·rw[hw]
    exact .u (Rw.Un.tr ⟨rfl,fun _ _ _=>rfl⟩ (Rw.Sm.sl hm p0 p1 g3 (by omega) q0 q1 e))
 |f3 _ hf' p0' p1' og hl of pg sl so sz=>
  obtain⟨fr,-⟩:=og
  refine⟨mk (by omega) fun c' j a0 a1 b0 b1 hx=>?_,hS,fun q q0 q1=>?_,fun g=>(by cases g)⟩
  ·rw[of.mg hm p0 p1 a0 b0]at hx ⊢
   obtain⟨C',rfl⟩:∃ C:Nat,c'=C:=⟨c'.toNat,by omega⟩
   obtain⟨J,rfl⟩:∃ C:Nat,j=C:=⟨j.toNat,by omega⟩
   exact fun g=>hsn.free_en hm fr a1 b1 hx g.1
  ·by_cases e:q=t.pg
   ·subst e
    refine .s3 rfl rfl fr fun i i0 i1 hne=>?_
    have hne:i≠t.sl:=hne
    have i1:i<slots t.k:=i1
    show slAt s w.ws t.pg i=opn t.k
    rw[hk]at i1 ⊢
    exact so i (by omega) i1
   ·exact .u (of.un hm p0 p1 q0 q1 e)
theorem Al.lost (h:Al s ws0 c k f t w) (hd:t.dn=true) (hf:t.fd=false):w.ws=ws0:=by
 cases h.ph with
 | tk m e hd'=>rw[hd]at hd';cases hd'
 | ht m e hd'=>rw[hd]at hd';cases hd'
 | sc m e hd'=>rw[hd]at hd';cases hd'
 | pc m e hd'=>rw[hd]at hd';cases hd'
 | no e hd'=>rw[hd]at hd';cases hd'
 | st m e hd'=>rw[hd]at hd';cases hd'
 | b1 m e hd'=>rw[hd]at hd';cases hd'
 | b2 m e hd'=>rw[hd]at hd';cases hd'
 | n _ hf' hw=>exact hw
 | f1 i _ hf'=>rw[hf]at hf';cases hf'
 | f2 _ hf'=>rw[hf]at hf';cases hf'
 | f3 _ hf'=>rw[hf]at hf';cases hf'
end
end Sa
namespace Rw
section
variable {s:Sh} {ws0 ws:Nat→Int} {c n:Int} {t:Rn} {w:Wd}
theorem Al.got (h:Al s ws0 c n t w) (hd:t.dn=true) (hf:t.fd=true):Got s ws0 w.ws c ⟨true,t.hd,0,0,t.n⟩:=by
 have hm:=h.ok
 have hb:=(may_iff _ _ _).1 hm
 obtain⟨w1,w2,w3,w4⟩:=h.wf
 obtain⟨hlo,hph⟩:=h.go
 obtain⟨lo,-⟩:=hlo (.inl hf)
 cases hph with
 | look d=>rw[hd]at d;cases d
 | claim d=>rw[hd]at d;cases d
 | strip q d=>rw[hd]at d;cases d
 | clear d=>rw[hd]at d;cases d
 | back d=>rw[hd]at d;cases d
 | body d=>rw[hd]at d;cases d
 | lost d f=>rw[hf]at f;cases f
 |won d f nn hh e u=>
  have nf:¬ (pgK s t.hd (pgAt s ws0 t.hd)=1∨pgK s t.hd (pgAt s ws0 t.hd)=3):=fun g=>by
   rcases hh.1 with g1 |⟨g1,-⟩<;>rw[g1]at g<;>simp at g
  have hrow:∀ q,t.hd≤q→q<t.hd+t.n→Free s ws0 q:=fun q q0 q1=>by
   by_cases g3:q=t.hd
   ·rw[g3];exact hh.1
   ·exact(e q (by omega) (by omega)).1
  refine⟨⟨⟨hm,h.cb.1,h.cb.2,nn.2.2.1,by show t.hd<s.p;omega,fun _=>⟨by show 1≤t.n;omega,by show t.n≤8;omega,by show t.hd+t.n≤s.p;omega⟩,fun g=>(by cases g)⟩,fun _=>⟨hh.2.1,hh.2.2,fun q q0 q1=>?_,fun q q0 q1 hk hA=>?_⟩,fun g=>(by cases g)⟩,h.sound,fun q q0 q1=>?_,fun _ q q0 q1=>hrow q q0 q1⟩
  ·have q1:q<t.hd+t.n:=q1
   exact(e q q0 (by omega)).2.1
  ·have hA:pgA s q (pgAt s w.ws q)=t.hd:=hA
   show q<t.hd+t.n
   rw[w4]
   rcases Int.lt_or_le q (t.hd+n) with g | g
   ·exact g
   ·exfalso
    have hu:=u q g q1
    rw[hu.1]at hk hA
    have hp:=h.snd.pg q.toNat (by omega)
    rw[show((q.toNat:Nat):Int)=q by omega]at hp
    have hbd:=hp.2.bod (by rw[hk];rfl) (by rw[hk];rfl) (by rw[hk];rfl)
    rw[hA]at hbd
    refine nf ?_
    simp only[Bool.or_eq_true,Bool.and_eq_true,beq_iff_eq]at hbd
    rcases hbd with g |⟨g,-⟩
    ·exact .inl g
    ·exact .inr g
  ·by_cases g1:q<t.hd
   ·rcases lo q q0 g1 with g | g
    ·exact .u g
    ·exact .e g
   ·by_cases g2:q<t.hd+n
    ·refine .r rfl (by show t.hd≤q;omega) (by show q<t.hd+t.n;omega) ?_
     by_cases g3:q=t.hd
     ·rw[g3];exact hh.1
     ·exact(e q (by omega) g2).1
    ·exact .u (u q (by omega) q1)
theorem Al.lost (h:Al s ws0 c n t w) (hd:t.dn=true) (hf:t.fd=false):Lost s ws0 w.ws:=by
 obtain⟨hlo,hph⟩:=h.go
 cases hph with
 | look d=>rw[hd]at d;cases d
 | claim d=>rw[hd]at d;cases d
 | strip q d=>rw[hd]at d;cases d
 | clear d=>rw[hd]at d;cases d
 | back d=>rw[hd]at d;cases d
 | body d=>rw[hd]at d;cases d
 | won d f=>rw[hf]at f;cases f
 | lost d f a o=>exact⟨h.sound,a⟩
end
end Rw
namespace Rv
section
variable {s:Sh} {ws0 ws:Nat→Int} {c n f:Int} {v:Rv} {w:Wd}
theorem cls_bd (n:Int):0≤cls n∧cls n≤3:=by
 unfold cls
 repeat' split
 all_goals omega
theorem pages_bd {n:Int} (h:large n=true):1≤pages n∧pages n≤8:=by
 have h':=h
 unfold large within at h
 simp at h
 unfold pages;rw[if_pos h'];omega
inductive Al (s:Sh) (ws0:Nat→Int) (c n f:Int):Rv→Wd→Prop
 | sk {t:Sk} {w:Wd} (h1:small n=true) (h:Sa.Al s ws0 c (cls n) f t w):Al s ws0 c n f (.sk t) w
 | rn {t:Rn} {w:Wd} (h0:small n=false) (h1:large n=true) (h:Rw.Al s ws0 c (pages n) t w):Al s ws0 c n f (.rn t) w
 | no {w:Wd} (h0:fine n=false) (h:w.ws=ws0) (snd:Snd s ws0):Al s ws0 c n f .no w
theorem Al.init (hm:may s.p s.c s.m=true) (ho:w.of s) (c0:0≤c) (c1:c<s.c) (f0:0≤f) (f1:f<s.p) (hs:Snd s w.ws):Al s w.ws c n f (Rv.new s c n f) w:=by
 have hk:=cls_bd n
 unfold Rv.new
 cases e1:small n
 ·simp only[Bool.false_eq_true,if_false]
  cases e2:large n
  ·exact .no (by unfold fine;rw[e1,e2];rfl) rfl hs
  ·have hp:=pages_bd e2
   exact .rn e1 e2 (Rw.Al.init hm ho c0 c1 hp.1 hp.2 hs)
 ·exact .sk e1 (Sa.Al.init hm ho c0 c1 hk.1 hk.2 f0 f1 hs)
theorem Al.step (h:Al s ws0 c n f v w):Al s ws0 c n f (v.step w).1 (v.step w).2:=by
 cases h with
 | sk h1 h=>exact .sk h1 h.step
 | rn h0 h1 h=>exact .rn h0 h1 h.step
 | no h0 h hs=>exact .no h0 h hs
theorem Al.got (h:Al s ws0 c n f v w) (hd:v.dn=true) (hf:v.fd=true):Got s ws0 w.ws c v.bk∧v.bk.len=len n:=by
 cases h with
 | @sk t w h1 h=>
  have hd:t.dn=true:=hd
  have hf:t.fd=true:=hf
  have e:(Rv.sk t).bk=⟨false,t.pg,t.sl,t.k,0⟩:=if_pos hf
  rw[e]
  refine⟨h.got hd hf,?_⟩
  show size t.k=_
  rw[h.kk.1];unfold len;rw[if_pos h1]
 | @rn t w h0 h1 h=>
  have hd:t.dn=true:=hd
  have hf:t.fd=true:=hf
  have e:(Rv.rn t).bk=⟨true,t.hd,0,0,t.n⟩:=if_pos hf
  rw[e]
  refine⟨h.got hd hf,?_⟩
  show t.n*64=_
  rw[h.wf.2.2.2];unfold len;rw[if_neg (by rw[h0];decide)]
 | no h0 h hs=>cases hf
theorem Al.lost (h:Al s ws0 c n f v w) (hd:v.dn=true) (hf:v.fd=false):Lost s ws0 w.ws:=by
 cases h with
 |sk h1 h=>
  have hS:=h.sound
  have e:=h.lost hd hf
  rw[e]at hS ⊢
  exact⟨hS,fun q q0 q1=>.inl ⟨rfl,fun _ _ _=>rfl⟩⟩
 | rn h0 h1 h=>exact h.lost hd hf
 |no h0 h hs=>
  rw[h]
  exact⟨hs,fun q q0 q1=>.inl ⟨rfl,fun _ _ _=>rfl⟩⟩
end
end Rv
end Go.Ma
namespace Go.Ma
open Go.Pl
section
variable {s:Sh} {ws0 ws1 ws:Nat→Int} {c:Int} {b:Bk}
structure Und (s:Sh) (ws1 ws:Nat→Int) (b:Bk):Prop where
 pg:∀ q,0≤q→q<s.p→pgAt s ws q=if b.lg=true∧b.p≤q∧q<b.p+b.n then 0 else pgAt s ws1 q
 sl:∀ q i,0≤q→q<s.p→0≤i→i<16→slAt s ws q i=if b.lg=false∧q=b.p∧i=b.i then opn b.k else slAt s ws1 q i
 mg:∀ c' j,0≤c'→c'<s.c→0≤j→j<s.m→mgAt s ws c' j=mgAt s ws1 c' j
end
namespace Uo
inductive Al (s:Sh) (ws1:Nat→Int) (c:Int) (b:Bk) (t:Uo) (w:Wd):Prop
 | l (hd:t.dn=false) (l:b.lg=true) (i0:0≤t.i) (i1:t.i<b.n) (pg:∀ q,0≤q→q<s.p→pgAt s w.ws q=if b.p<q∧q≤b.p+t.i then 0 else pgAt s ws1 q)
   (sl:∀ q i,0≤q→q<s.p→0≤i→i<16→slAt s w.ws q i=slAt s ws1 q i) (mg:∀ c' j,0≤c'→c'<s.c→0≤j→j<s.m→mgAt s w.ws c' j=mgAt s ws1 c' j)
 | s (hd:t.dn=false) (l:b.lg=false) (hw:w.ws=ws1)
 | e (hd:t.dn=true) (h:Und s ws1 w.ws b)
variable {s:Sh} {ws1:Nat→Int} {c:Int} {b:Bk} {t:Uo} {w:Wd}
end Uo
theorem Cm.one {s:Sh} {c:Int} {b:Bk} {w:Wd} (hr:Res s w.ws c b):(Cm.new s c b).dn=false∧((Cm.new s c b).step w).1 = { Cm.new s c b with dn:=true }∧((Cm.new s c b).step w).2.ws=cmW s w.ws b:=by
 have hd:(Cm.new s c b).dn=false:=by show(!b.fits s c)=false;rw[Bk.of_fits hr.f];rfl
 unfold Cm.step cmW
 rw[if_neg (by rw[hd];decide)]
 cases e:b.lg
 ·rw[if_neg (by show ¬ b.lg=true;rw[e];decide)]
  exact⟨hd,rfl,rfl⟩
 ·rw[if_pos (by show b.lg=true;exact e)]
  exact⟨hd,rfl,rfl⟩
namespace Re
section
variable {s:Sh} {ws0:Nat→Int} {c a n f:Int} {t:Re} {w:Wd}
structure Gone (s:Sh) (ws0:Nat→Int) (c a n:Int) (b:Bk) (ws1 ws:Nat→Int):Prop where
 got:Got s ws0 ws1 c b
 len:b.len=len n
 snd:Snd s ws
 out:Out (blks s ws1 s.p.toNat) (blks s ws s.p.toNat) a
 fd:Fd s ws1 ws
inductive Ph (s:Sh) (ws0:Nat→Int) (c a n f:Int) (t:Re) (w:Wd):Prop
 | rv (hm:t.md=.no) (hd:t.dn=false) (rd:t.rv.dn=false) (h:t.rv.Al s ws0 c n f w) (g:t.gv=Gv.new s c a)
 | gv (hm:t.md=.no) (hd:t.dn=false) (rd:t.rv.dn=true) (rf:t.rv.fd=true) (gd:t.gv.dn=false) (ws1:Nat→Int) (h:Got s ws0 ws1 c t.rv.bk) (hl:t.rv.bk.len=Pl.len n) (hg:t.gv.Al s ws1 c a w)
 | cm (hm:t.md=.cm (Cm.new s c t.rv.bk)) (hd:t.dn=false) (rd:t.rv.dn=true) (rf:t.rv.fd=true) (gd:t.gv.dn=true) (gg:t.gv.gv=true) (ws1:Nat→Int) (h:Gone s ws0 c a n t.rv.bk ws1 w.ws)
 | uo (u:Uo) (hm:t.md=.uo u) (hd:t.dn=false) (ud:u.dn=false) (rd:t.rv.dn=true) (rf:t.rv.fd=true) (gd:t.gv.dn=true) (gg:t.gv.gv=false) (ws1:Nat→Int) (h:Got s ws0 ws1 c t.rv.bk) (us:u.s=s∧u.b=t.rv.bk) (hu:u.Al s ws1 c t.rv.bk w) (no:∀ z∈blks s ws0 s.p.toNat,z.1≠a)
 | won (hd:t.dn=true) (he:t.er=0) (rf:t.rv.fd=true) (gg:t.gv.gv=true) (ws1 ws2:Nat→Int) (h:Gone s ws0 c a n t.rv.bk ws1 ws2) (hw:w.ws=cmW s ws2 t.rv.bk)
 | lost (hd:t.dn=true) (he:t.er=3) (gg:t.gv.gv=false) (h:Lost s ws0 w.ws) (rf:t.rv.fd=false) (hr:t.rv.Al s ws0 c n f w) (rd:t.rv.dn=true)
 | none (hd:t.dn=true) (he:t.er=1) (gg:t.gv.gv=false) (ws1:Nat→Int) (h:Got s ws0 ws1 c t.rv.bk) (hu:Und s ws1 w.ws t.rv.bk) (no:∀ z∈blks s ws0 s.p.toNat,z.1≠a)
structure Al (s:Sh) (ws0:Nat→Int) (c a n f:Int) (t:Re) (w:Wd):Prop where
 ok:may s.p s.c s.m=true
 of:w.of s
 wf:t.wf
 es:t.s=s∧t.c=c∧t.on=true
 cb:0≤c∧c<s.c
 gn:(Gv.new s c a).dn=false
 ph:Ph s ws0 c a n f t w
end
end Re
end Go.Ma
namespace Go.Ma
open Go.Pl
namespace Re
section
variable {s:Sh} {ws0 ws1 ws:Nat→Int} {c a n f q:Int} {b:Bk} {t:Re} {w:Wd}
def Qp (s:Sh) (ws:Nat→Int) (q:Int):Prop:=pgK s q (pgAt s ws q)=0∨(pgK s q (pgAt s ws q)=2∧∀ i,0≤i→i<slots (pgA s q (pgAt s ws q))→slK (slAt s ws q i)=1∨slK (slAt s ws q i)=3)∨pgK s q (pgAt s ws q)=3 ∨
 (pgK s q (pgAt s ws q)=4∧0≤pgA s q (pgAt s ws q)∧pgA s q (pgAt s ws q)<s.p∧pgK s (pgA s q (pgAt s ws q)) (pgAt s ws (pgA s q (pgAt s ws q)))=3)
def Qb (s:Sh) (ws:Nat→Int) (b:Bk) (q:Int):Prop:=Qp s ws q∨(b.lg=true∧b.p≤q∧q<b.p+b.n)∨(b.lg=false∧q=b.p∧∀ i,0≤i→i<slots b.k→i≠b.i→slK (slAt s ws q i)=1∨slK (slAt s ws q i)=3)
theorem Got.qb (hm:may s.p s.c s.m=true) (h:Got s ws0 ws c b) (hq:∀ q,0≤q→q<s.p→Qp s ws0 q):∀ q,0≤q→q<s.p→Qb s ws b q:=fun q q0 q1=>by
 have hb:=(may_iff _ _ _).1 hm
 have F:=h.res.f
 have wn:=way_ne c F.c0 (by have:=F.c1;omega)
 have un:Rw.Un s ws0 ws q→Qp s ws q:=fun g=>by
  have g1:=g.1
  rcases hq q q0 q1 with e |⟨e,e2⟩| e |⟨e,a0,a1,e2⟩
  ·exact .inl (by rw[g1];exact e)
  ·refine .inr (.inl ⟨by rw[g1];exact e,fun i i0 i1=>?_⟩)
   rw[g1]at i1
   have hs:=slots_bd (pgA s q (pgAt s ws0 q))
   rw[g.2 i i0 (by omega)];exact e2 i i0 i1
  ·exact .inr (.inr (.inl (by rw[g1];exact e)))
  ·refine .inr (.inr (.inr ?_))
   rw[g1]
   refine⟨e,a0,a1,?_⟩
   have nf:¬ Rw.Free s ws0 (pgA s q (pgAt s ws0 q)):=Rw.not_free e2 (by decide) (by decide)
   cases h.pg _ a0 a1 with
   | u g=>rw[g.1];exact e2
   | e g=>exact absurd g.1 nf
   | r _ _ _ g=>exact absurd g nf
   | s1 _ _ g=>rw[g.1];exact e2
   | s2 _ _ _ _ _ g=>rw[g.1]at e2;cases e2
   | s3 _ _ g=>exact absurd g nf
 cases h.pg q q0 q1 with
 | u g=>exact .inl (un g)
 | e g=>exact .inl (.inl (by rw[g.2.1];exact pgK_zero ..))
 | r l h0 h1 _=>exact .inr (.inl ⟨l,h0,h1⟩)
 | s1 l e g=>exact .inl (un g)
 |s2 l e g w o k=>
  refine .inr (.inr ⟨l,e,fun i i0 i1 hne=>?_⟩)
  have hs:=slots_bd b.k
  rw[o i i0 (by omega) hne]
  rcases hq q q0 q1 with e |⟨e,e2⟩| e |⟨e,-⟩
  ·rw[k.1]at e;cases e
  ·exact e2 i i0 (by rw[k.2];exact i1)
  ·rw[k.1]at e;cases e
  ·rw[k.1]at e;cases e
 |s3 l e f o=>
  refine .inr (.inr ⟨l,e,fun i i0 i1 hne=>?_⟩)
  obtain⟨k0,k1,-⟩:=h.res.s l
  rw[o i i0 i1 hne]
  exact .inl (opn_ne b.k k0 (by omega)).2.1
theorem Fd.qb (hm:may s.p s.c s.m=true) (h0:s.m=0) (hs1:Snd s ws1) (hs:Snd s ws) (hf:Fd s ws1 ws) (hq:∀ q,0≤q→q<s.p→Qb s ws1 b q):∀ q,0≤q→q<s.p→Qb s ws b q:=fun q q0 q1=>by
 have hb:=(may_iff _ _ _).1 hm
 have hsl:∀ i,0≤i→i<16→(slK (slAt s ws1 q i)=1∨slK (slAt s ws1 q i)=3)→slK (slAt s ws q i)=1∨slK (slAt s ws q i)=3:=fun i i0 i1 g=>by
  rcases hf.sl q i q0 q1 i0 i1 with e |⟨-,e | e⟩
  ·rw[e];exact g
  ·exact .inl e
  ·omega
 rcases hq q q0 q1 with g | g |⟨g,g1,g2⟩
 ·rcases hf.pg q q0 q1 with e |⟨e,-⟩
  ·rcases g with r |⟨r,r2⟩| r |⟨r,a0,a1,r2⟩
   ·exact .inl (.inl (by rw[e];exact r))
   ·refine .inl (.inr (.inl ⟨by rw[e];exact r,fun i i0 i1=>?_⟩))
    rw[e]at i1
    have:=slots_bd (pgA s q (pgAt s ws1 q))
    exact hsl i i0 (by omega) (r2 i i0 i1)
   ·exact .inl (.inr (.inr (.inl (by rw[e];exact r))))
   ·refine .inl (.inr (.inr (.inr ?_)))
    have hp:=hs.pg q.toNat (by omega)
    rw[show((q.toNat:Nat):Int)=q by omega,e]at hp
    have hbd:=hp.2.bod (by rw[r];rfl) (by rw[r];rfl) (by rw[r];rfl)
    rw[e]
    refine⟨r,a0,a1,?_⟩
    rcases hf.pg _ a0 a1 with e2 |⟨e2,-⟩
    ·rw[e2];exact r2
    ·rw[e2,pgK_zero]at hbd;simp at hbd
  ·exact .inl (.inl (by rw[e];exact pgK_zero ..))
 ·exact .inr (.inl g)
 ·refine .inr (.inr ⟨g,g1,fun i i0 i1 hne=>?_⟩)
  have:=slots_bd b.k
  exact hsl i i0 (by omega) (g2 i i0 i1 hne)
theorem Res.qp (hm:may s.p s.c s.m=true) (h:Res s ws c b) (hq:∀ q,0≤q→q<s.p→Qb s ws b q):∀ q,0≤q→q<s.p→Qp s (cmW s ws b) q:=fun q q0 q1=>by
 have hb:=(may_iff _ _ _).1 hm
 have F:=h.f
 have p0:=F.p0
 have p1:=F.p1
 unfold cmW
 cases l:b.lg
 ·simp only[Bool.false_eq_true,if_false]
  obtain⟨k0,k1,r1,r2,r3,r4⟩:=h.s l
  have hsl:=F.s l
  have hs4:=slots_four k0 k1
  have tn:=taken_ne b.k k0 (by omega)
  have i1:b.i<16:=by omega
  have hp:∀ q,0≤q→q<s.p→pgAt s (upW ws (slot s.p s.c s.m b.p b.i) (putSl 3 b.k)) q=pgAt s ws q:=fun q q0 q1=>pg_sl hm p0 p1 hsl.1 i1 q0 q1
  have hx:∀ i,0≤i→i<16→(¬ (q=b.p∧i=b.i)→slK (slAt s ws q i)=1∨slK (slAt s ws q i)=3)→slK (slAt s (upW ws (slot s.p s.c s.m b.p b.i) (putSl 3 b.k)) q i)=1∨slK (slAt s (upW ws (slot s.p s.c s.m b.p b.i) (putSl 3 b.k)) q i)=3:=fun i i0 i2 g=>by
   rw[sl_sl hm p0 p1 hsl.1 i1 q0 i0 i2]
   split
   ·exact .inr tn.2.1
   ·rename_i hne;exact g hne
  rcases hq q q0 q1 with g |⟨g,-⟩|⟨-,g1,g2⟩
  ·rcases g with r |⟨r,r2⟩| r |⟨r,a0,a1,r2⟩
   ·exact .inl (by rw[hp q q0 q1];exact r)
   ·refine .inr (.inl ⟨by rw[hp q q0 q1];exact r,fun i i0 i2=>?_⟩)
    rw[hp q q0 q1]at i2
    have:=slots_bd (pgA s q (pgAt s ws q))
    exact hx i i0 (by omega) fun _=>r2 i i0 i2
   ·exact .inr (.inr (.inl (by rw[hp q q0 q1];exact r)))
   ·refine .inr (.inr (.inr ?_))
    rw[hp q q0 q1]
    exact⟨r,a0,a1,by rw[hp _ a0 a1];exact r2⟩
  ·rw[l]at g;cases g
  ·refine .inr (.inl ⟨by rw[hp q q0 q1,g1];exact r1,fun i i0 i2=>?_⟩)
   rw[hp q q0 q1,g1,r2]at i2
   exact hx i i0 (by omega) fun hne=>g2 i i0 i2 fun e=>hne ⟨g1,e⟩
 ·simp only[if_true]
  obtain⟨h1,h2,h3,h4⟩:=h.l l
  have hl:=F.l l
  have ho:=held_ok hm p0 p1 F.c0 F.c1
  have lo:=large_ok (s:=s) (q:=b.p) (n:=b.n) hm p0 hl.1 hl.2.1 hl.2.2
  have hp:∀ q,0≤q→q<s.p→pgAt s (upW ws (page s.p s.c s.m b.p) (putPg 3 b.n 0)) q=if q=b.p then putPg 3 b.n 0 else pgAt s ws q:=fun q q0 q1=>pg_pg hm p0 p1 q0 q1
  have hin:b.p≤q→q<b.p+b.n→Qp s (upW ws (page s.p s.c s.m b.p) (putPg 3 b.n 0)) q:=fun g0 g1=>by
   by_cases e:q=b.p
   ·exact .inr (.inr (.inl (by rw[hp q q0 q1,if_pos e,e];exact lo.2.1)))
   ·have hbo:=body_ok (s:=s) (q:=q) hm p0 (by omega) (by omega) (by omega)
    refine .inr (.inr (.inr ?_))
    rw[hp q q0 q1,if_neg e,h3 q (by omega) g1,hbo.2.1,hbo.2.2]
    exact⟨rfl,p0,p1,by rw[hp _ p0 p1,if_pos rfl];exact lo.2.1⟩
  by_cases e:b.p≤q∧q<b.p+b.n
  ·exact hin e.1 e.2
  ·rcases hq q q0 q1 with g |⟨-,g⟩|⟨g,-⟩
   ·have hpq:pgAt s (upW ws (page s.p s.c s.m b.p) (putPg 3 b.n 0)) q=pgAt s ws q:=by rw[hp q q0 q1,if_neg (by omega)]
    rcases g with r |⟨r,r2⟩| r |⟨r,a0,a1,r2⟩
    ·exact .inl (by rw[hpq];exact r)
    ·refine .inr (.inl ⟨by rw[hpq];exact r,fun i i0 i2=>?_⟩)
     rw[hpq]at i2
     rw[sl_pg hm p0 p1 q0 i0];exact r2 i i0 i2
    ·exact .inr (.inr (.inl (by rw[hpq];exact r)))
    ·refine .inr (.inr (.inr ?_))
     rw[hpq]
     refine⟨r,a0,a1,?_⟩
     rw[hp _ a0 a1,if_neg fun e=>by rw[e,h1,ho.2.1]at r2;cases r2];exact r2
   ·exact absurd g e
   ·rw[l]at g;cases g
structure Self (s:Sh) (ws:Nat→Int) (a m:Int):Prop where
 snd:Snd s ws
 bl:blks s ws s.p.toNat = [(a,m)]
 m4:m≤256
 q:∀ q,0≤q→q<s.p→Qp s ws q
end
end Re
end Go.Ma
namespace Go.Ma
open Go.Pl
def Wn (s:Sh) (ws ws':Nat→Int):Prop:=∀ j:Nat,ws' j=ws j∨(s.c≤(j:Int)∧ws' j % 16≠3)
section
variable {s:Sh} {w:Wd}
end
end Go.Ma
namespace Go.Ma
open Go.Pl
namespace Cn
structure Le (n n':Cn):Prop where
 ta:n'.ta=n.ta
 fr:n.fr≤n'.fr
 hl:n'.li+n'.lo≤n.li+n.lo
section
variable {liv:Int→Bool} {s:Sh} {ws ws':Nat→Int} {q A:Int} {n n':Cn}
theorem slots_open:∀ i:Nat,(∀ j:Nat,j<i→slK (slAt s ws q j)=1)→Cn.slots liv s ws q A n i = { n with fr:=n.fr+i*size A }
 | 0,_=>by
  show n = { n with fr:=n.fr+((0:Nat):Int)*size A }
  rw[show n.fr+((0:Nat):Int)*size A=n.fr by simp]
 |i+1,hy=>by
  show Cn.slot liv A (slAt s ws q i) (Cn.slots liv s ws q A n i)=_
  rw[slots_open i fun j hj=>hy j (by omega)]
  unfold Cn.slot
  rw[if_pos (hy i (by omega))]
  have e:((i:Int)+1)*size A=i*size A+size A:=by rw[Int.add_mul];omega
  show({ n with fr:=n.fr+i*size A+size A }:Cn) = { n with fr:=n.fr+((i+1:Nat):Int)*size A }
  rw[show((i+1:Nat):Int)=(i:Int)+1 by omega,e,Int.add_assoc]
theorem page_free (ho:okPg s q (pgAt s ws q)=true) (hf:Rw.Free s ws q):Cn.page liv s ws q n = { n with fr:=n.fr+64 }:=by
 rcases hf with h |⟨h,h2⟩
 ·unfold Cn.page;rw[if_pos ⟨ho,h⟩]
 ·have hA:=Gv.ok_super ho h
  have hs:=slots_four hA.1 hA.2.1
  have hat:Cn.at' s ws q=q:=by unfold Cn.at';rw[if_neg (by rw[h];decide)]
  have hh:Cn.held s ws q=false:=by unfold Cn.held;rw[hat,h];rfl
  unfold Cn.page
  rw[if_neg (by rw[h];simp),if_neg (by rw[hh];simp),if_neg (by rw[hh,ho];simp),if_pos h,slots_open _ fun j hj=>h2 j (by omega) (by omega)]
  rw[show(((Pl.slots (pgA s q (pgAt s ws q))).toNat:Nat):Int)=Pl.slots (pgA s q (pgAt s ws q)) by omega,hs.2.2.1]
end
end Cn
section
variable {liv:Int→Bool} {s:Sh} {ws0 ws1 ws:Nat→Int} {c:Int} {b:Bk}
end
namespace Rv
section
variable {s:Sh} {ws0:Nat→Int} {c n f:Int} {v:Rv} {w:Wd}
def Stx (s:Sh) (ws0 ws:Nat→Int):Prop:=∀ j:Nat,(j:Int)<s.c→ws j=ws0 j
end
end Rv
end Go.Ma
namespace Go.Ma
namespace Uo
def lf (u:Uo):Int:=if u.dn then 0 else if u.b.lg then u.b.n - u.i else 1
variable {u:Uo} {w:Wd}
end Uo
end Go.Ma
