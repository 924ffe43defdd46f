/-
Pages of a sound heap that one claims: what each of them says; the heap is sound still, its blocks are the same. Conditions: none.
Who seeks a slot from wherever, plain: its steps, what stays, how long it goes on. Conditions: none.
Who seeks a slot from wherever, plain: what fits stays so, and it ends. Conditions: none.
Who seeks a slot, alone in a sound heap: how far it is; each step keeps that. Conditions: none.
Who seeks a slot, alone in a sound heap: it is sound behind that; what is found is its own. Conditions: none.
One that looks for a row of pages and one that looks for a slot, at the same time, in an empty heap: whose a page is. Conditions: none.
-/
import Derived.Test.YtbcdaglbdnkocaaGreatMaSk
import Derived.Test.YtbcdaglbdnkocaaGreatMaBase
import Derived.Test.YtbcdaglbdnkocaaGreatMaMI
import Derived.Test.YtbcdaglbdnkocaaGreatMaGive
import Derived.Test.YtbcdaglbdnkocaaGreatMaRun
set_option linter.unusedVariables false
set_option linter.unusedSectionVars false
set_option linter.unusedSimpArgs false
namespace Go.Ma
open Go.Pl
theorem is_opn {x:Int} (hk:slK x=1):x=opn (slA x):=by
 have ho:okSl x=true:=by
  cases e:okSl x
  ·unfold slK at hk;rw[e]at hk;cases hk
  ·rfl
 have h1:x % 16=1:=by unfold slK at hk;rw[if_pos ho]at hk;exact hk
 unfold slA opn
 rw[if_pos ho]
 unfold okSl at ho
 rw[h1]at ho
 exact(of_decide_eq_true ho).symm
theorem is_empty {s:Sh} {q x:Int} (ho:okPg s q x=true) (hk:pgK s q x=0):x=0:=by
 have h1:x % 16=0:=by unfold pgK at hk;rw[if_pos ho]at hk;exact hk
 unfold okPg at ho
 rw[h1]at ho
 simp only[Bool.and_eq_true,decide_eq_true_eq]at ho
 have h2:=ho.1
 unfold putPg at h2
 split at h2
 ·rename_i h3
  have h4:=h3.2.2.2.2.2.2.1 rfl
  have h5:=h3.2.2.2.2.2.2.2 (by decide)
  omega
 ·exact h2.symm
theorem body_ok {s:Sh} {q h:Int} (hm:may s.p s.c s.m=true) (h0:0≤h) (h1:h<q) (h2:q<h+8) (h3:q<s.p):okPg s q (putPg 4 h 0)=true∧pgK s q (putPg 4 h 0)=4∧pgA s q (putPg 4 h 0)=h:=by
 have hb:=(may_iff _ _ _).1 hm
 have hv:putPg 4 h 0=4+16*h:=by unfold putPg;rw[if_pos (by omega)];omega
 have e1:(4+16*h) % 16=4:=by omega
 have e2:pt (4+16*h) 16=h:=by unfold pt;omega
 have e3:pt (4+16*h) 4096=0:=by unfold pt;omega
 have hp:0≤page s.p s.c s.m q:=by rw[page_yes hm (by omega) h3];omega
 have ok:okPg s q (putPg 4 h 0)=true:=by
  rw[hv]
  unfold okPg
  rw[e1,e2,e3]
  have g1:decide (putPg 4 h 0=4+16*h)=true:=decide_eq_true hv
  have g3:fits s q 4 h 0=true:=by unfold fits;simp;omega
  rw[g1,g3,decide_eq_true hp];rfl
 refine⟨ok,?_,?_⟩
 ·unfold pgK;rw[if_pos ok,hv,e1]
 ·unfold pgA;rw[if_pos ok,hv,e2]
theorem en_slot {s:Sh} {y:Int} (e1:okEn s y=true):enS s y<slots (enK s y):=by
 unfold enS enK
 rw[if_pos e1,if_pos e1]
 unfold okEn at e1
 simp only[Bool.and_eq_true,decide_eq_true_eq]at e1
 exact e1.2.2
namespace Rw
section
variable (s:Sh) (ws0:Nat→Int) (c:Int) (ws:Nat→Int) (q:Int)
def Free:Prop:=pgK s q (pgAt s ws0 q)=0∨(pgK s q (pgAt s ws0 q)=2∧∀ i,0≤i→i<slots (pgA s q (pgAt s ws0 q))→slK (slAt s ws0 q i)=1)
def Zs:Prop:=∀ i,0≤i→i<16→slAt s ws q i=0
def Un:Prop:=pgAt s ws q=pgAt s ws0 q∧∀ i,0≤i→i<16→slAt s ws q i=slAt s ws0 q i
def Em:Prop:=Free s ws0 q∧pgAt s ws q=0∧Zs s ws q
def Hl:Prop:=Free s ws0 q∧pgAt s ws q=held c∧Zs s ws q
def Bo (h:Int):Prop:=Free s ws0 q∧pgAt s ws q=putPg 4 h 0∧Zs s ws q
def Tr (j:Int):Prop:=pgAt s ws q=pgAt s ws0 q∧pgK s q (pgAt s ws0 q)=2∧0≤j∧j≤slots (pgA s q (pgAt s ws0 q))∧(∀ i,0≤i→i<j→slAt s ws q i=way c∧slAt s ws0 q i=opn (pgA s q (pgAt s ws0 q)))∧∀ i,j≤i→i<16→slAt s ws q i=slAt s ws0 q i
def Cl (i:Int):Prop:=Free s ws0 q∧pgAt s ws q=held c∧∀ j,0≤j→j<i→slAt s ws q j=0
def Sm (ws':Nat→Int):Prop:=pgAt s ws' q=pgAt s ws q∧∀ i,0≤i→i<16→slAt s ws' q i=slAt s ws q i
inductive Pq (h:Int):Prop
 | u (e:Un s ws0 ws q)
 | e (e:Em s ws0 ws q)
 | h (f:Free s ws0 q) (e:pgAt s ws q=held c)
 | b (e:Bo s ws0 ws q h) (h0:0≤h) (h1:h<q) (h2:q<h+8) (hh:pgAt s ws h=held c)
 | t (j:Int) (e:Tr s ws0 c ws q j)
end
section
variable {s:Sh} {ws0 ws ws':Nat→Int} {c q h:Int}
theorem Un.tr (e:Un s ws0 ws q) (hs:Sm s ws q ws'):Un s ws0 ws' q:=⟨hs.1.trans e.1,fun i i0 i1=>(hs.2 i i0 i1).trans (e.2 i i0 i1)⟩
theorem Zs.tr (e:Zs s ws q) (hs:Sm s ws q ws'):Zs s ws' q:=fun i i0 i1=>(hs.2 i i0 i1).trans (e i i0 i1)
theorem Em.tr (e:Em s ws0 ws q) (hs:Sm s ws q ws'):Em s ws0 ws' q:=⟨e.1,hs.1.trans e.2.1,e.2.2.tr hs⟩
theorem Hl.tr (e:Hl s ws0 c ws q) (hs:Sm s ws q ws'):Hl s ws0 c ws' q:=⟨e.1,hs.1.trans e.2.1,e.2.2.tr hs⟩
theorem Bo.tr (e:Bo s ws0 ws q h) (hs:Sm s ws q ws'):Bo s ws0 ws' q h:=⟨e.1,hs.1.trans e.2.1,e.2.2.tr hs⟩
theorem Sm.pg (hm:may s.p s.c s.m=true) {q0 y:Int} (a0:0≤q0) (a1:q0<s.p) (h0:0≤q) (h1:q<s.p) (hne:q≠q0):Sm s ws q (upW ws (page s.p s.c s.m q0) y):=
 ⟨by rw[pg_pg hm a0 a1 h0 h1,if_neg hne],fun i i0 i1=>sl_pg hm a0 a1 h0 i0⟩
theorem Sm.sl (hm:may s.p s.c s.m=true) {q0 i0 y:Int} (a0:0≤q0) (a1:q0<s.p) (b0:0≤i0) (b1:i0<16) (h0:0≤q) (h1:q<s.p) (hne:q≠q0):Sm s ws q (upW ws (slot s.p s.c s.m q0 i0) y):=
 ⟨pg_sl hm a0 a1 b0 b1 h0 h1,fun i j0 j1=>by rw[sl_sl hm a0 a1 b0 b1 h0 j0 j1,if_neg fun e=>hne e.1]⟩
theorem Pq.keep (h1:Pq s ws0 c ws q h) (hf:¬ Free s ws0 q):pgAt s ws q=pgAt s ws0 q:=by
 cases h1 with
 | u e=>exact e.1
 | e e=>exact absurd e.1 hf
 | h f e=>exact absurd f hf
 | b e=>exact absurd e.1 hf
 | t j e=>exact e.1
theorem not_free {k:Int} (hk:pgK s q (pgAt s ws0 q)=k) (h0:k≠0) (h2:k≠2):¬ Free s ws0 q:=fun hf=>by
 rcases hf with e |⟨e,-⟩<;>rw[hk]at e
 ·exact h0 e
 ·exact h2 e
theorem Pq.snd (hm:may s.p s.c s.m=true) (hsn:Snd s ws0) (c0:0≤c) (c1:c<s.c) (hall:∀ q,0≤q→q<s.p→Pq s ws0 c ws q h)
  (mg:∀ c' j,0≤c'→c'<s.c→0≤j→j<s.m→mgAt s ws c' j=mgAt s ws0 c' j):Snd s ws:=by
 have hb:=(may_iff _ _ _).1 hm
 have wn:=way_ne c c0 (by omega)
 refine⟨fun q q1=>?_,fun c' j h1 h2 hx=>?_,fun c' j c'' j' h1 h2 h3 ha hx hy=>?_⟩
 ·obtain⟨e1,e2⟩:=hsn.pg q q1
  cases hall q (by omega) q1 with
  |u e=>
   rw[e.1]
   refine⟨e1,⟨fun k j hj=>?_,fun k k' j hj=>?_,fun k k' k4=>?_,fun k k' k4 k3 j j1 j2=>?_⟩⟩
   ·rw[e.2 j (by omega) (by omega)];exact e2.sup k j hj
   ·rw[e.2 j (by omega) (by omega)];exact e2.emp k k' j hj
   ·have hbo:=Ad.ok_body e1 (beq_iff_eq.1 k4)
    have hbd:=e2.bod k k' k4
    obtain⟨A',hA'⟩:∃ A',pgA s q (pgAt s ws0 q)=A':=⟨_,rfl⟩
    rw[hA']at hbo hbd ⊢
    have hnf:¬ Free s ws0 A':=by
     obtain⟨k',hk'⟩:∃ k',pgK s A' (pgAt s ws0 A')=k':=⟨_,rfl⟩
     rw[hk']at hbd
     refine not_free hk' (fun e=>?_) (fun e=>?_)<;>rw[e]at hbd<;>simp at hbd
    rw[(hall A' hbo.1 (by omega)).keep hnf];exact hbd
   ·have hl:=large_bd e1 (beq_iff_eq.1 k3)
    have he:=e2.lar k k' k4 k3 j j1 j2
    rw[(hall (q+j) (by omega) (by omega)).keep (not_free he.1 (by decide) (by decide))];exact he
  |e e=>
   rw[e.2.1,pgK_zero]
   exact⟨okPg_zero hm (by omega) q1,SpB.oth rfl (fun j hj=>e.2.2 j (by omega) (by omega)) rfl rfl⟩
  |h f e=>
   rw[e]
   have ho:=held_ok hm (by omega:(0:Int)≤q) q1 c0 c1
   exact⟨ho.1,SpB.one (by rw[ho.2.1];rfl) (by rw[ho.2.1];rfl)⟩
  |b e g0 g1 g2 hh=>
   rw[e.2.1]
   have ho:=body_ok hm g0 g1 g2 q1
   refine⟨ho.1,SpB.four (by rw[ho.2.1];rfl) (fun j hj=>e.2.2 j (by omega) (by omega)) (by rw[ho.2.1];rfl) ?_⟩
   rw[ho.2.2,hh,(held_ok hm g0 (by omega) c0 c1).2.1];rfl
  |t j e=>
   obtain⟨t1,t2,t3,t4,t5,t6⟩:=e
   rw[t1]
   refine⟨e1,SpB.two (by rw[t2];rfl) fun i hi=>?_⟩
   by_cases hij:(i:Int)<j
   ·rw[(t5 i (by omega) hij).1]
    unfold slB
    rw[decide_eq_true (by omega:(i:Int)<slots (pgA s q (pgAt s ws0 q))),wn.2.1,wn.2.2];simp;exact c1
   ·rw[t6 i (by omega) (by omega)];exact e2.sup (by rw[t2];rfl) i hi
 ·rw[mg c' j (by omega) h1 (by omega) h2]at hx ⊢
  obtain⟨e1,e2,e3,e4⟩:=hsn.en c' j h1 h2 hx
  have hE:=en_bd e1
  have hS:=en_slot e1
  have hwk:slK (slAt s ws0 (enP s (mgAt s ws0 c' j)) (enS s (mgAt s ws0 c' j)))=2:=by rw[e4];exact(way_ne c' (by omega) (by omega)).2.1
  have hnf:¬ Free s ws0 (enP s (mgAt s ws0 c' j)):=fun hf=>by
   rcases hf with e |⟨-,e⟩
   ·rw[e]at e2;cases e2
   ·have:=e _ hE.2.2.1 (by rw[e3];exact hS)
    rw[hwk]at this;cases this
  have hk:=(hall _ hE.1 hE.2.1).keep hnf
  refine⟨e1,by rw[hk];exact e2,by rw[hk];exact e3,?_⟩
  cases hall _ hE.1 hE.2.1 with
  | u e=>rw[e.2 _ hE.2.2.1 hE.2.2.2];exact e4
  | e e=>exact absurd e.1 hnf
  | h f e=>exact absurd f hnf
  | b e=>exact absurd e.1 hnf
  |t j' e=>
   obtain⟨t1,t2,t3,t4,t5,t6⟩:=e
   by_cases hij:enS s (mgAt s ws0 c' j)<j'
   ·exfalso
    have h5:=(t5 _ hE.2.2.1 hij).2
    have hA:=Gv.ok_super (pgK_ne (s:=s) (x:=pgAt s ws0 (enP s (mgAt s ws0 c' j))) (by rw[t2];decide)) t2
    rw[h5,(opn_ne _ hA.1 (by omega)).2.1]at hwk;cases hwk
   ·rw[t6 _ (by omega) hE.2.2.2];exact e4
 ·have hc':(c'':Int)<s.c:=by unfold ahead at ha;omega
  rw[mg c' j (by omega) h1 (by omega) h2]at hx ⊢
  rw[mg c'' j' (by omega) hc' (by omega) h3]at hy ⊢
  exact hsn.dj c' j c'' j' h1 h2 h3 ha hx hy
theorem Free.none {p:Nat} (hf:Free s ws0 p):blkPg s ws0 p = []:=by
 rcases hf with e |⟨e,e2⟩
 ·exact blkPg_none (by rw[e];decide) (by rw[e];decide)
 ·have hA:=Gv.ok_super (pgK_ne (s:=s) (x:=pgAt s ws0 p) (by rw[e];decide)) e
  have hs:=slots_four hA.1 hA.2.1
  unfold blkPg
  rw[if_neg (by rw[e];decide),if_pos e]
  refine List.eq_nil_iff_forall_not_mem.2 fun y hy=>?_
  obtain⟨i,h1,h2,-⟩:=blkSl_mem.1 hy
  rw[e2 i (by omega) (by omega)]at h2;cases h2
end
end Rw
end Go.Ma
namespace Go.Ma
open Go.Pl
namespace Sa
section
variable (s:Sh) (ws0:Nat→Int) (c k f:Int)
def Noe (i:Int):Prop:=∀ j,0≤j→j<i→¬ (okEn s (mgAt s ws0 c j)=true∧enK s (mgAt s ws0 c j)=k)
def Has (p i:Int):Prop:=pgK s p (pgAt s ws0 p)=2∧pgA s p (pgAt s ws0 p)=k∧0≤i∧i<slots k∧slAt s ws0 p i=opn k
def Nos (j:Int):Prop:=∀ q,0≤q→q<j→∀ i,¬ Has s ws0 k ((f+q) % s.p) i
def Nop (j:Int):Prop:=∀ q,0≤q→q<j→pgAt s ws0 ((f+q) % s.p)≠0
def Nof (j:Int):Prop:=∀ q,0≤q→q<j→¬ Rw.Free s ws0 ((f+q) % s.p)
def Off (ws:Nat→Int) (p:Int):Prop:=∀ j:Nat,(j:Int)≠s.c+p→¬ (s.c+s.p+p*16≤(j:Int)∧(j:Int)<s.c+s.p+p*16+16)→ws j=ws0 j
def Org (p:Int):Prop:=Rw.Free s ws0 p∧Noe s ws0 c k s.m∧Nos s ws0 k f s.p∧∃ j,0≤j∧j<s.p∧p=(f+j) % s.p∧(pgAt s ws0 p=0∨Nof s ws0 f j)
inductive Ph (t:Sk) (ws:Nat→Int):Prop
 | tk (m:Tk) (e:t.nw=.tk m) (hd:t.dn=false) (hh:m.hit=false) (hw:ws=ws0) (no:Noe s ws0 c k m.i)
 | ht (m:Tk) (e:t.nw=.tk m) (hd:t.dn=false) (hh:m.hit=true) (hw:ws=ws0) (ok:okEn s (mgAt s ws0 c m.i)=true) (kk:enK s (mgAt s ws0 c m.i)=k) (hp:m.ep=enP s (mgAt s ws0 c m.i)) (hs:m.es=enS s (mgAt s ws0 c m.i))
 | sc (m:Sc) (e:t.nw=.sc m) (hd:t.dn=false) (hw:ws=ws0) (no:Noe s ws0 c k s.m) (ns:Nos s ws0 k f m.many) (n0:m.nx=0→m.i=0)
   (np:m.nx≠0→pgK s m.pg (pgAt s ws0 m.pg)=2∧pgA s m.pg (pgAt s ws0 m.pg)=k∧∀ i,0≤i→i<m.i→slAt s ws0 m.pg i≠opn k) (n2:m.nx=2→slAt s ws0 m.pg m.i=opn k)
 | pc (m:Pc) (e:t.nw=.pc m) (hd:t.dn=false) (hw:ws=ws0) (no:Noe s ws0 c k s.m) (ns:Nos s ws0 k f s.p) (ne:Nop s ws0 f m.many) (em:m.em=true→pgAt s ws0 m.pg=0)
 | no (e:t.nw=.no) (hd:t.dn=false) (hw:ws=ws0) (no:Noe s ws0 c k s.m) (ns:Nos s ws0 k f s.p) (ne:Nop s ws0 f s.p) (nf:Nof s ws0 f t.many)
 | st (m:St) (e:t.nw=.st m) (hd:t.dn=false) (no:Noe s ws0 c k s.m) (ns:Nos s ws0 k f s.p) (ne:Nop s ws0 f s.p) (nf:Nof s ws0 f t.many) (of:Off s ws0 ws m.p) (tr:Rw.Tr s ws0 c ws m.p m.i) (kk:m.k=pgA s m.p (pgAt s ws0 m.p)) (bk:m.bk=true→¬ Rw.Free s ws0 m.p)
 | b1 (m:Bi) (e:t.nw=.bi m) (hd:t.dn=false) (og:Org s ws0 c k f m.p) (of:Off s ws0 ws m.p) (hx:m.bd=false) (pg:pgAt s ws m.p=held c) (sl:∀ i,0≤i→i<m.i→slAt s ws m.p i=if i<slots k then way c else 0)
 | b2 (m:Bi) (e:t.nw=.bi m) (hd:t.dn=false) (og:Org s ws0 c k f m.p) (of:Off s ws0 ws m.p) (hx:m.bd=true) (pg:pgAt s ws m.p=super k c) (sl:∀ i,0≤i→i≤m.i→slAt s ws m.p i=way c) (so:∀ i,m.i<i→i<slots k→slAt s ws m.p i=opn k) (sz:∀ i,slots k≤i→i<16→slAt s ws m.p i=0)
 | f1 (i:Int) (hd:t.dn=true) (hf:t.fd=true) (i0:0≤i) (i1:i<s.m) (ok:okEn s (mgAt s ws0 c i)=true) (kk:enK s (mgAt s ws0 c i)=k) (hp:t.pg=enP s (mgAt s ws0 c i)) (hs:t.sl=enS s (mgAt s ws0 c i)) (hw:ws=upW ws0 (mag s.p s.c s.m c i) 0)
 | f2 (hd:t.dn=true) (hf:t.fd=true) (p0:0≤t.pg) (p1:t.pg<s.p) (h:Has s ws0 k t.pg t.sl) (hw:ws=upW ws0 (slot s.p s.c s.m t.pg t.sl) (way c))
 | f3 (hd:t.dn=true) (hf:t.fd=true) (p0:0≤t.pg) (p1:t.pg<s.p) (og:Org s ws0 c k f t.pg) (hl:t.sl=0) (of:Off s ws0 ws t.pg) (pg:pgAt s ws t.pg=super k c) (sl:slAt s ws t.pg 0=way c) (so:∀ i,0<i→i<slots k→slAt s ws t.pg i=opn k) (sz:∀ i,slots k≤i→i<16→slAt s ws t.pg i=0)
 | n (hd:t.dn=true) (hf:t.fd=false) (hw:ws=ws0) (no:Noe s ws0 c k s.m) (ns:Nos s ws0 k f s.p) (nf:Nof s ws0 f s.p)
structure Al (t:Sk) (w:Wd):Prop where
 wf:t.wf
 of:w.of s
 ok:may s.p s.c s.m=true
 es:t.s=s
 ec:t.c=c∧0≤c∧c<s.c
 kk:t.k=k∧0≤k∧k≤3
 ff:t.f=f∧0≤f∧f<s.p
 snd:Snd s ws0
 ph:Ph s ws0 c k f t w.ws
end
section
variable {s:Sh} {ws0 ws:Nat→Int} {c k f p:Int} {t:Sk} {w:Wd}
theorem Off.pg (hm:may s.p s.c s.m=true) (p0:0≤p) (p1:p<s.p) (h:Off s ws0 ws p) (y:Int):Off s ws0 (upW ws (page s.p s.c s.m p) y) p:=fun j j0 j1=>by
 have hb:=(may_iff _ _ _).1 hm
 show(if j=(page s.p s.c s.m p).toNat then y else ws j)=ws0 j
 rw[page_yes hm p0 p1,if_neg (by omega)];exact h j j0 j1
theorem Off.sl (hm:may s.p s.c s.m=true) (p0:0≤p) (p1:p<s.p) {i:Int} (i0:0≤i) (i1:i<16) (h:Off s ws0 ws p) (y:Int):Off s ws0 (upW ws (slot s.p s.c s.m p i) y) p:=fun j j0 j1=>by
 have hb:=(may_iff _ _ _).1 hm
 show(if j=(slot s.p s.c s.m p i).toNat then y else ws j)=ws0 j
 rw[slot_yes hm p0 p1 i0 i1,if_neg (by omega)];exact h j j0 j1
theorem Off.refl:Off s ws0 ws0 p:=fun _ _ _=>rfl
theorem Off.same (hm:may s.p s.c s.m=true) (p0:0≤p) (p1:p<s.p) (h:Off s ws0 ws p) (h1:pgAt s ws p=pgAt s ws0 p) (h2:∀ i,0≤i→i<16→slAt s ws p i=slAt s ws0 p i):ws=ws0:=by
 have hb:=(may_iff _ _ _).1 hm
 funext j
 by_cases e1:(j:Int)=s.c+p
 ·unfold pgAt at h1
  rw[page_yes hm p0 p1,show(s.c+p).toNat=j by omega]at h1
  exact h1
 ·by_cases e2:s.c+s.p+p*16≤(j:Int)∧(j:Int)<s.c+s.p+p*16+16
  ·have:=h2 ((j:Int) - (s.c+s.p+p*16)) (by omega) (by omega)
   unfold slAt at this
   rw[show(s.c+s.p+p*16+((j:Int) - (s.c+s.p+p*16))).toNat=j by omega]at this
   exact this
  ·exact h j e1 e2
theorem Nos.next {j:Int} (h:Nos s ws0 k f j) (hn:∀ i,¬ Has s ws0 k ((f+j) % s.p) i):Nos s ws0 k f (j+1):=fun q q0 q1=>by
 by_cases e:q=j
 ·rw[e];exact hn
 ·exact h q q0 (by omega)
theorem Nop.next {j:Int} (h:Nop s ws0 f j) (hn:pgAt s ws0 ((f+j) % s.p)≠0):Nop s ws0 f (j+1):=fun q q0 q1=>by
 by_cases e:q=j
 ·rw[e];exact hn
 ·exact h q q0 (by omega)
theorem Nof.next {j:Int} (h:Nof s ws0 f j) (hn:¬ Rw.Free s ws0 ((f+j) % s.p)):Nof s ws0 f (j+1):=fun q q0 q1=>by
 by_cases e:q=j
 ·rw[e];exact hn
 ·exact h q q0 (by omega)
theorem Al.step (h:Al s ws0 c k f t w):Al s ws0 c k f (t.step w).1 (t.step w).2:=by
 have hm:=h.ok
 have hb:=(may_iff _ _ _).1 hm
 have hkp:=Sk.step_kp (t:=t) (w:=w)
 obtain⟨hc,c0,c1⟩:=h.ec
 obtain⟨hk,k0,k1⟩:=h.kk
 obtain⟨hf,f0,f1⟩:=h.ff
 have hts:=h.es
 have hsk:=slots_four k0 k1
 suffices hh:Ph s ws0 c k f (t.step w).1 (t.step w).2.ws from
  ⟨Sk.step_wf h.wf,Sk.step_of h.of,hm,hkp.1.trans hts,⟨hkp.2.1.trans hc,c0,c1⟩,⟨hkp.2.2.1.trans hk,k0,k1⟩,⟨hkp.2.2.2.trans hf,f0,f1⟩,h.snd,hh⟩
 have hmod:∀ j,0≤(f+j) % s.p∧(f+j) % s.p<s.p:=fun j=>⟨Int.emod_nonneg _ (by omega),Int.emod_lt_of_pos _ (by omega)⟩
 have hok:∀ q,0≤q→q<s.p→okPg s q (pgAt s ws0 q)=true:=fun q q0 q1=>by
  have:=(h.snd.pg q.toNat (by omega)).1
  rw[show((q.toNat:Nat):Int)=q by omega]at this;exact this
 cases h.ph with
 |tk m e hd hh hw no=>
  obtain⟨ho,hmd⟩:=h.wf.nw hd
  rw[e]at ho hmd
  have hmd:m.dn=false:=hmd
  obtain⟨o1,o2,o3,o4,-,o6⟩:=ho
  obtain⟨-,-,-,i0,i1⟩:=o1.of hmd
  rw[o2,hts]at i1
  have hat:m.at'=mag s.p s.c s.m c m.i:=by unfold Tk.at';rw[o2,hts,o3,hc]
  have hg:w.get m.at'=mgAt s ws0 c m.i:=by rw[hat,mag_at hm c0 c1 i0 i1,hw]
  rw[Sk.step_tk hd e]
  cases hhits:m.hits w
  ·have hnk:¬ (okEn s (mgAt s ws0 c m.i)=true∧enK s (mgAt s ws0 c m.i)=k):=fun ⟨g1,g2⟩=>by
    unfold Tk.hits at hhits
    rw[hg,o2,hts,o4,hk,g1,decide_eq_true g2]at hhits;cases hhits
   have es:m.step w=({ m with i:=m.i+1,dn:=decide (m.i+1=m.s.m) },w.load m.c m.at'):=by
    unfold Tk.step;rw[if_neg (by rw[hmd];decide),if_neg (by rw[hh];decide),if_neg (by rw[hhits];decide)]
   have hno:Noe s ws0 c k (m.i+1):=fun j j0 j1=>by
    by_cases ej:j=m.i
    ·rw[ej];exact hnk
    ·exact no j j0 (by omega)
   have hsm:m.s.m=s.m:=by rw[o2,hts]
   rw[es]
   by_cases hl:m.i+1=s.m
   ·rw[set_af _ (by show decide (m.i+1=m.s.m)=true;rw[hsm];exact decide_eq_true hl)]
    have ea:({ t with nw:=.tk { m with i:=m.i+1,dn:=decide (m.i+1=m.s.m) } }:Sk).after = { t with nw:=.sc (Sc.new t.s t.c t.k t.f) }:=by
     show(if m.fd then _ else _:Sk)=_;rw[o6 hmd];rfl
    rw[ea]
    exact .sc _ rfl hd hw (by rw[← hl];exact hno) (fun q q0 q1=>by have q1:q<0:=q1;omega) (fun _=>rfl) (fun g=>absurd rfl g) (fun g=>by cases g)
   ·rw[set_go _ (by show decide (m.i+1=m.s.m)=false;rw[hsm];exact decide_eq_false hl)]
    exact .tk _ rfl hd hh hw hno
  ·have hh2:=hhits
   unfold Tk.hits at hh2
   rw[hg,o2,hts,o4,hk]at hh2
   simp only[Bool.and_eq_true,decide_eq_true_eq]at hh2
   have es:m.step w=({ m with ep:=enP m.s (w.get m.at'),es:=enS m.s (w.get m.at'),ek:=enK m.s (w.get m.at'),hit:=true },w.load m.c m.at'):=by
    unfold Tk.step;rw[if_neg (by rw[hmd];decide),if_neg (by rw[hh];decide),if_pos hhits]
   rw[es,set_go _ (by exact hmd)]
   exact .ht _ rfl hd rfl hw hh2.1 hh2.2 (by show enP m.s (w.get m.at')=_;rw[hg,o2,hts]) (by show enS m.s (w.get m.at')=_;rw[hg,o2,hts])
 |ht m e hd hh hw ok kk hp hs=>
  obtain⟨ho,hmd⟩:=h.wf.nw hd
  rw[e]at ho hmd
  have hmd:m.dn=false:=hmd
  obtain⟨o1,o2,o3,o4,-,o6⟩:=ho
  obtain⟨-,-,-,i0,i1⟩:=o1.of hmd
  rw[o2,hts]at i1
  have hat:m.at'=mag s.p s.c s.m c m.i:=by unfold Tk.at';rw[o2,hts,o3,hc]
  have es:m.step w=({ m with fd:=true,dn:=true },w.store m.c m.at' 0):=by
   unfold Tk.step;rw[if_neg (by rw[hmd];decide),if_pos hh]
  rw[Sk.step_tk hd e,es,set_af _ rfl]
  exact .f1 m.i rfl rfl i0 i1 ok kk hp hs (by rw[store_ws,hat,hw])
 |sc m e hd hw no ns n0 np n2=>
  obtain⟨ho,hmd⟩:=h.wf.nw hd
  rw[e]at ho hmd
  have hmd:m.dn=false:=hmd
  obtain⟨o1,o2,o3,o4,o5,-,o7,-⟩:=ho
  obtain⟨-,-,-,-,-,q0,q1,i0,i1,x0,x1⟩:=o1.of hmd
  have hsp:m.s.p=s.p:=by rw[o2,hts]
  have hpgd:m.pg=(f+m.many) % s.p:=by unfold Sc.pg;rw[hsp,o5,hf]
  have hmk:m.k=k:=o4.trans hk
  rw[hmk]at i1
  have hq:=hmod m.many
  rw[← hpgd]at hq
  have hgp:w.get m.pat=pgAt s ws0 m.pg:=by unfold Sc.pat;rw[o2,hts,← hw];rfl
  have hat:m.at'=slot s.p s.c s.m m.pg m.i:=by unfold Sc.at';rw[o2,hts]
  have hgs:w.get m.at'=slAt s ws0 m.pg m.i:=by rw[hat,slot_at hm hq.1 hq.2 i0 (by omega),hw]
  -- on to the next page
  have turn:∀ (m':Sc) (w':Wd),m'.s=m.s→m'.c=m.c→m'.k=m.k→m'.f=m.f→m'.many=m.many→m'.fd=false→w'.ws=ws0→(∀ i,¬ Has s ws0 k m.pg i)→Ph s ws0 c k f (t.set (.sc m'.turn)) w'.ws:=fun m' w' g1 g2 g3 g4 g5 g6 g7 g8=>by
   rw[hpgd]at g8
   have ns2:=ns.next g8
   by_cases hl:m.many+1=s.p
   ·rw[set_af _ (by show decide (m'.many+1=m'.s.p)=true;rw[g1,g5,hsp];exact decide_eq_true hl)]
    have ea:({ t with nw:=.sc m'.turn }:Sk).after = { t with nw:=.pc (Pc.new t.s t.c t.f) }:=by
     show(if m'.turn.fd then _ else _:Sk)=_;rw[show m'.turn.fd=false from g6];rfl
    rw[ea]
    exact .pc _ rfl hd g7 no (by rw[← hl];exact ns2) (fun q q0 q1=>by have q1:q<0:=q1;omega) (fun g=>by cases g)
   ·rw[set_go _ (by show decide (m'.many+1=m'.s.p)=false;rw[g1,g5,hsp];exact decide_eq_false hl)]
    exact .sc _ rfl hd g7 no (by show Nos s ws0 k f (m'.many+1);rw[g5];exact ns2) (fun _=>rfl) (fun g=>absurd rfl g) (fun g=>by cases g)
  rw[Sk.step_sc hd e]
  by_cases hx0:m.nx=0
  ·cases hmine:m.mine w
   ·have es:m.step w=(m.turn,w.load m.c m.pat):=by
     unfold Sc.step;rw[if_neg (by rw[hmd];decide),if_pos hx0,if_neg (by rw[hmine];decide)]
    rw[es]
    refine turn m _ rfl rfl rfl rfl rfl (o7 hmd) hw fun i hi=>?_
    obtain⟨g1,g2,-⟩:=hi
    unfold Sc.mine at hmine
    rw[hgp,o2,hts,hmk,hok m.pg hq.1 hq.2,decide_eq_true g1,decide_eq_true g2]at hmine;cases hmine
   ·have es:m.step w=({ m with nx:=1 },w.load m.c m.pat):=by
     unfold Sc.step;rw[if_neg (by rw[hmd];decide),if_pos hx0,if_pos hmine]
    unfold Sc.mine at hmine
    rw[hgp,o2,hts,hmk]at hmine
    simp only[Bool.and_eq_true,decide_eq_true_eq]at hmine
    rw[es,set_go _ (by exact hmd)]
    exact .sc _ rfl hd hw no ns (fun g=>by cases g) (fun _=>⟨hmine.1.2,hmine.2,fun i i0 i1=>by have i1:i<m.i:=i1;rw[n0 hx0]at i1;omega⟩) (fun g=>by cases g)
  ·obtain⟨p1,p2,p3⟩:=np hx0
   -- the slot is none
   have miss:∀ (w':Wd),w'.ws=ws0→slAt s ws0 m.pg m.i≠opn k→Ph s ws0 c k f (t.set (.sc m.miss)) w'.ws:=fun w' g7 g8=>by
    unfold Sc.miss
    by_cases hl:m.i+1=slots m.k
    ·rw[if_pos hl]
     show Ph s ws0 c k f (t.set (.sc (Sc.turn ⟨m.s,m.c,_,m.f,m.many,m.i+1,1,m.fd,m.dn⟩))) w'.ws
     rw[hmk]at hl
     refine turn ⟨m.s,m.c,_,m.f,m.many,m.i+1,1,m.fd,m.dn⟩ w' rfl rfl rfl rfl rfl (o7 hmd) g7 fun i ⟨_,_,a1,a2,a3⟩=>?_
     by_cases ei:i=m.i
     ·rw[ei]at a3;exact g8 a3
     ·exact p3 i a1 (by omega) a3
    ·rw[if_neg hl,set_go _ (by exact hmd)]
     rw[hmk]at hl
     refine .sc _ rfl hd g7 no ns (fun g=>by cases g) (fun _=>⟨p1,p2,fun i i0 i1=>?_⟩) (fun g=>by cases g)
     have i1:i<m.i+1:=i1
     by_cases ei:i=m.i
     ·rw[ei];exact g8
     ·exact p3 i i0 (by omega)
   by_cases hx1:m.nx=1
   ·by_cases hz:slAt s ws0 m.pg m.i=opn k
    ·have es:m.step w=({ m with nx:=2 },w.load m.c m.at'):=by
      unfold Sc.step;rw[if_neg (by rw[hmd];decide),if_neg hx0,if_pos hx1,hgs,hmk,if_pos hz]
     rw[es,set_go _ (by exact hmd)]
     exact .sc _ rfl hd hw no ns (fun g=>by cases g) (fun _=>⟨p1,p2,p3⟩) (fun _=>hz)
    ·have es:m.step w=(m.miss,w.load m.c m.at'):=by
      unfold Sc.step;rw[if_neg (by rw[hmd];decide),if_neg hx0,if_pos hx1,hgs,hmk,if_neg hz]
     rw[es]
     exact miss _ hw hz
   ·have hz:=n2 (by omega)
    have es:m.step w=({ m with fd:=true,dn:=true },w.swap m.c m.at' (opn m.k) (way m.c)):=by
     unfold Sc.step;rw[if_neg (by rw[hmd];decide),if_neg hx0,if_neg hx1,hgs,hmk,if_pos hz]
    rw[es,set_af _ rfl]
    refine .f2 rfl rfl hq.1 hq.2 ⟨p1,p2,i0,i1,hz⟩ ?_
    rw[swap_yes (by rw[hgs,hmk];exact hz),hat,hw,o3,hc];rfl
 |pc m e hd hw no ns ne em=>
  obtain⟨ho,hmd⟩:=h.wf.nw hd
  rw[e]at ho hmd
  have hmd:m.dn=false:=hmd
  obtain⟨o1,o2,o3,o4,o5,o6,-⟩:=ho
  obtain⟨-,-,-,-,-,q0,q1⟩:=o1.of hmd
  have hsp:m.s.p=s.p:=by rw[o2,hts]
  rw[hsp]at q1
  have hpgd:m.pg=(f+m.many) % s.p:=by unfold Pc.pg;rw[hsp,o4,hf]
  have hq:=hmod m.many
  rw[← hpgd]at hq
  have hat:m.at'=page s.p s.c s.m m.pg:=by unfold Pc.at';rw[o2,hts]
  have hgp:w.get m.at'=pgAt s ws0 m.pg:=by rw[hat,← hw];rfl
  rw[Sk.step_pc hd e]
  cases hem:m.em
  ·by_cases hz:pgAt s ws0 m.pg=0
   ·have es:m.step w=({ m with em:=true },w.load m.c m.at'):=by
     unfold Pc.step;rw[if_neg (by rw[hmd];decide),if_neg (by rw[hem];decide),hgp,if_pos hz]
    rw[es,set_go _ (by exact hmd)]
    exact .pc _ rfl hd hw no ns ne (fun _=>hz)
   ·have es:m.step w=(m.next,w.load m.c m.at'):=by
     unfold Pc.step;rw[if_neg (by rw[hmd];decide),if_neg (by rw[hem];decide),hgp,if_neg hz]
    have ne2:=ne.next (by rw[← hpgd];exact hz)
    rw[es]
    by_cases hl:m.many+1=s.p
    ·rw[set_af _ (by show decide (m.many+1=m.s.p)=true;rw[hsp];exact decide_eq_true hl)]
     have ea:({ t with nw:=.pc m.next }:Sk).after = { t with nw:=.no }:=by
      show(if m.next.fd then _ else _:Sk)=_;rw[show m.next.fd=false from o6 hmd];rfl
     rw[ea]
     exact .no rfl hd hw no ns (by rw[← hl];exact ne2) (fun q q0 q1=>by have q1:q<t.many:=q1;omega)
    ·rw[set_go _ (by show decide (m.many+1=m.s.p)=false;rw[hsp];exact decide_eq_false hl)]
     exact .pc _ rfl hd hw no ns ne2 (fun g=>by cases g)
  ·have hz:=em hem
   have es:m.step w=({ m with fd:=true,dn:=true },w.swap m.c m.at' 0 (held m.c)):=by
    unfold Pc.step;rw[if_neg (by rw[hmd];decide),if_pos hem,hgp,if_pos hz]
   rw[es,set_af _ rfl]
   have hws:(w.swap m.c m.at' 0 (held m.c)).ws=upW ws0 (page s.p s.c s.m m.pg) (held c):=by rw[swap_yes (hgp.trans hz),hat,hw,o3,hc]
   rw[hws]
   refine .b1 (Bi.new t.s t.c m.pg t.k) rfl hd ⟨.inl (by show pgK s m.pg (pgAt s ws0 m.pg)=0;rw[hz,pgK_zero]),no,ns,m.many,q0,q1,hpgd,.inl hz⟩ (Off.refl.pg hm hq.1 hq.2 _) rfl ?_ (fun i i0 i1=>by have i1:i<0:=i1;omega)
   show pgAt s _ m.pg=held c
   rw[pg_pg hm hq.1 hq.2 hq.1 hq.2,if_pos rfl]
 |no e hd hw no ns ne nf=>
  obtain⟨g1,g2,g3,g4,g5,g6,g7,g8⟩:=h.wf.of hd
  rw[hts]at g8
  have hhere:t.here=(f+t.many) % s.p:=by unfold Sk.here;rw[hts,hf]
  have hq:=hmod t.many
  rw[← hhere]at hq
  have hgp:w.get t.pat=pgAt s ws0 t.here:=by unfold Sk.pat;rw[hts,← hw];rfl
  rw[Sk.step_no hd e]
  show Ph s ws0 c k f (t.look w) (w.load t.c t.pat).ws
  unfold Sk.look
  split
  ·rename_i hsup
   unfold Sk.isSup at hsup
   rw[hgp,hts]at hsup
   simp only[Bool.and_eq_true,decide_eq_true_eq]at hsup
   have hA:=Gv.ok_super hsup.1 hsup.2
   have hs4:=slots_four hA.1 hA.2.1
   rw[hgp,hts]
   exact .st (St.new s t.c t.here (pgA s t.here (pgAt s ws0 t.here))) rfl hd no ns ne nf (by rw[show(w.load t.c t.pat).ws=ws0 from hw];exact Off.refl) (by rw[show(w.load t.c t.pat).ws=ws0 from hw];exact⟨rfl,hsup.2,Int.le_refl _,by show 0≤slots (pgA s t.here (pgAt s ws0 t.here));omega,fun i i0 i1=>by have i1:i<0:=i1;omega,fun i i0 i1=>rfl⟩) rfl (fun g=>by cases g)
  ·rename_i hsup
   have hnf:¬ Rw.Free s ws0 ((f+t.many) % s.p):=fun hfr=>by
    rw[← hhere]at hfr
    rcases hfr with g |⟨g,-⟩
    ·have hz:=is_empty (hok t.here hq.1 hq.2) g
     rw[hhere]at hz
     exact ne t.many g7 g8 hz
    ·apply hsup
     unfold Sk.isSup
     rw[hgp,hts,hok t.here hq.1 hq.2,decide_eq_true g];rfl
   have nf2:=nf.next hnf
   unfold Sk.turn
   rw[hts]
   by_cases hl:t.many+1=s.p
   ·exact .n (by show decide (t.many+1=s.p)=true;exact decide_eq_true hl) (h.wf.fd hd) hw no ns (by rw[← hl];exact nf2)
   ·exact .no rfl (by show decide (t.many+1=s.p)=false;exact decide_eq_false hl) hw no ns ne nf2
 |st m e hd no ns ne nf of tr kk bk=>
  obtain⟨g1,g2,g3,g4,g5,g6,g7,g8⟩:=h.wf.of hd
  rw[hts]at g8
  obtain⟨ho,hmd⟩:=h.wf.nw hd
  rw[e]at ho hmd
  have hmd:m.dn=false:=hmd
  obtain⟨o1,o2,o3,o4,o5⟩:=ho
  have hhere:t.here=(f+t.many) % s.p:=by unfold Sk.here;rw[hts,hf]
  have hpe:m.p=(f+t.many) % s.p:=o4.trans hhere
  have hq:=hmod t.many
  rw[← hpe]at hq
  obtain⟨t1,t2,t3,t4,t5,t6⟩:=tr
  have hA:=Gv.ok_super (pgK_ne (s:=s) (x:=pgAt s ws0 m.p) (by rw[t2];decide)) t2
  have hs4:=slots_four hA.1 hA.2.1
  have hsup:∀ i:Nat,i<16→slB s.c (pgA s m.p (pgAt s ws0 m.p)) i (slAt s ws0 m.p i)=true:=by
   have:=(h.snd.pg m.p.toNat (by omega)).2
   rw[show((m.p.toNat:Nat):Int)=m.p by omega]at this
   exact this.sup (by rw[t2];rfl)
  obtain⟨A,hAe⟩:∃ A,pgA s m.p (pgAt s ws0 m.p)=A:=⟨_,rfl⟩
  rw[hAe]at kk t4 t5 hA hs4 hsup
  have hat:∀ j,m.at' j=slot s.p s.c s.m m.p j:=fun j=>by unfold St.at';rw[o2,hts]
  have hpat:m.pat=page s.p s.c s.m m.p:=by unfold St.pat;rw[o2,hts]
  have hmc:m.c=c:=o3.trans hc
  have turnN:∀ (x:Nw) (ws':Nat→Int),ws'=ws0→¬ Rw.Free s ws0 m.p→Ph s ws0 c k f (({ t with nw:=x }:Sk).turn) ws':=fun x ws' g7 g8'=>by
   have nf2:=nf.next (by rw[← hpe];exact g8')
   unfold Sk.turn
   by_cases hl:t.many+1=s.p
   ·exact .n (by show decide (t.many+1=t.s.p)=true;rw[hts];exact decide_eq_true hl) (h.wf.fd hd) g7 no ns (by rw[← hl];exact nf2)
   ·exact .no rfl (by show decide (t.many+1=t.s.p)=false;rw[hts];exact decide_eq_false hl) g7 no ns ne nf2
  rw[Sk.step_st' hd e]
  rcases St.step_cases m w with⟨e1,-⟩|⟨-,⟨hb1,e2⟩|⟨hb1,hi,e2⟩|⟨hb1,hi,hg,e2⟩|⟨hb1,hi,hg,e2⟩⟩
  ·rw[hmd]at e1;cases e1
  ·
   obtain⟨-,-,-,-,-,-,a7,a8,a9⟩:=o1.of hmd
   have a9:=a9 hb1
   have hws:(w.store m.c (m.at' (m.i - 1)) (opn m.k)).ws=upW w.ws (slot s.p s.c s.m m.p (m.i - 1)) (opn A):=by rw[store_ws,hat,kk]
   rw[e2]
   show Ph s ws0 c k f (t.set (.st { m with i:=m.i - 1,dn:=decide (m.i - 1=0) })) (w.store m.c (m.at' (m.i - 1)) (opn m.k)).ws
   rw[hws]
   have of2:=of.sl hm hq.1 hq.2 (i:=m.i - 1) (by omega) (by omega) (opn A)
   have tr2:Rw.Tr s ws0 c (upW w.ws (slot s.p s.c s.m m.p (m.i - 1)) (opn A)) m.p (m.i - 1):=by
    refine⟨(pg_sl hm hq.1 hq.2 (by omega) (by omega) hq.1 hq.2).trans t1,t2,by omega,by rw[hAe];omega,fun i i0 i1=>?_,fun i i0 i1=>?_⟩
    ·rw[sl_sl hm hq.1 hq.2 (by omega) (by omega) hq.1 i0 (by omega),if_neg (by omega),hAe];exact t5 i i0 (by omega)
    ·rw[sl_sl hm hq.1 hq.2 (by omega) (by omega) hq.1 (by omega) i1]
     split
     ·rename_i g;rw[g.2];exact(t5 (m.i - 1) (by omega) (by omega)).2.symm
     ·exact t6 i (by omega) i1
   by_cases hl:m.i - 1=0
   ·rw[set_af _ (by show decide (m.i - 1=0)=true;exact decide_eq_true hl)]
    have ea:({ t with nw:=.st { m with i:=m.i - 1,dn:=decide (m.i - 1=0) } }:Sk).after=({ t with nw:=.st { m with i:=m.i - 1,dn:=decide (m.i - 1=0) } }:Sk).turn:=by
     show(if m.hd then _ else _:Sk)=_;rw[o5 hmd];rfl
    rw[ea]
    rw[hl]at tr2 of2 ⊢
    exact turnN _ _ (of2.same hm hq.1 hq.2 tr2.1 tr2.2.2.2.2.2) (bk hb1)
   ·rw[set_go _ (by show decide (m.i - 1=0)=false;exact decide_eq_false hl)]
    exact .st _ rfl hd no ns ne nf of2 tr2 (by rw[hAe];exact kk) bk
  ·
   have hws:(w.store m.c m.pat (held m.c)).ws=upW w.ws (page s.p s.c s.m m.p) (held c):=by rw[store_ws,hpat,hmc]
   rw[e2]
   show Ph s ws0 c k f (t.set (.st { m with hd:=true,dn:=true })) (w.store m.c m.pat (held m.c)).ws
   rw[hws,set_af _ rfl]
   show Ph s ws0 c k f (({ t with nw:=.st { m with hd:=true,dn:=true } }:Sk).bind t.here) _
   have hpp:t.here=m.p:=o4.symm
   rw[hpp]
   refine .b1 (Bi.new t.s t.c m.p t.k) rfl hd ⟨.inr ⟨t2,fun i i0 i1=>?_⟩,no,ns,t.many,g7,g8,hpe,.inr nf⟩ (of.pg hm hq.1 hq.2 _) rfl ?_ (fun i i0 i1=>by have i1:i<0:=i1;omega)
   ·have i1:i<slots (pgA s m.p (pgAt s ws0 m.p)):=i1
    rw[hAe]at i1
    show slK (slAt s ws0 m.p i)=1
    rw[(t5 i i0 (by rw[hi,kk];exact i1)).2];exact(opn_ne A hA.1 (by omega)).2.1
   ·show pgAt s _ m.p=held c
    rw[pg_pg hm hq.1 hq.2 hq.1 hq.2,if_pos rfl]
  ·
   rw[kk]at hi
   have hgs:slAt s w.ws m.p m.i=opn A:=by
    rw[hat,kk,slot_at hm hq.1 hq.2 t3 (by omega)]at hg;exact hg
   have hws:(w.swap m.c (m.at' m.i) (opn m.k) (way m.c)).ws=upW w.ws (slot s.p s.c s.m m.p m.i) (way c):=by rw[swap_yes hg,hat,hmc]
   rw[e2]
   show Ph s ws0 c k f (t.set (.st { m with i:=m.i+1 })) (w.swap m.c (m.at' m.i) (opn m.k) (way m.c)).ws
   rw[hws,set_go _ (by exact hmd)]
   refine .st _ rfl hd no ns ne nf (of.sl hm hq.1 hq.2 t3 (by omega) _) ?_ (by rw[hAe];exact kk) bk
   show Rw.Tr s ws0 c (upW w.ws (slot s.p s.c s.m m.p m.i) (way c)) m.p (m.i+1)
   refine⟨(pg_sl hm hq.1 hq.2 (by omega) (by omega) hq.1 hq.2).trans t1,t2,by omega,by rw[hAe];omega,fun i i0 i1=>?_,fun i i0 i1=>?_⟩
   ·rw[hAe,sl_sl hm hq.1 hq.2 (by omega) (by omega) hq.1 i0 (by omega)]
    by_cases g:i=m.i
    ·subst g
     rw[if_pos ⟨rfl,rfl⟩]
     exact⟨rfl,(t6 _ (Int.le_refl _) (by omega)).symm.trans hgs⟩
    ·rw[if_neg (by omega)];exact t5 i i0 (by omega)
   ·rw[sl_sl hm hq.1 hq.2 (by omega) (by omega) hq.1 (by omega) i1,if_neg (by omega)];exact t6 i (by omega) i1
  ·
   rw[kk]at hi
   have hgs:slAt s w.ws m.p m.i≠opn A:=by
    rw[hat,kk,slot_at hm hq.1 hq.2 t3 (by omega)]at hg;exact hg
   have hws:(w.swap m.c (m.at' m.i) (opn m.k) (way m.c)).ws=w.ws:=swap_no hg
   have hnf:¬ Rw.Free s ws0 m.p:=fun hfr=>by
    rcases hfr with g |⟨-,g⟩
    ·rw[t2]at g;cases g
    ·rw[hAe]at g
     have g1:=g m.i t3 (by omega)
     have g2:=hsup m.i.toNat (by omega)
     rw[show((m.i.toNat:Nat):Int)=m.i by omega]at g2
     unfold slB at g2
     rw[decide_eq_true (by omega:m.i<slots A),g1]at g2
     have g3:slA (slAt s ws0 m.p m.i)=A:=by simpa using g2
     have g4:=is_opn g1
     rw[g3]at g4
     exact hgs ((t6 _ (Int.le_refl _) (by omega)).trans g4)
   rw[e2]
   show Ph s ws0 c k f (t.set (.st { m with bk:=true,dn:=decide (m.i=0) })) (w.swap m.c (m.at' m.i) (opn m.k) (way m.c)).ws
   rw[hws]
   have tr2:Rw.Tr s ws0 c w.ws m.p m.i:=⟨t1,t2,t3,by rw[hAe];exact t4,by rw[hAe];exact t5,t6⟩
   by_cases hl:m.i=0
   ·rw[set_af _ (by show decide (m.i=0)=true;exact decide_eq_true hl)]
    have ea:({ t with nw:=.st { m with bk:=true,dn:=decide (m.i=0) } }:Sk).after=({ t with nw:=.st { m with bk:=true,dn:=decide (m.i=0) } }:Sk).turn:=by
     show(if m.hd then _ else _:Sk)=_;rw[o5 hmd];rfl
    rw[ea]
    exact turnN _ _ (of.same hm hq.1 hq.2 t1 fun i i0 i1=>t6 i (by omega) i1) hnf
   ·rw[set_go _ (by show decide (m.i=0)=false;exact decide_eq_false hl)]
    exact .st _ rfl hd no ns ne nf of tr2 (by rw[hAe];exact kk) fun _=>hnf
 |b1 m e hd og of hx pg sl=>
  obtain⟨ho,hmd⟩:=h.wf.nw hd
  rw[e]at ho hmd
  have hmd:m.dn=false:=hmd
  obtain⟨o1,o2,o3,o4,o5,o6,o7⟩:=ho
  obtain⟨-,-,-,p0,p1,-,i0,i1,-⟩:=o1.of hmd
  rw[o2,hts]at p1
  have hmc:m.c=c:=o3.trans hc
  have hmk:m.k=k:=o4.trans hk
  have hat:m.at'=slot s.p s.c s.m m.p m.i:=by unfold Bi.at';rw[o2,hts]
  have hpat:m.pat=page s.p s.c s.m m.p:=by unfold Bi.pat;rw[o2,hts]
  rw[Sk.step_bi hd e]
  by_cases hl:m.i=16
  ·have es:m.step w=({ m with bd:=true,i:=slots m.k - 1 },w.store m.c m.pat (super m.k m.c)):=by
    unfold Bi.step;rw[if_neg (by rw[hmd];decide),if_neg (by rw[hx];decide),if_pos hl]
   have hws:(w.store m.c m.pat (super m.k m.c)).ws=upW w.ws (page s.p s.c s.m m.p) (super k c):=by rw[store_ws,hpat,hmk,hmc]
   rw[es,set_go _ (by exact hmd)]
   show Ph s ws0 c k f { t with nw:=.bi { m with bd:=true,i:=slots m.k - 1 } } (w.store m.c m.pat (super m.k m.c)).ws
   rw[hws]
   refine .b2 _ rfl hd og (of.pg hm p0 p1 _) rfl ?_ (fun i a0 a1=>?_) (fun i a0 a1=>?_) (fun i a0 a1=>?_)
   ·show pgAt s _ m.p=_
    rw[pg_pg hm p0 p1 p0 p1,if_pos rfl]
   ·have a1:i≤slots m.k - 1:=a1
    rw[hmk]at a1
    show slAt s _ m.p i=_
    rw[sl_pg hm p0 p1 p0 a0,sl i a0 (by omega),if_pos (by omega)]
   ·have a0:slots m.k - 1<i:=a0
    rw[hmk]at a0;omega
   ·show slAt s _ m.p i=_
    rw[sl_pg hm p0 p1 p0 (by omega),sl i (by omega) (by omega),if_neg (by omega)]
  ·have es:m.step w=({ m with i:=m.i+1 },w.store m.c m.at' (if m.i<slots m.k then way m.c else 0)):=by
    unfold Bi.step;rw[if_neg (by rw[hmd];decide),if_neg (by rw[hx];decide),if_neg hl]
   have hws:(w.store m.c m.at' (if m.i<slots m.k then way m.c else 0)).ws=upW w.ws (slot s.p s.c s.m m.p m.i) (if m.i<slots k then way c else 0):=by rw[store_ws,hat,hmk,hmc]
   rw[es,set_go _ (by exact hmd)]
   show Ph s ws0 c k f { t with nw:=.bi { m with i:=m.i+1 } } (w.store m.c m.at' (if m.i<slots m.k then way m.c else 0)).ws
   rw[hws]
   refine .b1 _ rfl hd og (of.sl hm p0 p1 i0 (by omega) _) hx ?_ (fun i a0 a1=>?_)
   ·show pgAt s _ m.p=_
    rw[pg_sl hm p0 p1 i0 (by omega) p0 p1];exact pg
   ·have a1:i<m.i+1:=a1
    show slAt s _ m.p i=_
    rw[sl_sl hm p0 p1 i0 (by omega) p0 a0 (by omega)]
    by_cases g:i=m.i
    ·rw[if_pos ⟨rfl,g⟩,g]
    ·rw[if_neg (fun x=>g x.2)];exact sl i a0 (by omega)
 |b2 m e hd og of hx pg sl so sz=>
  obtain⟨ho,hmd⟩:=h.wf.nw hd
  rw[e]at ho hmd
  have hmd:m.dn=false:=hmd
  obtain⟨o1,o2,o3,o4,o5,o6,o7⟩:=ho
  obtain⟨-,-,-,p0,p1,-,i0,i1,i2⟩:=o1.of hmd
  have i2:=i2 hx
  rw[o2,hts]at p1
  have hmk:m.k=k:=o4.trans hk
  rw[hmk]at i2
  have hat:m.at'=slot s.p s.c s.m m.p m.i:=by unfold Bi.at';rw[o2,hts]
  have es:m.step w=({ m with i:=m.i - 1,dn:=decide (m.i - 1=0) },w.store m.c m.at' (opn m.k)):=by
   unfold Bi.step;rw[if_neg (by rw[hmd];decide),if_pos hx]
  have hws:(w.store m.c m.at' (opn m.k)).ws=upW w.ws (slot s.p s.c s.m m.p m.i) (opn k):=by rw[store_ws,hat,hmk]
  have of2:=of.sl hm p0 p1 i0 (by omega) (opn k)
  have hsl:∀ i,0≤i→i<16→slAt s (upW w.ws (slot s.p s.c s.m m.p m.i) (opn k)) m.p i=if i=m.i then opn k else slAt s w.ws m.p i:=fun i a0 a1=>by
   rw[sl_sl hm p0 p1 i0 (by omega) p0 a0 a1]
   by_cases g:i=m.i
   ·rw[if_pos ⟨rfl,g⟩,if_pos g]
   ·rw[if_neg (fun x=>g x.2),if_neg g]
  have pg2:pgAt s (upW w.ws (slot s.p s.c s.m m.p m.i) (opn k)) m.p=super k c:=by rw[pg_sl hm p0 p1 i0 (by omega) p0 p1];exact pg
  have sl2:∀ i,0≤i→i≤m.i - 1→slAt s (upW w.ws (slot s.p s.c s.m m.p m.i) (opn k)) m.p i=way c:=fun i a0 a1=>by rw[hsl i a0 (by omega),if_neg (by omega)];exact sl i a0 (by omega)
  have so2:∀ i,m.i - 1<i→i<slots k→slAt s (upW w.ws (slot s.p s.c s.m m.p m.i) (opn k)) m.p i=opn k:=fun i a0 a1=>by
   rw[hsl i (by omega) (by omega)]
   split
   ·rfl
   ·exact so i (by omega) a1
  have sz2:∀ i,slots k≤i→i<16→slAt s (upW w.ws (slot s.p s.c s.m m.p m.i) (opn k)) m.p i=0:=fun i a0 a1=>by rw[hsl i (by omega) a1,if_neg (by omega)];exact sz i a0 a1
  rw[Sk.step_bi hd e,es]
  show Ph s ws0 c k f (t.set (.bi { m with i:=m.i - 1,dn:=decide (m.i - 1=0) })) (w.store m.c m.at' (opn m.k)).ws
  rw[hws]
  by_cases hl:m.i - 1=0
  ·rw[set_af _ (by show decide (m.i - 1=0)=true;exact decide_eq_true hl)]
   show Ph s ws0 c k f (({ t with nw:=.bi { m with i:=m.i - 1,dn:=decide (m.i - 1=0) } }:Sk).fin t.pg 0) _
   rw[hl]at sl2 so2
   rw[o5]at og of2 pg2 sl2 so2 sz2 ⊢
   exact .f3 rfl rfl o6 (by rw[hts]at o7;exact o7) og rfl of2 pg2 (sl2 0 (Int.le_refl _) (Int.le_refl _)) so2 sz2
  ·rw[set_go _ (by show decide (m.i - 1=0)=false;exact decide_eq_false hl)]
   exact .b2 _ rfl hd og of2 hx pg2 sl2 so2 sz2
 | f1 i hd hf i0 i1 ok kk hp hs hw=>rw[Sk.step_dn hd];exact .f1 i hd hf i0 i1 ok kk hp hs hw
 | f2 hd hf p0 p1 hh hw=>rw[Sk.step_dn hd];exact .f2 hd hf p0 p1 hh hw
 | f3 hd hf p0 p1 og hl of pg sl so sz=>rw[Sk.step_dn hd];exact .f3 hd hf p0 p1 og hl of pg sl so sz
 | n hd hf hw no ns nf=>rw[Sk.step_dn hd];exact .n hd hf hw no ns nf
theorem Al.init (hm:may s.p s.c s.m=true) (ho:w.of s) (c0:0≤c) (c1:c<s.c) (k0:0≤k) (k1:k≤3) (f0:0≤f) (f1:f<s.p) (hs:Snd s w.ws):Al s w.ws c k f (Sk.new s c k f) w:=by
 have hb:=(may_iff _ _ _).1 hm
 have hsk:=slots_four k0 k1
 have g1:good s c k=true:=by
  unfold good
  rw[status_yes hm c0 c1,decide_eq_true (by omega:0<slots k),decide_eq_true c0];rfl
 have g2:decide (0≤page s.p s.c s.m f)=true:=decide_eq_true (by rw[page_yes hm f0 f1];omega)
 have en:Sk.new s c k f=Sk.set ⟨s,c,k,f,.tk (Tk.new s c k),0,0,0,false,false⟩ (.tk (Tk.new s c k)):=by
  unfold Sk.new;rw[g1,g2];rfl
 have hkp:Sk.Kp ⟨s,c,k,f,.tk (Tk.new s c k),0,0,0,false,false⟩ (Sk.new s c k f):=by rw[en];exact Sk.set_kp _ _
 refine⟨Sk.new_wf ..,ho,hm,hkp.1,⟨hkp.2.1,c0,c1⟩,⟨hkp.2.2.1,k0,k1⟩,⟨hkp.2.2.2,f0,f1⟩,hs,?_⟩
 rw[en]
 by_cases h0:s.m=0
 ·have hd:(Tk.new s c k).dn=true:=by show(!good s c k || decide (s.m=0))=true;rw[decide_eq_true h0];simp
  rw[set_af _ (m:=.tk _) hd]
  show Ph s w.ws c k f { (_:Sk) with nw:=.sc (Sc.new s c k f) } w.ws
  exact .sc _ rfl rfl rfl (fun j j0 j1=>by omega) (fun q q0 q1=>by have q1:q<0:=q1;omega) (fun _=>rfl) (fun g=>absurd rfl g) (fun g=>by cases g)
 ·have hd:(Tk.new s c k).dn=false:=by show(!good s c k || decide (s.m=0))=false;rw[decide_eq_false h0,g1];rfl
  rw[set_go _ (m:=.tk _) hd]
  exact .tk _ rfl rfl rfl rfl (fun j j0 j1=>by have j1:j<0:=j1;omega)
def Want (s:Sh) (ws0:Nat→Int) (c k:Int):Prop:=(∃ i,0≤i∧i<s.m∧okEn s (mgAt s ws0 c i)=true∧enK s (mgAt s ws0 c i)=k)∨(∃ p i,0≤p∧p<s.p∧Has s ws0 k p i)∨∃ p,0≤p∧p<s.p∧Rw.Free s ws0 p
end
end Sa
end Go.Ma
namespace Go.Ma
open Go.Pl
namespace Sa
section
variable {s:Sh} {ws0 ws:Nat→Int} {c k f p:Int} {t:Sk} {w:Wd}
theorem super_ok {q:Int} (hm:may s.p s.c s.m=true) (q0:0≤q) (q1:q<s.p) (k0:0≤k) (k1:k≤3) (c0:0≤c) (c1:c<s.c):okPg s q (super k c)=true∧pgK s q (super k c)=2∧pgA s q (super k c)=k:=by
 have hb:=(may_iff _ _ _).1 hm
 have hv:super k c=2+16*k+4096*c:=by unfold super putPg;rw[if_pos (by omega)]
 have e1:(2+16*k+4096*c) % 16=2:=by omega
 have e2:pt (2+16*k+4096*c) 16=k:=by unfold pt;omega
 have e3:pt (2+16*k+4096*c) 4096=c:=by unfold pt;omega
 have hp:0≤page s.p s.c s.m q:=by rw[page_yes hm q0 q1];omega
 have ok:okPg s q (super k c)=true:=by
  rw[hv]
  unfold okPg
  rw[e1,e2,e3]
  have g1:decide (putPg 2 k c=2+16*k+4096*c)=true:=decide_eq_true hv
  have g3:fits s q 2 k c=true:=by unfold fits;simp;omega
  rw[g1,g3,decide_eq_true hp];rfl
 refine⟨ok,?_,?_⟩
 ·unfold pgK;rw[if_pos ok,hv,e1]
 ·unfold pgA;rw[if_pos ok,hv,e2]
theorem one (hm:may s.p s.c s.m=true) (hsn:Snd s ws0) (p0:0≤p) (p1:p<s.p) (hkp:pgK s p (pgAt s ws0 p)=0∨pgK s p (pgAt s ws0 p)=2) (un:∀ q,0≤q→q<s.p→q≠p→Rw.Un s ws0 ws q)
  (ok:okPg s p (pgAt s ws p)=true) (k2:pgK s p (pgAt s ws p)=2) (sl:∀ i:Nat,i<16→slB s.c (pgA s p (pgAt s ws p)) i (slAt s ws p i)=true)
  (mg:∀ c' j,0≤c'→c'<s.c→0≤j→j<s.m→mgAt s ws c' j=mgAt s ws0 c' j∨mgAt s ws c' j=0)
  (en:∀ c' j:Nat,(c':Int)<s.c→(j:Int)<s.m→mgAt s ws0 c' j≠0→enP s (mgAt s ws0 c' j)=p→EnB s ws0 c' (mgAt s ws0 c' j)→EnB s ws c' (mgAt s ws0 c' j)):Snd s ws:=by
 have hb:=(may_iff _ _ _).1 hm
 have nk:∀ (k':Int) (q:Int),pgK s q (pgAt s ws0 q)=k'→k'≠0→k'≠2→q≠p:=fun k' q h h0 h2 e=>by
  subst e
  rcases hkp with g | g<;>rw[h]at g
  ·exact h0 g
  ·exact h2 g
 refine⟨fun q q1=>?_,fun c' j h1 h2 hx=>?_,fun c' j c'' j' h1 h2 h3 ha hx hy=>?_⟩
 ·by_cases e:(q:Int)=p
  ·rw[e];exact⟨ok,SpB.two (by rw[k2];rfl) sl⟩
  ·obtain⟨e1,e2⟩:=hsn.pg q q1
   have hu:=un q (by omega) q1 e
   rw[hu.1]
   refine⟨e1,⟨fun k j hj=>?_,fun k k' j hj=>?_,fun k k' k4=>?_,fun k k' k4 k3 j j1 j2=>?_⟩⟩
   ·rw[hu.2 j (by omega) (by omega)];exact e2.sup k j hj
   ·rw[hu.2 j (by omega) (by omega)];exact e2.emp k k' j hj
   ·have hbo:=Ad.ok_body e1 (beq_iff_eq.1 k4)
    have hbd:=e2.bod k k' k4
    obtain⟨A',hA'⟩:∃ A',pgA s q (pgAt s ws0 q)=A':=⟨_,rfl⟩
    rw[hA']at hbo hbd ⊢
    have hne:A'≠p:=by
     obtain⟨k',hk'⟩:∃ k',pgK s A' (pgAt s ws0 A')=k':=⟨_,rfl⟩
     rw[hk']at hbd
     refine nk k' A' hk' (fun e=>?_) (fun e=>?_)<;>rw[e]at hbd<;>simp at hbd
    rw[(un A' hbo.1 (by omega) hne).1];exact hbd
   ·have hl:=large_bd e1 (beq_iff_eq.1 k3)
    have he:=e2.lar k k' k4 k3 j j1 j2
    rw[(un (q+j) (by omega) (by omega) (nk 4 _ he.1 (by decide) (by decide))).1];exact he
 ·rcases mg c' j (by omega) h1 (by omega) h2 with g | g
  ·rw[g]at hx ⊢
   have hE:=hsn.en c' j h1 h2 hx
   by_cases e:enP s (mgAt s ws0 c' j)=p
   ·exact en c' j h1 h2 hx e hE
   ·obtain⟨e1,e2,e3,e4⟩:=hE
    have hbd:=en_bd e1
    have hu:=un _ hbd.1 hbd.2.1 e
    exact⟨e1,by rw[hu.1];exact e2,by rw[hu.1];exact e3,by rw[hu.2 _ hbd.2.2.1 hbd.2.2.2];exact e4⟩
  ·exact absurd g hx
 ·have hc':(c'':Int)<s.c:=by unfold ahead at ha;omega
  rcases mg c' j (by omega) h1 (by omega) h2 with g | g
  ·rcases mg c'' j' (by omega) hc' (by omega) h3 with g' | g'
   ·rw[g]at hx ⊢
    rw[g']at hy ⊢
    exact hsn.dj c' j c'' j' h1 h2 h3 ha hx hy
   ·exact absurd g' hy
  ·exact absurd g hx
theorem Al.ends (h:Al s ws0 c k f t w) (hd:t.dn=true):Snd s w.ws∧(t.fd=true→0≤t.pg∧t.pg<s.p∧0≤t.sl∧t.sl<16∧okPg s t.pg (pgAt s w.ws t.pg)=true∧pgK s t.pg (pgAt s w.ws t.pg)=2∧pgA s t.pg (pgAt s w.ws t.pg)=k∧slAt s w.ws t.pg t.sl=way c):=by
 have hm:=h.ok
 have hb:=(may_iff _ _ _).1 hm
 obtain⟨hc,c0,c1⟩:=h.ec
 obtain⟨hk,k0,k1⟩:=h.kk
 have hsn:=h.snd
 have hsk:=slots_four k0 k1
 have wn:=way_ne c c0 (by omega)
 have on:=opn_ne k k0 (by omega)
 cases h.ph with
 | tk m e hd'=>rw[hd]at hd';cases hd'
 | ht m e hd'=>rw[hd]at hd';cases hd'
 | sc m e hd'=>rw[hd]at hd';cases hd'
 | pc m e hd'=>rw[hd]at hd';cases hd'
 | no e hd'=>rw[hd]at hd';cases hd'
 | st m e hd'=>rw[hd]at hd';cases hd'
 | b1 m e hd'=>rw[hd]at hd';cases hd'
 | b2 m e hd'=>rw[hd]at hd';cases hd'
 | n _ hf hw=>rw[hw];exact⟨hsn,fun g=>by (rw[hf]at g;cases g)⟩
 |f1 i _ hf i0 i1 ok kk hp hs hw=>
  have hne:mgAt s ws0 c i≠0:=fun g=>by rw[g]at ok;cases ok
  have hE:=hsn.en c.toNat i.toNat (by omega) (by omega)
  rw[show((c.toNat:Nat):Int)=c by omega,show((i.toNat:Nat):Int)=i by omega]at hE
  obtain⟨e1,e2,e3,e4⟩:=hE hne
  have hbd:=en_bd e1
  have un:∀ q,0≤q→q<s.p→Rw.Un s ws0 w.ws q:=fun q q0 q1=>by
   rw[hw];exact⟨pg_mg hm c0 c1 i0 i1 q0 q1,fun j j0 j1=>sl_mg hm c0 c1 i0 i1 q0 q1 j0 j1⟩
  rw[← hp]at e2 e3 hbd
  rw[← hp,← hs]at e4
  rw[← hs]at hbd
  have hu:=un t.pg hbd.1 hbd.2.1
  have hpn:=hsn.pg t.pg.toNat (by omega)
  rw[show((t.pg.toNat:Nat):Int)=t.pg by omega]at hpn
  refine⟨one hm hsn hbd.1 hbd.2.1 (.inr e2) (fun q q0 q1 _=>un q q0 q1) (by rw[hu.1];exact hpn.1) (by rw[hu.1];exact e2) (fun j hj=>?_) (fun c' j a0 a1 b0 b1=>?_) (fun c' j a1 b1 hx _ hE=>?_),fun _=>⟨hbd.1,hbd.2.1,hbd.2.2.1,hbd.2.2.2,by rw[hu.1];exact hpn.1,by rw[hu.1];exact e2,by rw[hu.1,e3];exact kk,by rw[hu.2 _ hbd.2.2.1 hbd.2.2.2];exact e4⟩⟩
  ·rw[hu.1,hu.2 j (by omega) (by omega)];exact hpn.2.sup (by rw[e2];rfl) j hj
  ·rw[hw,mg_mg hm c0 c1 i0 i1 a0 b0 b1]
   split
   ·exact .inr rfl
   ·exact .inl rfl
  ·obtain⟨r1,r2,r3,r4⟩:=hE
   have hb2:=en_bd r1
   have hu2:=un _ hb2.1 hb2.2.1
   exact⟨r1,by rw[hu2.1];exact r2,by rw[hu2.1];exact r3,by rw[hu2.2 _ hb2.2.2.1 hb2.2.2.2];exact r4⟩
 |f2 _ hf p0 p1 hh hw=>
  obtain⟨g1,g2,g3,g4,g5⟩:=hh
  have un:∀ q,0≤q→q<s.p→q≠t.pg→Rw.Un s ws0 w.ws q:=fun q q0 q1 hne=>by
   rw[hw];exact Rw.Un.tr ⟨rfl,fun _ _ _=>rfl⟩ (Rw.Sm.sl hm p0 p1 g3 (by omega) q0 q1 hne)
  have hpg:pgAt s w.ws t.pg=pgAt s ws0 t.pg:=by rw[hw];exact pg_sl hm p0 p1 g3 (by omega) p0 p1
  have hsl:∀ j,0≤j→j<16→slAt s w.ws t.pg j=if j=t.sl then way c else slAt s ws0 t.pg j:=fun j j0 j1=>by
   rw[hw,sl_sl hm p0 p1 g3 (by omega) p0 j0 j1]
   by_cases e:j=t.sl
   ·rw[if_pos ⟨rfl,e⟩,if_pos e]
   ·rw[if_neg (fun x=>e x.2),if_neg e]
  have hpn:=hsn.pg t.pg.toNat (by omega)
  rw[show((t.pg.toNat:Nat):Int)=t.pg by omega]at hpn
  refine⟨one hm hsn p0 p1 (.inr g1) un (by rw[hpg];exact hpn.1) (by rw[hpg];exact g1) (fun j hj=>?_) (fun c' j a0 a1 b0 b1=>.inl ?_) (fun c' j a1 b1 hx he hE=>?_),fun _=>⟨p0,p1,g3,by omega,by rw[hpg];exact hpn.1,by rw[hpg];exact g1,by rw[hpg];exact g2,by rw[hsl _ g3 (by omega),if_pos rfl]⟩⟩
  ·rw[hpg,hsl j (by omega) (by omega)]
   split
   ·rename_i e
    unfold slB
    rw[g2,decide_eq_true (by omega:(j:Int)<slots k),wn.2.1,wn.2.2];simp;exact c1
   ·exact hpn.2.sup (by rw[g1];rfl) j hj
  ·rw[hw];exact mg_sl hm p0 p1 g3 (by omega) a0 b0
  ·obtain⟨r1,r2,r3,r4⟩:=hE
   have hb2:=en_bd r1
   rw[he]at r2 r3 r4
   have hns:enS s (mgAt s ws0 c' j)≠t.sl:=fun e=>by
    rw[e,g5]at r4
    have:=congrArg slK r4
    rw[on.2.1]at this
    have h5:=(way_ne c' (by omega) (by omega)).2.1
    unfold way at h5
    rw[h5]at this;cases this
   exact⟨r1,by rw[he,hpg];exact r2,by rw[he,hpg];exact r3,by rw[he,hsl _ hb2.2.2.1 hb2.2.2.2,if_neg hns];exact r4⟩
 |f3 _ hf p0 p1 og hl of pg sl so sz=>
  obtain⟨fr,-⟩:=og
  have hso:=super_ok hm p0 p1 k0 k1 c0 c1
  have un:∀ q,0≤q→q<s.p→q≠t.pg→Rw.Un s ws0 w.ws q:=fun q q0 q1 hne=>by
   refine⟨?_,fun j j0 j1=>?_⟩
   ·unfold pgAt;rw[page_yes hm q0 q1];exact of _ (by omega) (by omega)
   ·exact of _ (by omega) (by omega)
  refine⟨one hm hsn p0 p1 (fr.imp id fun x=>x.1) un (by rw[pg];exact hso.1) (by rw[pg];exact hso.2.1) (fun j hj=>?_) (fun c' j a0 a1 b0 b1=>.inl ?_) (fun c' j a1 b1 hx he hE=>?_),fun _=>⟨p0,p1,by omega,by omega,by rw[pg];exact hso.1,by rw[pg];exact hso.2.1,by rw[pg];exact hso.2.2,by rw[hl];exact sl⟩⟩
  ·rw[pg,hso.2.2]
   unfold slB
   by_cases e:(j:Int)<slots k
   ·rw[decide_eq_true e]
    by_cases e0:(j:Int)=0
    ·rw[e0,sl,wn.2.1,wn.2.2];simp;exact c1
    ·rw[so j (by omega) e,on.2.1,on.2.2];simp
   ·rw[decide_eq_false e,sz j (by omega) (by omega)];rfl
  ·have h5:=Int.mul_nonneg a0 (by omega:0≤s.m)
   exact of _ (by omega) (by omega)
  ·exfalso
   obtain⟨r1,r2,r3,r4⟩:=hE
   have hb2:=en_bd r1
   have hS:=en_slot r1
   rw[he]at r2 r3 r4
   rcases fr with g |⟨g,g2⟩
   ·rw[r2]at g;cases g
   ·have:=g2 _ hb2.2.2.1 (by rw[r3];exact hS)
    rw[r4]at this
    have h5:=(way_ne c' (by omega) (by omega)).2.1
    unfold way at h5
    rw[h5]at this;cases this
end
end Sa
end Go.Ma
namespace Go.Ma
open Go.Pl
namespace Rk
def rOwn (t:Rn) (q:Int):Int:=
 if t.dn=true then(if t.fd=true∧t.hd≤q∧q<t.hd+t.n then(if q=t.hd then held 0 else putPg 4 t.hd 0) else 0)
 else if t.nx≤2 then(if t.hd≤q∧q<t.at' then held 0 else 0)
 else if t.nx=4 then(if t.hd≤q∧q<t.i then held 0 else 0)
 else(if q=t.hd then held 0 else if t.hd<q∧q<t.i then putPg 4 t.hd 0 else if t.i≤q∧q<t.hd+t.n then held 0 else 0)
section
variable {t:Rn} {q:Int}
end
section
variable (P n K f:Int)
def sh:Sh:=⟨P,2,0⟩
inductive Bp (u:Sk) (ws:Nat→Int) (bp:Int):Prop
 | sc (m:Sc) (e:u.nw=.sc m) (d:u.dn=false) (b:bp=-1) (x:m.nx=0) (i:m.i=0)
 | pc (m:Pc) (e:u.nw=.pc m) (d:u.dn=false) (b:bp=-1) (nz:∀ j,0≤j→j<m.many→pgAt (sh P) ws ((f+j) % P)≠0)
 | no (e:u.nw=.no) (d:u.dn=false) (b:bp=-1) (nz:∀ q,0≤q→q<P→pgAt (sh P) ws q≠0)
 | b1 (m:Bi) (e:u.nw=.bi m) (d:u.dn=false) (b:bp=m.p) (x:m.bd=false) (pg:pgAt (sh P) ws bp=held 1) (sl:∀ i,0≤i→i<m.i→slAt (sh P) ws bp i=if i<slots K then way 1 else 0)
 | b2 (m:Bi) (e:u.nw=.bi m) (d:u.dn=false) (b:bp=m.p) (x:m.bd=true) (pg:pgAt (sh P) ws bp=super K 1) (sl:∀ i,0≤i→i≤m.i→slAt (sh P) ws bp i=way 1) (so:∀ i,m.i<i→i<slots K→slAt (sh P) ws bp i=opn K) (sz:∀ i,slots K≤i→i<16→slAt (sh P) ws bp i=0)
 | f (d:u.dn=true) (g:u.fd=true) (b:bp=u.pg) (b0:0≤bp) (pg:pgAt (sh P) ws bp=super K 1) (s0:slAt (sh P) ws bp 0=way 1) (so:∀ i,0<i→i<slots K→slAt (sh P) ws bp i=opn K) (sz:∀ i,slots K≤i→i<16→slAt (sh P) ws bp i=0)
 | n (d:u.dn=true) (g:u.fd=false) (b:bp=-1) (nz:∀ q,0≤q→q<P→pgAt (sh P) ws q≠0)
structure Inv (t:Rn) (u:Sk) (w:Wd) (bp:Int):Prop where
 ok:1≤P∧P≤9
 of:w.of (sh P)
 ts:t.wf∧t.s=sh P∧t.c=0∧t.n=n∧1≤n∧n≤8
 us:u.wf∧u.s=sh P∧u.c=1∧u.k=K∧u.f=f
 kf:0≤K∧K≤3∧0≤f∧f<P
 pg:∀ q,0≤q→q<P→q≠bp→pgAt (sh P) w.ws q=rOwn t q
 sl:∀ q,0≤q→q<P→q≠bp→Rw.Zs (sh P) w.ws q
 bo:-1≤bp∧(0≤bp→bp<P∧rOwn t bp=0)
 r3:t.dn=false→t.nx≠3
 r2:t.dn=false→t.nx=2→0≤bp∧bp=t.at'∧pgAt (sh P) w.ws bp=super K 1∧∃ q,t.st=some q∧q.i=0∧q.bk=false∧0≤q.k∧q.k≤3
 r1:bp=-1→t.hd=0∧(t.dn=false→t.nx≠4)∧(t.dn=true→t.fd=true∨P<n)
 r0:P<n→t.dn=true∧t.fd=false
 hb:0≤t.hd∧t.hd≤P+8
 ph:Bp P K f u w.ws bp
end
section
variable {P n K f bp:Int} {t:Rn} {u:Sk} {w:Wd}
end
end Rk
end Go.Ma
