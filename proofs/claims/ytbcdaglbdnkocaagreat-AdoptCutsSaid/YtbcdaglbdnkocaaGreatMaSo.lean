/-
What is taken out of a sound heap: a block that is given, a row of pages that is claimed. Conditions: none.
Who gives, alone in a sound heap: each step keeps it sound; what is given, and what not. Conditions: none.
One alone in a sound heap, plain: its blocks, one behind the other; a block that is reserved, and its commit. Conditions: none.
One that reserves, alone in a sound heap, plain: all is sound at each step; what it has at the end, what each page is then. Conditions: none.
Another block in place of one, plain: the machine that reserves, gives, and commits or undoes. Conditions: none.
Over any words: what one does that reserves, and undoes, touches no block. Conditions: none.
One that undoes, one that renews, alone in a sound heap, plain: how far it is, what there is at the end. Conditions: none.
Rows of blocks, one behind the other, plain: what is in them says which they are; a renewal's end in a sound heap. Conditions: none.
Who adopts: alone, two at once, in parts. Conditions: none.
The document's count of a heap's words, plain. Conditions: none.
What an adoption frees, counted: plain. Conditions: none.
One who runs an operation, alone in a sound heap: plain; the heap is sound at each step. Conditions: none.
-/
import Derived.Test.YtbcdaglbdnkocaaGreatMaSeekMore
import Derived.Test.YtbcdaglbdnkocaaGreatMaRun
import Derived.Test.YtbcdaglbdnkocaaGreatMaTake
import Derived.Test.YtbcdaglbdnkocaaGreatMaGive
import Derived.Test.YtbcdaglbdnkocaaGreatMaBase
import Derived.Test.YtbcdaglbdnkocaaGreatMaPS
import Derived.Test.YtbcdaglbdnkocaaGreatMaMI
set_option linter.unusedVariables false
set_option linter.unusedSectionVars false
set_option linter.unusedSimpArgs false
namespace Go.Ma
open Go.Pl
section
variable {s:Sh} {ws0 ws:Nat→Int} {pg A i c sl x:Int}
structure LX (s:Sh) (ws0:Nat→Int) (pg A c i:Int) (ws:Nat→Int):Prop where
 hd:pgAt s ws pg=held c∨(pgAt s ws pg=0∧i=A - 1)
 em:∀ j,1≤j→j≤i→pgAt s ws (pg+j)=0
 ot:∀ q,0≤q→q<s.p→q≠pg→¬ (pg<q∧q≤pg+i)→pgAt s ws q=pgAt s ws0 q
 sl:∀ q j,0≤q→q<s.p→0≤j→j<16→slAt s ws q j=slAt s ws0 q j
 mg:∀ c' j,0≤c'→c'<s.c→0≤j→j<s.m→mgAt s ws c' j=mgAt s ws0 c' j
section
variable (hm:may s.p s.c s.m=true) (hsn:Snd s ws0) (p0:0≤pg) (p1:pg<s.p) (hk:pgK s pg (pgAt s ws0 pg)=3) (hA:pgA s pg (pgAt s ws0 pg)=A) (c0:0≤c) (c1:c<s.c) (i0:0≤i) (i1:i<A)
include hm hsn p0 p1 hk hA
theorem row_body {j:Int} (j0:1≤j) (j1:j<A):pgK s (pg+j) (pgAt s ws0 (pg+j))=4∧pgA s (pg+j) (pgAt s ws0 (pg+j))=pg:=by
 obtain⟨e1,e2⟩:=hsn.pg pg.toNat (by omega)
 rw[show((pg.toNat:Nat):Int)=pg by omega]at e1 e2
 exact e2.lar (by rw[hk];rfl) (by rw[hk];rfl) (by rw[hk];rfl) (by rw[hk];rfl) j j0 (by rw[hA];exact j1)
theorem row_bd:1≤A∧A≤8∧pg+A≤s.p:=by
 rw[← hA];exact large_bd (pgK_ne (by rw[hk];decide)) hk
include c0 c1 i0 i1
theorem LX.snd (h:LX s ws0 pg A c i ws):Snd s ws:=by
 have hb:=(may_iff _ _ _).1 hm
 have hr:=row_bd hm hsn p0 p1 hk hA
 have hbody:=fun j j0 j1=>row_body hm hsn p0 p1 hk hA (j:=j) j0 j1
 -- what a page of ws0 that is none of the row says is said still
 have keep:∀ q,0≤q→q<s.p→(pgAt s ws q=pgAt s ws0 q∧q≠pg∧¬ (pg<q∧q≤pg+i))∨q=pg∨(pg<q∧q≤pg+i∧pgAt s ws q=0∧pgK s q (pgAt s ws0 q)=4∧pgA s q (pgAt s ws0 q)=pg):=fun q q0 q1=>by
  by_cases e:q=pg
  ·exact .inr (.inl e)
  ·by_cases e2:pg<q∧q≤pg+i
   ·right;right
    have h1:=h.em (q - pg) (by omega) (by omega)
    have h2:=hbody (q - pg) (by omega) (by omega)
    rw[show pg+(q - pg)=q by omega]at h1 h2
    exact⟨e2.1,e2.2,h1,h2.1,h2.2⟩
   ·exact .inl ⟨h.ot q q0 q1 e e2,e,e2⟩
 have zero:∀ q:Nat,(q:Int)<s.p→pgAt s ws q=0→(pgK s q (pgAt s ws0 q)=3∨pgK s q (pgAt s ws0 q)=4)→okPg s q (pgAt s ws q)=true∧SpB s ws q (pgK s q (pgAt s ws q)) (pgA s q (pgAt s ws q)):=fun q q1 hz hkq=>by
  rw[hz,pgK_zero]
  refine⟨okPg_zero hm (by omega) q1,SpB.oth rfl (fun j hj=>?_) rfl rfl⟩
  rw[h.sl q j (by omega) q1 (by omega) (by omega)]
  exact(hsn.pg q q1).2.emp (by rcases hkq with e | e<;>rw[e]<;>rfl) (by rcases hkq with e | e<;>rw[e]<;>rfl) j hj
 refine⟨fun q q1=>?_,fun c' j h1 h2 hx=>?_,fun c' j c'' j' h1 h2 h3 ha hx hy=>?_⟩
 ·obtain⟨e1,e2⟩:=hsn.pg q q1
  rcases keep q (by omega) q1 with⟨e,n1,n2⟩| e |⟨g1,g2,g3,g4,g5⟩
  ·rw[e]
   refine⟨e1,⟨fun k j hj=>?_,fun k k' j hj=>?_,fun k k' k4=>?_,fun k k' k4 k3 j j1 j2=>?_⟩⟩
   ·rw[h.sl q j (by omega) q1 (by omega) (by omega)];exact e2.sup k j hj
   ·rw[h.sl q j (by omega) q1 (by omega) (by omega)];exact e2.emp k k' j hj
   ·have hbo:=Ad.ok_body e1 (beq_iff_eq.1 k4)
    have hbd:=e2.bod k k' k4
    obtain⟨A',hA'⟩:∃ A',pgA s q (pgAt s ws0 q)=A':=⟨_,rfl⟩
    rw[hA']at hbo hbd ⊢
    rcases keep A' hbo.1 (by omega) with⟨e3,-,-⟩| e3 |⟨g1,g2,g3,g4,g5⟩
    ·rw[e3];exact hbd
    ·subst e3
     rcases h.hd with hh |⟨hh,hi⟩
     ·rw[hh,(held_ok hm hbo.1 (by omega) c0 c1).2.1];rfl
     ·exfalso
      rw[hk,hA]at hbd
      have hq:(q:Int)<A'+A:=by simpa using hbd
      exact n2 ⟨hbo.2.1,by omega⟩
    ·rw[g4]at hbd;simp at hbd
   ·have hl:=large_bd e1 (beq_iff_eq.1 k3)
    have he:=e2.lar k k' k4 k3 j j1 j2
    rcases keep (q+j) (by omega) (by omega) with⟨e3,-,-⟩| e3 |⟨g1,g2,g3,g4,g5⟩
    ·rw[e3];exact he
    ·rw[e3,hk]at he;exact absurd he.1 (by decide)
    ·rw[g5]at he;exact absurd he.2.symm n1
  ·rcases h.hd with hh |⟨hh,hi⟩
   ·rw[e,hh]
    have ho:=held_ok hm p0 p1 c0 c1
    exact⟨ho.1,SpB.one (by rw[ho.2.1];rfl) (by rw[ho.2.1];rfl)⟩
   ·exact zero q q1 (by rw[e];exact hh) (.inl (by rw[e];exact hk))
  ·exact zero q q1 g3 (.inr g4)
 ·rw[h.mg c' j (by omega) h1 (by omega) h2]at hx ⊢
  obtain⟨e1,e2,e3,e4⟩:=hsn.en c' j h1 h2 hx
  have hE:=en_bd e1
  have hpg:pgAt s ws (enP s (mgAt s ws0 c' j))=pgAt s ws0 (enP s (mgAt s ws0 c' j)):=by
   rcases keep _ hE.1 hE.2.1 with⟨e5,-,-⟩| e5 |⟨g1,g2,g3,g4,g5⟩
   ·exact e5
   ·rw[e5,hk]at e2;cases e2
   ·rw[g4]at e2;cases e2
  exact⟨e1,by rw[hpg];exact e2,by rw[hpg];exact e3,by rw[h.sl _ _ hE.1 hE.2.1 hE.2.2.1 hE.2.2.2];exact e4⟩
 ·have hc':(c'':Int)<s.c:=by unfold ahead at ha;omega
  rw[h.mg c' j (by omega) h1 (by omega) h2]at hx ⊢
  rw[h.mg c'' j' (by omega) hc' (by omega) h3]at hy ⊢
  exact hsn.dj c' j c'' j' h1 h2 h3 ha hx hy
end
structure SX (s:Sh) (ws0:Nat→Int) (pg sl A c x:Int) (e:Option Int) (ws:Nat→Int):Prop where
 xx:x=way c∨(x=opn A∧e=none)
 at':slAt s ws pg sl=x
 pg':∀ q,0≤q→q<s.p→pgAt s ws q=pgAt s ws0 q
 sl':∀ q j,0≤q→q<s.p→0≤j→j<16→¬ (q=pg∧j=sl)→slAt s ws q j=slAt s ws0 q j
 mg:∀ c' j,0≤c'→c'<s.c→0≤j→j<s.m→mgAt s ws c' j=mgAt s ws0 c' j∨(c'=c∧e=some j∧mgAt s ws c' j=putEn pg sl A∧mgAt s ws0 c' j=0)
theorem SX.snd {e:Option Int} (hm:may s.p s.c s.m=true) (hsn:Snd s ws0) (p0:0≤pg) (p1:pg<s.p) (hk:pgK s pg (pgAt s ws0 pg)=2) (hA:pgA s pg (pgAt s ws0 pg)=A) (s0:0≤sl) (s1:sl<slots A) (c0:0≤c) (c1:c<s.c) (ht:slAt s ws0 pg sl=taken A)
  (h:SX s ws0 pg sl A c x e ws):Snd s ws:=by
 have hb:=(may_iff _ _ _).1 hm
 have hAs:=Gv.ok_super (pgK_ne (s:=s) (q:=pg) (x:=pgAt s ws0 pg) (by rw[hk];decide)) hk
 rw[hA]at hAs
 have hsl:=slots_four hAs.1 hAs.2.1
 have tn:=taken_ne A hAs.1 (by omega)
 have wn:=way_ne c c0 (by omega)
 have on:=opn_ne A hAs.1 (by omega)
 have hxe:e≠none→x=way c:=fun hne=>by
  rcases h.xx with h | h
  ·exact h
  ·exact absurd h.2 hne
 -- what an old entry says is there still
 have old:∀ c' j:Nat,(c':Int)<s.c→(j:Int)<s.m→mgAt s ws0 c' j≠0→EnB s ws c' (mgAt s ws0 c' j)∧¬ (enP s (mgAt s ws0 c' j)=pg∧enS s (mgAt s ws0 c' j)=sl):=fun c' j h1 h2 hx=>by
  obtain⟨e1,e2,e3,e4⟩:=hsn.en c' j h1 h2 hx
  have hE:=en_bd e1
  have hne:¬ (enP s (mgAt s ws0 c' j)=pg∧enS s (mgAt s ws0 c' j)=sl):=fun ⟨g1,g2⟩=>by
   rw[g1,g2,ht]at e4
   have:=congrArg slK e4
   rw[tn.2.1]at this
   have h5:=(way_ne c' (by omega) (by omega)).2.1
   unfold way at h5
   rw[h5]at this;cases this
  exact⟨⟨e1,by rw[h.pg' _ hE.1 hE.2.1];exact e2,by rw[h.pg' _ hE.1 hE.2.1];exact e3,by rw[h.sl' _ _ hE.1 hE.2.1 hE.2.2.1 hE.2.2.2 hne];exact e4⟩,hne⟩
 have hen:=en_put hm p0 p1 s0 s1 hAs.1 hAs.2.1
 refine⟨fun q q1=>?_,fun c' j h1 h2 hx=>?_,fun c' j c'' j' h1 h2 h3 ha hx hy=>?_⟩
 ·obtain⟨e1,e2⟩:=hsn.pg q q1
  rw[h.pg' q (by omega) q1]
  refine⟨e1,⟨fun k j hj=>?_,fun k k' j hj=>?_,fun k k' k4=>?_,fun k k' k4 k3 j j1 j2=>?_⟩⟩
  ·by_cases hq:(q:Int)=pg∧(j:Int)=sl
   ·obtain⟨g1,g2⟩:=hq
    rw[g1,g2,h.at',hA]
    unfold slB
    rw[decide_eq_true s1]
    rcases h.xx with hx |⟨hx,-⟩
    ·rw[hx,wn.2.1,wn.2.2];simp;exact c1
    ·rw[hx,on.2.1,on.2.2];simp
   ·rw[h.sl' q j (by omega) q1 (by omega) (by omega) hq];exact e2.sup k j hj
  ·have hq:¬ ((q:Int)=pg∧(j:Int)=sl):=fun hg=>by rw[hg.1,hk]at k;cases k
   rw[h.sl' q j (by omega) q1 (by omega) (by omega) hq];exact e2.emp k k' j hj
  ·have hbo:=Ad.ok_body e1 (beq_iff_eq.1 k4)
   rw[h.pg' _ hbo.1 (by omega)];exact e2.bod k k' k4
  ·have hl:=large_bd e1 (beq_iff_eq.1 k3)
   rw[h.pg' _ (by omega) (by omega)];exact e2.lar k k' k4 k3 j j1 j2
 ·rcases h.mg c' j (by omega) h1 (by omega) h2 with e1 |⟨g1,g2,g3,g4⟩
  ·rw[e1]at hx ⊢
   exact(old c' j h1 h2 hx).1
  ·rw[g3]
   refine⟨hen.1,?_,?_,?_⟩
   ·rw[hen.2.1,h.pg' _ p0 p1];exact hk
   ·rw[hen.2.1,h.pg' _ p0 p1,hen.2.2.2.1];exact hA
   ·rw[hen.2.1,hen.2.2.1,h.at',hxe (by rw[g2];exact Option.some_ne_none _),g1];rfl
 ·have hc':(c'':Int)<s.c:=by unfold ahead at ha;omega
  rcases h.mg c' j (by omega) h1 (by omega) h2 with e1 |⟨g1,g2,g3,g4⟩
  ·rcases h.mg c'' j' (by omega) hc' (by omega) h3 with e2 |⟨k1,k2,k3,k4⟩
   ·rw[e1]at hx ⊢
    rw[e2]at hy ⊢
    exact hsn.dj c' j c'' j' h1 h2 h3 ha hx hy
   ·rw[e1]at hx ⊢
    rw[k3,hen.2.1,hen.2.2.1]
    exact fun ⟨q1,q2⟩=>(old c' j h1 h2 hx).2 ⟨q1.symm,q2.symm⟩
  ·rcases h.mg c'' j' (by omega) hc' (by omega) h3 with e2 |⟨k1,k2,k3,k4⟩
   ·rw[e2]at hy ⊢
    rw[g3,hen.2.1,hen.2.2.1]
    exact(old c'' j' hc' h3 hy).2
   ·exfalso
    rw[g2]at k2
    injection k2 with k2
    unfold ahead at ha;omega
end
end Go.Ma
namespace Go.Ma
open Go.Pl
section
variable {s:Sh} {ws ws':Nat→Int}
theorem blkPg_mem {p:Nat} {y:Int×Int} (h:y∈blkPg s ws p):(pgK s p (pgAt s ws p)=3∧y=((p:Int)*64,pgA s p (pgAt s ws p)*64))∨(pgK s p (pgAt s ws p)=2∧∃ i:Nat,(i:Int)<slots (pgA s p (pgAt s ws p))∧slK (slAt s ws p i)=3∧y=((p:Int)*64+i*size (pgA s p (pgAt s ws p)),size (pgA s p (pgAt s ws p)))):=by
 unfold blkPg at h
 split at h
 ·rename_i h3;exact .inl ⟨h3,by simpa using h⟩
 ·split at h
  ·rename_i h2
   obtain⟨i,h4,h5,h6⟩:=blkSl_mem.1 h
   exact .inr ⟨h2,i,by omega,h5,h6⟩
  ·cases h
theorem blkPg_in {p:Nat} {y:Int×Int} (h:y∈blkPg s ws p):(p:Int)*64≤y.1∧y.1<(p:Int)*64+64:=by
 rcases blkPg_mem h with⟨-,rfl⟩|⟨h2,i,h3,-,rfl⟩
 ·show(p:Int)*64≤(p:Int)*64∧(p:Int)*64<(p:Int)*64+64;omega
 ·have hA:=Gv.ok_super (pgK_ne (s:=s) (q:=p) (x:=pgAt s ws p) (by rw[h2];decide)) h2
  have hs:=slots_four hA.1 hA.2.1
  show(p:Int)*64≤(p:Int)*64+i*size _∧(p:Int)*64+i*size _<(p:Int)*64+64
  have h4:=Int.mul_le_mul_of_nonneg_right (by omega:(i:Int)+1≤slots (pgA s p (pgAt s ws p))) (by omega:0≤size (pgA s p (pgAt s ws p)))
  rw[Int.add_mul]at h4
  have h5:=Int.mul_nonneg (by omega:0≤(i:Int)) (by omega:0≤size (pgA s p (pgAt s ws p)))
  omega
theorem blks_mem {y:Int×Int}:∀ {n:Nat},y∈blks s ws n↔∃ p:Nat,p<n∧y∈blkPg s ws p
 | 0=>by simp [blks]
 |n+1=>by
  unfold blks
  rw[List.mem_append,blks_mem (n:=n)]
  constructor
  ·rintro(⟨p,h1,h2⟩| h)
   ·exact⟨p,by omega,h2⟩
   ·exact⟨n,by omega,h⟩
  ·rintro⟨p,h1,h2⟩
   by_cases e:p=n
   ·subst e;exact .inr h2
   ·exact .inl ⟨p,by omega,h2⟩
theorem blks_split (p:Nat):∀ n,p<n→∃ R:List (Int×Int),(∀ y∈R,∃ q:Nat,p<q∧y∈blkPg s ws q)∧blks s ws n=blks s ws p ++ blkPg s ws p ++ R∧∀ ws',(∀ q:Nat,q<n→q≠p→blkPg s ws' q=blkPg s ws q)→blks s ws' n=blks s ws p ++ blkPg s ws' p ++ R
 | 0,h=>by omega
 |n+1,h=>by
  by_cases e:p=n
  ·subst e
   refine⟨[],by simp,by simp [blks],fun ws' hw=>?_⟩
   have:blks s ws' p=blks s ws p:=blks_congr fun q hq=>hw q (by omega) (by omega)
   simp [blks,this]
  ·obtain⟨R,h1,h2,h3⟩:=blks_split p n (by omega)
   refine⟨R ++ blkPg s ws n,fun y hy=>?_,?_,fun ws' hw=>?_⟩
   ·rcases List.mem_append.1 hy with hy | hy
    ·exact h1 y hy
    ·exact⟨n,by omega,hy⟩
   ·show blks s ws n ++ blkPg s ws n=_
    rw[h2];simp
   ·show blks s ws' n ++ blkPg s ws' n=_
    rw[h3 ws' fun q hq hne=>hw q (by omega) hne,hw n (by omega) (by omega)];simp
theorem blkSl_split {p A:Int} (i:Nat):∀ n,i<n→∃ R:List (Int×Int),(∀ y∈R,∃ j:Nat,i<j∧j<n∧y=(p*64+j*size A,size A))∧blkSl s ws p A n=blkSl s ws p A i ++ (if slK (slAt s ws p i)=3 then [(p*64+i*size A,size A)] else []) ++ R ∧
  ∀ ws',(∀ j:Nat,j<n→j≠i→(slK (slAt s ws' p j)=3↔slK (slAt s ws p j)=3))→slK (slAt s ws' p i)≠3→blkSl s ws' p A n=blkSl s ws p A i ++ R
 | 0,h=>by omega
 |n+1,h=>by
  by_cases e:i=n
  ·subst e
   refine⟨[],by simp,by simp [blkSl],fun ws' hw hn=>?_⟩
   have:blkSl s ws' p A i=blkSl s ws p A i:=blkSl_congr fun j hj=>hw j (by omega) (by omega)
   simp [blkSl,this,hn]
  ·obtain⟨R,h1,h2,h3⟩:=blkSl_split (p:=p) (A:=A) i n (by omega)
   refine⟨R ++ (if slK (slAt s ws p n)=3 then [(p*64+n*size A,size A)] else []),fun y hy=>?_,?_,fun ws' hw hn=>?_⟩
   ·rcases List.mem_append.1 hy with hy | hy
    ·obtain⟨j,j1,j2,j3⟩:=h1 y hy;exact⟨j,j1,by omega,j3⟩
    ·split at hy
     ·exact⟨n,by omega,by omega,by simpa using hy⟩
     ·cases hy
   ·show blkSl s ws p A n ++ _=_
    rw[h2];simp only[List.append_assoc]
   ·show blkSl s ws' p A n ++ _=_
    rw[h3 ws' (fun j hj hne=>hw j (by omega) hne) hn]
    have:=hw n (by omega) (by omega)
    by_cases e3:slK (slAt s ws p n)=3
    ·rw[if_pos e3,if_pos (this.2 e3)];simp
    ·rw[if_neg e3,if_neg fun x=>e3 (this.1 x)];simp
def Out (l l':List (Int×Int)) (a:Int):Prop:=∃ pre post y,l=pre ++ [y] ++ post∧l'=pre ++ post∧y.1=a∧(∀ z∈pre,z.1≠a)∧∀ z∈post,z.1≠a
theorem page_out {p n:Nat} (hp:p<n) (hw:∀ q:Nat,q<n→q≠p→blkPg s ws' q=blkPg s ws q) {a:Int} (ho:Out (blkPg s ws p) (blkPg s ws' p) a):Out (blks s ws n) (blks s ws' n) a:=by
 obtain⟨R,h1,h2,h3⟩:=blks_split (s:=s) (ws:=ws) p n hp
 obtain⟨pre,post,y,e1,e2,e3,e4,e5⟩:=ho
 have hy:y∈blkPg s ws p:=by rw[e1];simp
 have hya:=blkPg_in hy
 rw[e3]at hya
 refine⟨blks s ws p ++ pre,post ++ R,y,?_,?_,e3,fun z hz=>?_,fun z hz=>?_⟩
 ·rw[h2,e1];simp
 ·rw[h3 ws' hw,e2];simp
 ·rcases List.mem_append.1 hz with hz | hz
  ·obtain⟨q,q1,q2⟩:=blks_mem.1 hz
   have:=blkPg_in q2;omega
  ·exact e4 z hz
 ·rcases List.mem_append.1 hz with hz | hz
  ·exact e5 z hz
  ·obtain⟨q,q1,q2⟩:=h1 z hz
   have:=blkPg_in q2;omega
end
section
variable {s:Sh} {ws0 ws:Nat→Int} {pg A i c sl x:Int}
theorem LX.out {P n:Nat} (hm:may s.p s.c s.m=true) (hsn:Snd s ws0) (hP:(P:Int)=pg) (p1:pg<s.p) (hn:P<n) (hn2:(n:Int)≤s.p) (hk:pgK s pg (pgAt s ws0 pg)=3) (hA:pgA s pg (pgAt s ws0 pg)=A) (c0:0≤c) (c1:c<s.c) (i0:0≤i) (i1:i<A) (h:LX s ws0 pg A c i ws) :
  Out (blks s ws0 n) (blks s ws n) (pg*64):=by
 subst hP
 refine page_out (p:=P) hn (fun q hq hne=>?_) ?_
 ·by_cases e:(P:Int)<q∧(q:Int)≤P+i
  ·have hb:=row_body hm hsn (by omega) p1 hk hA (j:=(q:Int) - P) (by omega) (by omega)
   have hz:=h.em ((q:Int) - P) (by omega) (by omega)
   rw[show(P:Int)+((q:Int) - P)=q by omega]at hb hz
   rw[blkPg_none (by rw[hz,pgK_zero];decide) (by rw[hz,pgK_zero];decide),blkPg_none (by rw[hb.1];decide) (by rw[hb.1];decide)]
  ·have hq2:=h.ot q (by omega) (by omega) (by omega) e
   exact blkPg_congr (by rw[hq2]) (fun _=>by rw[hq2]) fun _ j hj=>by rw[h.sl q j (by omega) (by omega) (by omega) (by omega)]
 ·have h1:blkPg s ws0 P = [((P:Int)*64,A*64)]:=by unfold blkPg;rw[if_pos hk,hA]
  have h2:blkPg s ws P = []:=by
   rcases h.hd with hh |⟨hh,-⟩
   ·have ho:=held_ok hm (by omega:(0:Int)≤P) p1 c0 c1
    exact blkPg_none (by rw[hh,ho.2.1];decide) (by rw[hh,ho.2.1];decide)
   ·exact blkPg_none (by rw[hh,pgK_zero];decide) (by rw[hh,pgK_zero];decide)
  rw[h1,h2]
  exact⟨[],[],_,rfl,rfl,rfl,by simp,by simp⟩
theorem SX.out {e:Option Int} {P n:Nat} (hm:may s.p s.c s.m=true) (hP:(P:Int)=pg) (p1:pg<s.p) (hn:P<n) (hn2:(n:Int)≤s.p) (hk:pgK s pg (pgAt s ws0 pg)=2) (hA:pgA s pg (pgAt s ws0 pg)=A) (s0:0≤sl) (s1:sl<slots A) (c0:0≤c) (c1:c<s.c) (ht:slAt s ws0 pg sl=taken A)
  (h:SX s ws0 pg sl A c x e ws):Out (blks s ws0 n) (blks s ws n) (pg*64+sl*size A):=by
 have hb:=(may_iff _ _ _).1 hm
 subst hP
 have hAs:=Gv.ok_super (pgK_ne (s:=s) (q:=P) (x:=pgAt s ws0 P) (by rw[hk];decide)) hk
 rw[hA]at hAs
 have hs4:=slots_four hAs.1 hAs.2.1
 have tn:=taken_ne A hAs.1 (by omega)
 have wn:=way_ne c c0 (by omega)
 have on:=opn_ne A hAs.1 (by omega)
 obtain⟨j,rfl⟩:∃ j:Nat,sl=j:=⟨sl.toNat,by omega⟩
 refine page_out (p:=P) hn (fun q hq hne=>?_) ?_
 ·have hq2:=h.pg' q (by omega) (by omega)
  exact blkPg_congr (by rw[hq2]) (fun _=>by rw[hq2]) fun _ i hi=>by rw[h.sl' q i (by omega) (by omega) (by omega) (by omega) (by omega)]
 ·obtain⟨R,h1,h2,h3⟩:=blkSl_split (s:=s) (ws:=ws0) (p:=P) (A:=A) j (slots A).toNat (by omega)
  have e1:blkPg s ws0 P=blkSl s ws0 P A (slots A).toNat:=by unfold blkPg;rw[if_neg (by rw[hk];decide),if_pos hk,hA]
  have e2:blkPg s ws P=blkSl s ws P A (slots A).toNat:=by
   have hq:=h.pg' P (by omega) p1
   unfold blkPg;rw[hq,if_neg (by rw[hk];decide),if_pos hk,hA]
  have h4:=h3 ws (fun i hi hne=>by rw[h.sl' P i (by omega) p1 (by omega) (by omega) (by omega)]) (by
   rw[h.at']
   rcases h.xx with hx |⟨hx,-⟩
   ·rw[hx,wn.2.1];decide
   ·rw[hx,on.2.1];decide)
  rw[ht,tn.2.1,if_pos rfl]at h2
  rw[e1,e2,h2,h4]
  have mono:∀ u v:Int,u<v→(P:Int)*64+u*size A≠P*64+v*size A:=fun u v huv=>by
   have:=Int.mul_le_mul_of_nonneg_right (by omega:u+1≤v) (by omega:0≤size A)
   rw[Int.add_mul]at this
   omega
  refine⟨blkSl s ws0 P A j,R,_,rfl,rfl,rfl,fun z hz=>?_,fun z hz=>?_⟩
  ·obtain⟨i,hi,-,rfl⟩:=blkSl_mem.1 hz
   exact mono i j (by omega)
  ·obtain⟨i,hi,hi2,rfl⟩:=h1 z hz
   exact fun e=>mono j i (by omega) e.symm
end
end Go.Ma
namespace Go.Ma
open Go.Pl
namespace Rw
section
variable (s:Sh) (ws0:Nat→Int) (c n:Int) (ws:Nat→Int)
def Lo (hd:Int):Prop:=∀ q,0≤q→q<hd→Un s ws0 ws q∨Em s ws0 ws q
def Hi (a:Int):Prop:=∀ q,a≤q→q<s.p→Un s ws0 ws q
def No (hd:Int):Prop:=∀ h,0≤h→h<hd→∃ q,h≤q∧q<h+n∧¬ Free s ws0 q
def Hs (a b:Int):Prop:=∀ q,a≤q→q<b→Hl s ws0 c ws q
inductive Ph (hd at' i nx:Int) (st:Option St) (fd dn:Bool):Prop
 | look (d:dn=false) (x:nx=0) (h:Hs s ws0 c ws hd at') (u:Hi s ws0 ws at')
 | claim (d:dn=false) (x:nx=1) (h:Hs s ws0 c ws hd at') (u:Hi s ws0 ws at') (z:pgAt s ws0 at'=0)
 | strip (q:St) (d:dn=false) (x:nx=2) (h:Hs s ws0 c ws hd at') (u:Hi s ws0 ws (at'+1)) (e:st=some q) (k:q.k=pgA s at' (pgAt s ws0 at')) (t:Tr s ws0 c ws at' q.i) (b:q.bk=true→¬ Free s ws0 at')
 | clear (d:dn=false) (x:nx=3) (h:Hs s ws0 c ws hd at') (u:Hi s ws0 ws (at'+1)) (l:Cl s ws0 c ws at' i)
 | back (d:dn=false) (x:nx=4) (h:Hs s ws0 c ws hd i) (e:∀ q,i≤q→q<at'→Em s ws0 ws q) (u:Hi s ws0 ws at') (f:¬ Free s ws0 at')
 | body (d:dn=false) (x:nx=5) (a:at'=hd+n) (l:hd<i) (hh:Hl s ws0 c ws hd) (e:∀ q,hd<q→q<i→Bo s ws0 ws q hd) (h:Hs s ws0 c ws i at') (u:Hi s ws0 ws at')
 | won (d:dn=true) (f:fd=true) (nn:1≤n∧n≤8∧0≤hd∧hd+n≤s.p) (hh:Hl s ws0 c ws hd) (e:∀ q,hd<q→q<hd+n→Bo s ws0 ws q hd) (u:Hi s ws0 ws (hd+n))
 | lost (d:dn=true) (f:fd=false) (a:Lo s ws0 ws s.p) (o:∀ h,0≤h→h+n≤s.p→∃ q,h≤q∧q<h+n∧¬ Free s ws0 q)
def Go' (t:Rn):Prop:=(t.fd=true∨t.dn=false→Lo s ws0 ws t.hd∧No s ws0 n t.hd)∧Ph s ws0 c n ws t.hd t.at' t.i t.nx t.st t.fd t.dn
end
section
variable {s:Sh} {ws0 ws ws':Nat→Int} {c n:Int} {t:Rn}
theorem written_ok (hd:t.dn=false) (hx:t.nx=5) (hn:1≤n∧n≤8∧0≤t.hd∧t.hd+n≤s.p) (htn:t.n=n) (a:t.at'=t.hd+n) (l:t.hd≤t.i) (l2:t.i<t.hd+n) (lo:Lo s ws0 ws t.hd) (no:No s ws0 n t.hd)
  (hh:Hl s ws0 c ws t.hd) (e:∀ q,t.hd<q→q<t.i+1→Bo s ws0 ws q t.hd) (h:Hs s ws0 c ws (t.i+1) t.at') (u:Hi s ws0 ws t.at'):Go' s ws0 c n ws t.written:=by
 unfold Rn.written
 split
 ·rename_i h1
  rw[htn]at h1
  exact⟨fun _=>⟨lo,no⟩,.won rfl rfl hn hh (fun q q0 q1=>e q q0 (by have q1:q<t.hd+n:=q1;omega)) (by rw[a]at u;exact u)⟩
 ·exact⟨fun _=>⟨lo,no⟩,.body hd hx a (by show t.hd<t.i+1;omega) hh e h u⟩
theorem own_ok (hd:t.dn=false) (hn:1≤n∧n≤8∧0≤t.hd∧t.hd+n≤s.p) (htn:t.n=n) (a0:t.hd≤t.at') (a1:t.at'<t.hd+n) (lo:Lo s ws0 ws t.hd) (no:No s ws0 n t.hd)
  (h:Hs s ws0 c ws t.hd (t.at'+1)) (u:Hi s ws0 ws (t.at'+1)):Go' s ws0 c n ws t.own:=by
 unfold Rn.own
 split
 ·rename_i h1
  rw[htn]at h1
  exact written_ok (t:={ t with at':=t.at'+1,nx:=5,i:=t.hd }) hd rfl hn htn h1 (Int.le_refl _) (by show t.hd<t.hd+n;omega) lo no (h t.hd (Int.le_refl _) (by omega)) (fun q q0 q1=>by have q0:t.hd<q:=q0;have q1:q<t.hd+1:=q1;omega)
   (fun q q0 q1=>h q (by have q0:t.hd+1≤q:=q0;omega) q1) u
 ·exact⟨fun _=>⟨lo,no⟩,.look hd rfl h u⟩
theorem gone_ok (hd:t.dn=false) (hf:t.fd=false) (hx:t.nx=4) (hs:t.s=s) (hn:1≤n∧n≤8∧0≤t.hd∧t.hd+n≤s.p) (htn:t.n=n) (a0:t.hd≤t.at') (a1:t.at'<t.hd+n) (lo:Lo s ws0 ws t.hd) (no:No s ws0 n t.hd)
  (h:Hs s ws0 c ws t.hd t.i) (e:∀ q,t.i≤q→q<t.at'→Em s ws0 ws q) (u:Hi s ws0 ws t.at') (f:¬ Free s ws0 t.at'):Go' s ws0 c n ws t.gone:=by
 unfold Rn.gone
 split
 ·exact⟨fun _=>⟨lo,no⟩,.back hd hx h e u f⟩
 ·rename_i h1
  have lo':Lo s ws0 ws (t.at'+1):=fun q q0 q1=>by
   by_cases g:q<t.hd
   ·exact lo q q0 g
   ·by_cases g2:q=t.at'
    ·exact .inl (u q (by omega) (by omega))
    ·exact .inr (e q (by omega) (by omega))
  have no':No s ws0 n (t.at'+1):=fun h h0 h1=>by
   by_cases g:h<t.hd
   ·exact no h h0 g
   ·exact⟨t.at',by omega,by omega,f⟩
  rw[hs,htn]
  cases hz:decide (s.p - n<t.at'+1)
  ·exact⟨fun _=>⟨lo',no'⟩,.look rfl rfl (fun q q0 q1=>by have q0:t.at'+1≤q:=q0;have q1:q<t.at'+1:=q1;omega) fun q q0 q1=>u q (by have q0:t.at'+1≤q:=q0;omega) q1⟩
  ·have hz:=of_decide_eq_true hz
   refine⟨fun g=>?_,.lost rfl hf (fun q q0 q1=>?_) fun h h0 h1=>no' h h0 (by omega)⟩
   ·rcases g with g | g
    ·have g:t.fd=true:=g
     rw[hf]at g;cases g
    ·cases g
   ·by_cases g:q<t.at'+1
    ·exact lo' q q0 g
    ·exact .inl (u q (by omega) q1)
theorem miss_ok (hd:t.dn=false) (hf:t.fd=false) (hs:t.s=s) (hn:1≤n∧n≤8∧0≤t.hd∧t.hd+n≤s.p) (htn:t.n=n) (a0:t.hd≤t.at') (a1:t.at'<t.hd+n) (lo:Lo s ws0 ws t.hd) (no:No s ws0 n t.hd)
  (h:Hs s ws0 c ws t.hd t.at') (u:Hi s ws0 ws t.at') (f:¬ Free s ws0 t.at'):Go' s ws0 c n ws t.miss:=
 gone_ok (t:={ t with nx:=4,i:=t.at',gx:=t.at'+1 }) hd hf rfl hs hn htn a0 a1 lo no h (fun q q0 q1=>by have q0:t.at'≤q:=q0;have q1:q<t.at':=q1;omega) u f
structure Al (s:Sh) (ws0:Nat→Int) (c n:Int) (t:Rn) (w:Wd):Prop where
 of:w.of s
 ok:may s.p s.c s.m=true
 wf:t.wf∧t.s=s∧t.c=c∧t.n=n
 cb:0≤c∧c<s.c
 snd:Snd s ws0
 mg:∀ c' j,0≤c'→c'<s.c→0≤j→j<s.m→mgAt s w.ws c' j=mgAt s ws0 c' j
 go:Go' s ws0 c n w.ws t
variable {w:Wd}
theorem Al.all (h:Al s ws0 c n t w):∀ q,0≤q→q<s.p→Pq s ws0 c w.ws q t.hd:=fun q q0 q1=>by
 have hst:=h.go.1
 have hlo:t.fd=true∨t.dn=false→q<t.hd→Pq s ws0 c w.ws q t.hd:=fun g hq=>by
  rcases (hst g).1 q q0 hq with e | e
  ·exact .u e
  ·exact .e e
 have har:=fun hd=>(h.wf.1.of hd).2.2
 unfold Rn.Ar at har
 rw[h.wf.2.1,h.wf.2.2.2]at har
 cases h.go.2 with
 |look d x hh u=>
  have:=har d
  by_cases g:q<t.hd
  ·exact hlo (.inr d) g
  ·by_cases g2:q<t.at'
   ·exact .h (hh q (by omega) g2).1 (hh q (by omega) g2).2.1
   ·exact .u (u q (by omega) q1)
 |claim d x hh u z=>
  have:=har d
  by_cases g:q<t.hd
  ·exact hlo (.inr d) g
  ·by_cases g2:q<t.at'
   ·exact .h (hh q (by omega) g2).1 (hh q (by omega) g2).2.1
   ·exact .u (u q (by omega) q1)
 |strip q' d x hh u e k tr b=>
  have:=har d
  by_cases g:q<t.hd
  ·exact hlo (.inr d) g
  ·by_cases g2:q<t.at'
   ·exact .h (hh q (by omega) g2).1 (hh q (by omega) g2).2.1
   ·by_cases g3:q=t.at'
    ·subst g3;exact .t _ tr
    ·exact .u (u q (by omega) q1)
 |clear d x hh u l=>
  have:=har d
  by_cases g:q<t.hd
  ·exact hlo (.inr d) g
  ·by_cases g2:q<t.at'
   ·exact .h (hh q (by omega) g2).1 (hh q (by omega) g2).2.1
   ·by_cases g3:q=t.at'
    ·subst g3;exact .h l.1 l.2.1
    ·exact .u (u q (by omega) q1)
 |back d x hh e u f=>
  have:=har d
  by_cases g:q<t.hd
  ·exact hlo (.inr d) g
  ·by_cases g2:q<t.i
   ·exact .h (hh q (by omega) g2).1 (hh q (by omega) g2).2.1
   ·by_cases g3:q<t.at'
    ·exact .e (e q (by omega) g3)
    ·exact .u (u q (by omega) q1)
 |body d x a l hh e h' u=>
  have:=har d
  by_cases g:q<t.hd
  ·exact hlo (.inr d) g
  ·by_cases g0:q=t.hd
   ·rw[g0];exact .h hh.1 hh.2.1
   ·by_cases g2:q<t.i
    ·exact .b (e q (by omega) g2) (by omega) (by omega) (by omega) hh.2.1
    ·by_cases g3:q<t.at'
     ·exact .h (h' q (by omega) g3).1 (h' q (by omega) g3).2.1
     ·exact .u (u q (by omega) q1)
 |won d f nn hh e u=>
  by_cases g:q<t.hd
  ·exact hlo (.inl f) g
  ·by_cases g0:q=t.hd
   ·rw[g0];exact .h hh.1 hh.2.1
   ·by_cases g2:q<t.hd+n
    ·exact .b (e q (by omega) g2) (by omega) (by omega) (by omega) hh.2.1
    ·exact .u (u q (by omega) q1)
 |lost d f a o=>
  rcases a q q0 q1 with e | e
  ·exact .u e
  ·exact .e e
theorem Al.sound (h:Al s ws0 c n t w):Snd s w.ws:=Pq.snd h.ok h.snd h.cb.1 h.cb.2 h.all h.mg
theorem Lo.tr {hd q0:Int} (hq:hd≤q0) (hp:hd≤s.p) (h:Lo s ws0 ws hd) (fr:∀ q,0≤q→q<s.p→q≠q0→Sm s ws q ws'):Lo s ws0 ws' hd:=fun q a0 a1=>
 (h q a0 a1).imp (fun e=>e.tr (fr q a0 (by omega) (by omega))) fun e=>e.tr (fr q a0 (by omega) (by omega))
theorem Hi.tr {a q0:Int} (hq:q0<a) (ha:0≤a) (h:Hi s ws0 ws a) (fr:∀ q,0≤q→q<s.p→q≠q0→Sm s ws q ws'):Hi s ws0 ws' a:=fun q a0 a1=>(h q a0 a1).tr (fr q (by omega) a1 (by omega))
theorem Hs.tr {a b q0:Int} (hq:q0<a∨b≤q0) (ha:0≤a) (hb:b≤s.p) (h:Hs s ws0 c ws a b) (fr:∀ q,0≤q→q<s.p→q≠q0→Sm s ws q ws'):Hs s ws0 c ws' a b:=fun q a0 a1=>(h q a0 a1).tr (fr q (by omega) (by omega) (by omega))
theorem Al.step (h:Al s ws0 c n t w):Al s ws0 c n (t.step w).1 (t.step w).2:=by
 obtain⟨w1,w2,w3,w4⟩:=h.wf
 have hm:=h.ok
 have hc:=h.cb
 have hb:=(may_iff _ _ _).1 hm
 have hk:=Rn.step_k w1 w
 suffices hh:(∀ c' j,0≤c'→c'<s.c→0≤j→j<s.m→mgAt s (t.step w).2.ws c' j=mgAt s ws0 c' j)∧Go' s ws0 c n (t.step w).2.ws (t.step w).1 from
  ⟨Rn.step_of w1 h.of,hm,⟨Rn.step_wf w1 w,hk.1.trans w2,hk.2.1.trans w3,hk.2.2.trans w4⟩,hc,h.snd,hh.1,hh.2⟩
 rcases Rn.step_cases w1 w with⟨-,e⟩|⟨hd,hcs⟩
 ·rw[e];exact⟨h.mg,h.go⟩
 obtain⟨-,hf,har⟩:=w1.of hd
 have hqq:=w1.q hd
 obtain⟨lo,no⟩:=h.go.1 (.inr hd)
 unfold Rn.Ar at har
 rw[w2,w3,w4]at har
 have hnn:1≤n∧n≤8∧0≤t.hd∧t.hd+n≤s.p:=by omega
 have hpat:t.pat=page s.p s.c s.m t.at':=by unfold Rn.pat;rw[w2]
 have hgp:w.get t.pat=pgAt s w.ws t.at':=by rw[hpat];rfl
 have hok:∀ q,0≤q→q<s.p→okPg s q (pgAt s ws0 q)=true:=fun q q0 q1=>by
  have:=(h.snd.pg q.toNat (by omega)).1
  rw[show((q.toNat:Nat):Int)=q by omega]at this;exact this
 have hsp:∀ q,0≤q→q<s.p→SpB s ws0 q (pgK s q (pgAt s ws0 q)) (pgA s q (pgAt s ws0 q)):=fun q q0 q1=>by
  have:=(h.snd.pg q.toNat (by omega)).2
  rw[show((q.toNat:Nat):Int)=q by omega]at this;exact this
 rcases hcs with⟨hx,e⟩|⟨hx,e⟩|⟨hx,q,hq,hqw,hqd,hqs,hqc,hqp,e⟩|⟨hx,e⟩|⟨hx,e⟩|⟨hx,e⟩
 ·
  clear hqq
  rw[e]
  refine⟨h.mg,?_⟩
  show Go' s ws0 c n w.ws (t.look (w.get t.pat))
  cases h.go.2 with
  |look _ _ hh u=>
   have hun:=u t.at' (Int.le_refl _) (by omega)
   rw[hgp,hun.1]
   have ho:=hok t.at' (by omega) (by omega)
   unfold Rn.look
   split
   ·rename_i g
    unfold Rn.isE at g
    rw[w2]at g
    simp only[Bool.and_eq_true,decide_eq_true_eq]at g
    exact⟨fun _=>⟨lo,no⟩,.claim hd rfl hh u (is_empty g.1 g.2)⟩
   ·rename_i g
    split
    ·rename_i g2
     unfold Rn.isS at g2
     rw[w2]at g2
     simp only[Bool.and_eq_true,decide_eq_true_eq]at g2
     have hA:=Gv.ok_super g2.1 g2.2
     have hs4:=slots_four hA.1 hA.2.1
     refine⟨fun _=>⟨lo,no⟩,.strip _ hd rfl hh (fun q q0 q1=>u q (by have q0:t.at'+1≤q:=q0;omega) q1) rfl (by show pgA t.s t.at' _=_;rw[w2]) ⟨hun.1,g2.2,Int.le_refl _,by show 0≤slots (pgA s t.at' (pgAt s ws0 t.at'));omega,fun i i0 i1=>by have i1:i<0:=i1;omega,fun i i0 i1=>hun.2 i i0 i1⟩ (fun g=>by cases g)⟩
    ·rename_i g2
     refine miss_ok hd hf w2 hnn w4 (by omega) (by omega) lo no hh u fun hfr=>?_
     rcases hfr with g3 |⟨g3,-⟩
     ·exact g (by unfold Rn.isE;rw[w2,ho,decide_eq_true g3];rfl)
     ·exact g2 (by unfold Rn.isS;rw[w2,ho,decide_eq_true g3];rfl)
  | claim _ x=>omega
  | strip _ _ x=>omega
  | clear _ x=>omega
  | back _ x=>omega
  | body _ x=>omega
  | won d=>rw[hd]at d;cases d
  | lost d=>rw[hd]at d;cases d
 ·
  clear hqq
  rw[e]
  cases h.go.2 with
  |claim _ _ hh u z=>
   have hun:=u t.at' (Int.le_refl _) (by omega)
   have hg0:w.get t.pat=0:=by rw[hgp,hun.1,z]
   have hws:(w.swap t.c t.pat 0 (held t.c)).ws=upW w.ws (page s.p s.c s.m t.at') (held c):=by rw[swap_yes hg0,hpat,w3]
   have fr:∀ q,0≤q→q<s.p→q≠t.at'→Sm s w.ws q (upW w.ws (page s.p s.c s.m t.at') (held c)):=fun q q0 q1 hne=>Sm.pg hm (by omega) (by omega) q0 q1 hne
   refine⟨fun c' j c0 c1 j0 j1=>?_,?_⟩
   ·show mgAt s (w.swap t.c t.pat 0 (held t.c)).ws c' j=_
    rw[hws,mg_pg hm (by omega) (by omega) c0 j0];exact h.mg c' j c0 c1 j0 j1
   ·show Go' s ws0 c n (w.swap t.c t.pat 0 (held t.c)).ws (t.claim (w.get t.pat))
    unfold Rn.claim
    rw[if_pos hg0,hws]
    refine own_ok hd hnn w4 (by omega) (by omega) (lo.tr (by omega) (by omega) fr) no (fun q q0 q1=>?_) (fun q q0 q1=>(u q (by omega) q1).tr (fr q (by omega) q1 (by omega)))
    by_cases g:q=t.at'
    ·subst g
     refine⟨.inl (by rw[z,pgK_zero]),by rw[pg_pg hm (by omega) (by omega) (by omega) (by omega),if_pos rfl],fun i i0 i1=>?_⟩
     rw[sl_pg hm (by omega) (by omega) (by omega) i0,hun.2 i i0 i1]
     have:=(hsp t.at' (by omega) (by omega)).emp (by rw[z,pgK_zero];rfl) (by rw[z,pgK_zero];rfl) i.toNat (by omega)
     rw[show((i.toNat:Nat):Int)=i by omega]at this;exact this
    ·exact(hh q q0 (by omega)).tr (fr q (by omega) (by omega) g)
  | look _ x=>omega
  | strip _ _ x=>omega
  | clear _ x=>omega
  | back _ x=>omega
  | body _ x=>omega
  | won d=>rw[hd]at d;cases d
  | lost d=>rw[hd]at d;cases d
 ·
  rw[e]
  cases h.go.2 with
  |strip q' _ _ hh u eq k tr b=>
   have hqe:q'=q:=by rw[hq]at eq;exact(Option.some.inj eq).symm
   subst hqe
   rw[w2]at hqs
   rw[w3]at hqc
   have hqh:q'.hd=false:=by
    obtain⟨q2,g1,-,-,-,-,-,g2⟩:=hqq hx
    rw[hq]at g1;rw[Option.some.inj g1];exact g2
   clear hqq
   obtain⟨t1,t2,t3,t4,t5,t6⟩:=tr
   have hA:=Gv.ok_super (pgK_ne (s:=s) (x:=pgAt s ws0 t.at') (by rw[t2];decide)) t2
   have hs4:=slots_four hA.1 hA.2.1
   have hsup:=(hsp t.at' (by omega) (by omega)).sup (by rw[t2];rfl)
   obtain⟨A,hAe⟩:∃ A,pgA s t.at' (pgAt s ws0 t.at')=A:=⟨_,rfl⟩
   rw[hAe]at k t4 t5 hA hs4 hsup
   have hat:∀ j,q'.at' j=slot s.p s.c s.m t.at' j:=fun j=>by unfold St.at';rw[hqs,hqp]
   have hqpat:q'.pat=page s.p s.c s.m t.at':=by unfold St.pat;rw[hqs,hqp]
   have frS:∀ j y,0≤j→j<16→∀ q,0≤q→q<s.p→q≠t.at'→Sm s w.ws q (upW w.ws (slot s.p s.c s.m t.at' j) y):=fun j y j0 j1 q q0 q1 hne=>Sm.sl hm (by omega) (by omega) j0 j1 q0 q1 hne
   have frP:∀ y,∀ q,0≤q→q<s.p→q≠t.at'→Sm s w.ws q (upW w.ws (page s.p s.c s.m t.at') y):=fun y q q0 q1 hne=>Sm.pg hm (by omega) (by omega) q0 q1 hne
   have mgS:∀ j y,0≤j→j<16→∀ c' i,0≤c'→c'<s.c→0≤i→i<s.m→mgAt s (upW w.ws (slot s.p s.c s.m t.at' j) y) c' i=mgAt s ws0 c' i:=fun j y j0 j1 c' i c0 c1 i0 i1=>(mg_sl hm (by omega) (by omega) j0 j1 c0 i0).trans (h.mg c' i c0 c1 i0 i1)
   rcases St.step_cases q' w with⟨e1,-⟩|⟨-,⟨hb1,e2⟩|⟨hb1,hi,e2⟩|⟨hb1,hi,hg,e2⟩|⟨hb1,hi,hg,e2⟩⟩
   ·rw[hqd]at e1;cases e1
   ·
    obtain⟨-,-,-,-,-,-,a7,a8,a9⟩:=hqw.of hqd
    have a9:=a9 hb1
    have hws:(w.store q'.c (q'.at' (q'.i - 1)) (opn q'.k)).ws=upW w.ws (slot s.p s.c s.m t.at' (q'.i - 1)) (opn A):=by rw[store_ws,hat,k]
    rw[e2]
    refine⟨fun c' j c0 c1 j0 j1=>?_,?_⟩
    ·show mgAt s (w.store q'.c (q'.at' (q'.i - 1)) (opn q'.k)).ws c' j=_
     rw[hws];exact mgS _ _ (by omega) (by omega) c' j c0 c1 j0 j1
    show Go' s ws0 c n (w.store q'.c (q'.at' (q'.i - 1)) (opn q'.k)).ws (t.outs { q' with i:=q'.i - 1,dn:=decide (q'.i - 1=0) })
    rw[hws]
    have fr:=frS (q'.i - 1) (opn A) (by omega) (by omega)
    have lo2:=lo.tr (q0:=t.at') (by omega) (by omega) fr
    have hh2:=hh.tr (q0:=t.at') (.inr (Int.le_refl _)) (by omega) (by omega) fr
    have u2:=u.tr (q0:=t.at') (by omega) (by omega) fr
    have tr2:Tr s ws0 c (upW w.ws (slot s.p s.c s.m t.at' (q'.i - 1)) (opn A)) t.at' (q'.i - 1):=by
     refine⟨(pg_sl hm (by omega) (by omega) (by omega) (by omega) (by omega) (by omega)).trans t1,t2,by omega,by rw[hAe];omega,fun i i0 i1=>?_,fun i i0 i1=>?_⟩
     ·rw[sl_sl hm (by omega) (by omega) (by omega) (by omega) (by omega) i0 (by omega),if_neg (by omega),hAe];exact t5 i i0 (by omega)
     ·rw[sl_sl hm (by omega) (by omega) (by omega) (by omega) (by omega) (by omega) i1]
      split
      ·rename_i g;rw[g.2];exact(t5 (q'.i - 1) (by omega) (by omega)).2.symm
      ·exact t6 i (by omega) i1
    unfold Rn.outs
    rw[if_neg (by show ¬ q'.hd=true;have:=hqh;rw[this];decide)]
    split
    ·rename_i g
     have g:q'.i - 1=0:=of_decide_eq_true g
     rw[g]at tr2
     refine miss_ok (t:={ t with st:=some _ }) hd hf w2 hnn w4 (by show t.hd≤t.at';omega) (by show t.at'<t.hd+n;omega) lo2 no hh2 (fun q q0 q1=>?_) (b hb1)
     by_cases g2:q=t.at'
     ·subst g2;rw[g];exact⟨tr2.1,tr2.2.2.2.2.2⟩
     ·exact u2 q (by have q0:t.at'≤q:=q0;omega) q1
    ·exact⟨fun _=>⟨lo2,no⟩,.strip _ hd hx hh2 u2 rfl (by rw[hAe];exact k) tr2 b⟩
   ·
    have hws:(w.store q'.c q'.pat (held q'.c)).ws=upW w.ws (page s.p s.c s.m t.at') (held c):=by rw[store_ws,hqpat,hqc]
    rw[e2]
    refine⟨fun c' j c0 c1 j0 j1=>?_,?_⟩
    ·show mgAt s (w.store q'.c q'.pat (held q'.c)).ws c' j=_
     rw[hws,mg_pg hm (by omega) (by omega) c0 j0];exact h.mg c' j c0 c1 j0 j1
    show Go' s ws0 c n (w.store q'.c q'.pat (held q'.c)).ws (t.outs { q' with hd:=true,dn:=true })
    rw[hws]
    have fr:=frP (held c)
    have lo2:=lo.tr (q0:=t.at') (by omega) (by omega) fr
    have hh2:=hh.tr (q0:=t.at') (.inr (Int.le_refl _)) (by omega) (by omega) fr
    have u2:=u.tr (q0:=t.at') (by omega) (by omega) fr
    have l4:Cl s ws0 c (upW w.ws (page s.p s.c s.m t.at') (held c)) t.at' 0:=by
     refine⟨.inr ⟨t2,fun i i0 i1=>?_⟩,?_,fun j j0 j1=>by omega⟩
     ·rw[hAe]at i1
      rw[(t5 i i0 (by rw[hi,k];exact i1)).2];exact(opn_ne A hA.1 (by omega)).2.1
     ·rw[pg_pg hm (by omega) (by omega) (by omega) (by omega),if_pos rfl]
    unfold Rn.outs
    rw[if_pos (by rfl)]
    exact⟨fun _=>⟨lo2,no⟩,.clear hd rfl hh2 u2 l4⟩
   ·
    rw[k]at hi
    have a7:0≤q'.i:=t3
    have hgs:slAt s w.ws t.at' q'.i=opn A:=by
     rw[hat,k,slot_at hm (by omega) (by omega) (by omega) (by omega)]at hg;exact hg
    have hws:(w.swap q'.c (q'.at' q'.i) (opn q'.k) (way q'.c)).ws=upW w.ws (slot s.p s.c s.m t.at' q'.i) (way c):=by rw[swap_yes hg,hat,hqc]
    rw[e2]
    refine⟨fun c' j c0 c1 j0 j1=>?_,?_⟩
    ·show mgAt s (w.swap q'.c (q'.at' q'.i) (opn q'.k) (way q'.c)).ws c' j=_
     rw[hws];exact mgS _ _ (by omega) (by omega) c' j c0 c1 j0 j1
    show Go' s ws0 c n (w.swap q'.c (q'.at' q'.i) (opn q'.k) (way q'.c)).ws (t.outs { q' with i:=q'.i+1 })
    rw[hws]
    have fr:=frS q'.i (way c) (by omega) (by omega)
    have lo2:=lo.tr (q0:=t.at') (by omega) (by omega) fr
    have hh2:=hh.tr (q0:=t.at') (.inr (Int.le_refl _)) (by omega) (by omega) fr
    have u2:=u.tr (q0:=t.at') (by omega) (by omega) fr
    have tr2:Tr s ws0 c (upW w.ws (slot s.p s.c s.m t.at' q'.i) (way c)) t.at' (q'.i+1):=by
     refine⟨(pg_sl hm (by omega) (by omega) (by omega) (by omega) (by omega) (by omega)).trans t1,t2,by omega,by rw[hAe];omega,fun i i0 i1=>?_,fun i i0 i1=>?_⟩
     ·rw[hAe,sl_sl hm (by omega) (by omega) (by omega) (by omega) (by omega) i0 (by omega)]
      by_cases g:i=q'.i
      ·subst g
       rw[if_pos ⟨rfl,rfl⟩]
       exact⟨rfl,(t6 _ (Int.le_refl _) (by omega)).symm.trans hgs⟩
      ·rw[if_neg (by omega)];exact t5 i i0 (by omega)
     ·rw[sl_sl hm (by omega) (by omega) (by omega) (by omega) (by omega) (by omega) i1,if_neg (by omega)];exact t6 i (by omega) i1
    unfold Rn.outs
    rw[if_neg (by show ¬ q'.hd=true;rw[hqh];decide),if_neg (by show ¬ q'.dn=true;rw[hqd];decide)]
    exact⟨fun _=>⟨lo2,no⟩,.strip _ hd hx hh2 u2 rfl (by rw[hAe];exact k) tr2 b⟩
   ·
    rw[k]at hi
    have a7:0≤q'.i:=t3
    have hgs:slAt s w.ws t.at' q'.i≠opn A:=by
     rw[hat,k,slot_at hm (by omega) (by omega) (by omega) (by omega)]at hg;exact hg
    have hws:(w.swap q'.c (q'.at' q'.i) (opn q'.k) (way q'.c)).ws=w.ws:=swap_no hg
    have hnf:¬ Free s ws0 t.at':=fun hfr=>by
     rcases hfr with g |⟨-,g⟩
     ·rw[t2]at g;cases g
     ·rw[hAe]at g
      have g1:=g q'.i a7 (by omega)
      have g2:=hsup q'.i.toNat (by omega)
      rw[show((q'.i.toNat:Nat):Int)=q'.i by omega]at g2
      unfold slB at g2
      rw[decide_eq_true (by omega:q'.i<slots A),g1]at g2
      have g3:slA (slAt s ws0 t.at' q'.i)=A:=by simpa using g2
      have g4:=is_opn g1
      rw[g3]at g4
      exact hgs ((t6 _ (Int.le_refl _) (by omega)).trans g4)
    rw[e2]
    refine⟨fun c' j c0 c1 j0 j1=>?_,?_⟩
    ·show mgAt s (w.swap q'.c (q'.at' q'.i) (opn q'.k) (way q'.c)).ws c' j=_
     rw[hws];exact h.mg c' j c0 c1 j0 j1
    show Go' s ws0 c n (w.swap q'.c (q'.at' q'.i) (opn q'.k) (way q'.c)).ws (t.outs { q' with bk:=true,dn:=decide (q'.i=0) })
    rw[hws]
    have tr2:Tr s ws0 c w.ws t.at' q'.i:=⟨t1,t2,t3,by rw[hAe];exact t4,by rw[hAe];exact t5,t6⟩
    unfold Rn.outs
    rw[if_neg (by show ¬ q'.hd=true;rw[hqh];decide)]
    split
    ·rename_i g
     have g:q'.i=0:=of_decide_eq_true g
     refine miss_ok (t:={ t with st:=some _ }) hd hf w2 hnn w4 (by show t.hd≤t.at';omega) (by show t.at'<t.hd+n;omega) lo no hh (fun q q0 q1=>?_) hnf
     by_cases g2:q=t.at'
     ·subst g2;exact⟨t1,fun i i0 i1=>t6 i (by omega) i1⟩
     ·exact u q (by have q0:t.at'≤q:=q0;omega) q1
    ·exact⟨fun _=>⟨lo,no⟩,.strip _ hd hx hh u rfl (by rw[hAe];exact k) tr2 fun _=>hnf⟩
  | look _ x=>omega
  | claim _ x=>omega
  | clear _ x=>omega
  | back _ x=>omega
  | body _ x=>omega
  | won d=>rw[hd]at d;cases d
  | lost d=>rw[hd]at d;cases d
 ·
  clear hqq
  rw[e]
  cases h.go.2 with
  |clear _ _ hh u l=>
   obtain⟨l1,l2,l3⟩:=l
   have hi:0≤t.i∧t.i<16:=by omega
   have hws:(w.store t.c t.sat 0).ws=upW w.ws (slot s.p s.c s.m t.at' t.i) 0:=by rw[store_ws];unfold Rn.sat;rw[w2]
   have fr:∀ q,0≤q→q<s.p→q≠t.at'→Sm s w.ws q (upW w.ws (slot s.p s.c s.m t.at' t.i) 0):=fun q q0 q1 hne=>Sm.sl hm (by omega) (by omega) hi.1 hi.2 q0 q1 hne
   have lo2:=lo.tr (q0:=t.at') (by omega) (by omega) fr
   have hh2:=hh.tr (q0:=t.at') (.inr (Int.le_refl _)) (by omega) (by omega) fr
   have u2:=u.tr (q0:=t.at') (by omega) (by omega) fr
   have l4:Cl s ws0 c (upW w.ws (slot s.p s.c s.m t.at' t.i) 0) t.at' (t.i+1):=by
    refine⟨l1,(pg_sl hm (by omega) (by omega) hi.1 hi.2 (by omega) (by omega)).trans l2,fun j j0 j1=>?_⟩
    rw[sl_sl hm (by omega) (by omega) hi.1 hi.2 (by omega) j0 (by omega)]
    split
    ·rfl
    ·exact l3 j j0 (by omega)
   refine⟨fun c' j c0 c1 j0 j1=>?_,?_⟩
   ·show mgAt s (w.store t.c t.sat 0).ws c' j=_
    rw[hws,mg_sl hm (by omega) (by omega) hi.1 hi.2 c0 j0];exact h.mg c' j c0 c1 j0 j1
   show Go' s ws0 c n (w.store t.c t.sat 0).ws t.clear
   rw[hws]
   unfold Rn.clear
   split
   ·rename_i g
    rw[g]at l4
    refine own_ok (t:={ t with i:=t.i+1 }) hd hnn w4 (by show t.hd≤t.at';omega) (by show t.at'<t.hd+n;omega) lo2 no (fun q q0 q1=>?_) u2
    have q1:q<t.at'+1:=q1
    by_cases g2:q=t.at'
    ·rw[g2];exact l4
    ·exact hh2 q q0 (by omega)
   ·exact⟨fun _=>⟨lo2,no⟩,.clear hd hx hh2 u2 l4⟩
  | look _ x=>omega
  | claim _ x=>omega
  | strip _ _ x=>omega
  | back _ x=>omega
  | body _ x=>omega
  | won d=>rw[hd]at d;cases d
  | lost d=>rw[hd]at d;cases d
 ·
  clear hqq
  rw[e]
  cases h.go.2 with
  |back _ _ hh em u f=>
   have hi:t.hd<t.i∧t.i≤t.at':=by omega
   have hws:(w.store t.c t.bat 0).ws=upW w.ws (page s.p s.c s.m (t.i - 1)) 0:=by rw[store_ws];unfold Rn.bat;rw[w2]
   have fr:∀ q,0≤q→q<s.p→q≠t.i - 1→Sm s w.ws q (upW w.ws (page s.p s.c s.m (t.i - 1)) 0):=fun q q0 q1 hne=>Sm.pg hm (by omega) (by omega) q0 q1 hne
   have lo2:=lo.tr (q0:=t.i - 1) (by omega) (by omega) fr
   have u2:=u.tr (q0:=t.i - 1) (by omega) (by omega) fr
   have hone:=hh (t.i - 1) (by omega) (by omega)
   refine⟨fun c' j c0 c1 j0 j1=>?_,?_⟩
   ·show mgAt s (w.store t.c t.bat 0).ws c' j=_
    rw[hws,mg_pg hm (by omega) (by omega) c0 j0];exact h.mg c' j c0 c1 j0 j1
   show Go' s ws0 c n (w.store t.c t.bat 0).ws { t with i:=t.i - 1 }.gone
   rw[hws]
   refine gone_ok (t:={ t with i:=t.i - 1 }) hd hf hx w2 hnn w4 (by show t.hd≤t.at';omega) (by show t.at'<t.hd+n;omega) lo2 no (fun q q0 q1=>?_) (fun q q0 q1=>?_) u2 f
   ·have q1:q<t.i - 1:=q1
    have q0:t.hd≤q:=q0
    exact(hh q q0 (by omega)).tr (fr q (by omega) (by omega) (by omega))
   ·have q0:t.i - 1≤q:=q0
    have q1:q<t.at':=q1
    by_cases g:q=t.i - 1
    ·rw[g]
     refine⟨hone.1,by rw[pg_pg hm (by omega) (by omega) (by omega) (by omega),if_pos rfl],fun i i0 i1=>?_⟩
     rw[sl_pg hm (by omega) (by omega) (by omega) i0];exact hone.2.2 i i0 i1
    ·exact(em q (by omega) q1).tr (fr q (by omega) (by omega) g)
  | look _ x=>omega
  | claim _ x=>omega
  | strip _ _ x=>omega
  | clear _ x=>omega
  | body _ x=>omega
  | won d=>rw[hd]at d;cases d
  | lost d=>rw[hd]at d;cases d
 ·
  clear hqq
  rw[e]
  cases h.go.2 with
  |body _ _ a l hh b hr u=>
   have hi:t.hd<t.i∧t.i<t.hd+n:=by omega
   have hws:(w.store t.c t.iat (putPg 4 t.hd 0)).ws=upW w.ws (page s.p s.c s.m t.i) (putPg 4 t.hd 0):=by rw[store_ws];unfold Rn.iat;rw[w2]
   have fr:∀ q,0≤q→q<s.p→q≠t.i→Sm s w.ws q (upW w.ws (page s.p s.c s.m t.i) (putPg 4 t.hd 0)):=fun q q0 q1 hne=>Sm.pg hm (by omega) (by omega) q0 q1 hne
   have lo2:=lo.tr (q0:=t.i) (by omega) (by omega) fr
   have u2:=u.tr (q0:=t.i) (by omega) (by omega) fr
   have hone:=hr t.i (Int.le_refl _) (by omega)
   refine⟨fun c' j c0 c1 j0 j1=>?_,?_⟩
   ·show mgAt s (w.store t.c t.iat (putPg 4 t.hd 0)).ws c' j=_
    rw[hws,mg_pg hm (by omega) (by omega) c0 j0];exact h.mg c' j c0 c1 j0 j1
   show Go' s ws0 c n (w.store t.c t.iat (putPg 4 t.hd 0)).ws t.written
   rw[hws]
   refine written_ok hd hx hnn w4 a (by omega) (by omega) lo2 no (hh.tr (fr t.hd (by omega) (by omega) (by omega))) (fun q q0 q1=>?_) (fun q q0 q1=>(hr q (by omega) q1).tr (fr q (by omega) (by omega) (by omega))) u2
   by_cases g:q=t.i
   ·rw[g]
    refine⟨hone.1,by rw[pg_pg hm (by omega) (by omega) (by omega) (by omega),if_pos rfl],fun i i0 i1=>?_⟩
    rw[sl_pg hm (by omega) (by omega) (by omega) i0];exact hone.2.2 i i0 i1
   ·exact(b q q0 (by omega)).tr (fr q (by omega) (by omega) g)
  | look _ x=>omega
  | claim _ x=>omega
  | strip _ _ x=>omega
  | clear _ x=>omega
  | back _ x=>omega
  | won d=>rw[hd]at d;cases d
  | lost d=>rw[hd]at d;cases d
theorem Al.init (hm:may s.p s.c s.m=true) (ho:w.of s) (c0:0≤c) (c1:c<s.c) (n0:1≤n) (n1:n≤8) (hs:Snd s w.ws):Al s w.ws c n (Rn.new s c n) w:=by
 have hu:∀ q,Un s w.ws w.ws q:=fun q=>⟨rfl,fun i i0 i1=>rfl⟩
 refine⟨ho,hm,⟨Rn.new_wf ..,rfl,rfl,rfl⟩,⟨c0,c1⟩,hs,fun _ _ _ _ _ _=>rfl,fun _=>⟨fun q q0 q1=>.inl (hu q),fun h h0 h1=>?_⟩,?_⟩
 ·have h1:h<0:=h1;omega
 ·cases hd:(Rn.new s c n).dn
  ·exact .look rfl rfl (fun q q0 q1=>by have q0:(0:Int)≤q:=q0;have q1:q<0:=q1;omega) fun q q0 q1=>hu q
  ·refine .lost rfl rfl (fun q q0 q1=>.inl (hu q)) fun h h0 h1=>?_
   have hd':(!Rn.ok s c n)=true:=hd
   unfold Rn.ok at hd'
   rw[status_yes hm c0 c1,decide_eq_true c0,decide_eq_true n0,decide_eq_true n1,decide_eq_true (by omega:n≤s.p)]at hd'
   cases hd'
end
end Rw
end Go.Ma
namespace Go.Ma
open Go.Pl
theorem is_taken {x:Int} (hk:slK x=3):x=taken (slA x):=by
 have ho:okSl x=true:=by
  cases e:okSl x
  ·unfold slK at hk;rw[e]at hk;cases hk
  ·rfl
 have h1:x % 16=3:=by unfold slK at hk;rw[if_pos ho]at hk;exact hk
 unfold slA taken
 rw[if_pos ho]
 unfold okSl at ho
 rw[h1]at ho
 exact(of_decide_eq_true ho).symm
structure Fd (s:Sh) (ws0 ws:Nat→Int):Prop where
 pg:∀ q,0≤q→q<s.p→pgAt s ws q=pgAt s ws0 q∨(pgAt s ws q=0∧(pgK s q (pgAt s ws0 q)=3∨(pgK s q (pgAt s ws0 q)=4∧0≤pgA s q (pgAt s ws0 q)∧pgA s q (pgAt s ws0 q)<s.p∧pgK s (pgA s q (pgAt s ws0 q)) (pgAt s ws0 (pgA s q (pgAt s ws0 q)))=3)))
 sl:∀ q j,0≤q→q<s.p→0≤j→j<16→slAt s ws q j=slAt s ws0 q j∨(slK (slAt s ws0 q j)=3∧(slK (slAt s ws q j)=1∨0<s.m))
 mg:∀ c' j,0≤c'→c'<s.c→0≤j→j<s.m→mgAt s ws c' j=mgAt s ws0 c' j∨∃ p i,0≤p∧p<s.p∧0≤i∧i<16∧enP s (mgAt s ws c' j)=p∧enS s (mgAt s ws c' j)=i∧slK (slAt s ws0 p i)=3
theorem LX.fd {s:Sh} {ws0 ws:Nat→Int} {pg A c i:Int} (hm:may s.p s.c s.m=true) (hsn:Snd s ws0) (p0:0≤pg) (p1:pg<s.p) (hk:pgK s pg (pgAt s ws0 pg)=3) (hA:pgA s pg (pgAt s ws0 pg)=A) (i1:i<A) (hz:pgAt s ws pg=0) (h:LX s ws0 pg A c i ws):Fd s ws0 ws:=by
 refine⟨fun q q0 q1=>?_,fun q j q0 q1 j0 j1=>.inl (h.sl q j q0 q1 j0 j1),fun c' j c0 c1 j0 j1=>.inl (h.mg c' j c0 c1 j0 j1)⟩
 by_cases e:q=pg
 ·subst e;exact .inr ⟨hz,.inl hk⟩
 ·by_cases e2:pg<q∧q≤pg+i
  ·have h1:=h.em (q - pg) (by omega) (by omega)
   have h2:=row_body hm hsn p0 p1 hk hA (j:=q - pg) (by omega) (by omega)
   rw[show pg+(q - pg)=q by omega]at h1 h2
   exact .inr ⟨h1,.inr ⟨h2.1,by rw[h2.2];exact p0,by rw[h2.2];exact p1,by rw[h2.2];exact hk⟩⟩
  ·exact .inl (h.ot q q0 q1 e e2)
theorem SX.fd {s:Sh} {ws0 ws:Nat→Int} {pg sl A c x:Int} {e:Option Int} (hm:may s.p s.c s.m=true) (p0:0≤pg) (p1:pg<s.p) (hA0:0≤A) (hA1:A≤3) (s0:0≤sl) (s1:sl<slots A) (ht:slAt s ws0 pg sl=taken A) (hx:(x=opn A)∨0<s.m)
  (h:SX s ws0 pg sl A c x e ws):Fd s ws0 ws:=by
 have hs4:=slots_four hA0 hA1
 have tn:=taken_ne A hA0 (by omega)
 refine⟨fun q q0 q1=>.inl (h.pg' q q0 q1),fun q j q0 q1 j0 j1=>?_,fun c' j c0 c1 j0 j1=>?_⟩
 ·by_cases e2:q=pg∧j=sl
  ·obtain⟨rfl,rfl⟩:=e2
   refine .inr ⟨by rw[ht];exact tn.2.1,?_⟩
   rw[h.at']
   rcases hx with hx | hx
   ·rw[hx];exact .inl (opn_ne A hA0 (by omega)).2.1
   ·exact .inr hx
  ·exact .inl (h.sl' q j q0 q1 j0 j1 e2)
 ·rcases h.mg c' j c0 c1 j0 j1 with g |⟨-,-,g,-⟩
  ·exact .inl g
  ·have hen:=en_put hm p0 p1 s0 s1 hA0 hA1
   exact .inr ⟨pg,sl,p0,p1,s0,by omega,by rw[g];exact hen.2.1,by rw[g];exact hen.2.2.1,by rw[ht];exact tn.2.1⟩
namespace Gv
inductive Ga (s:Sh) (ws0:Nat→Int) (c a:Int) (t:Gv) (w:Wd):Prop
 | a (hd:t.dn=false) (hn:t.nx=0) (hw:w.ws=ws0)
 | n (hd:t.dn=true) (hg:t.gv=false) (hw:w.ws=ws0) (hno:∀ n:Nat,(n:Int)≤s.p→∀ z∈blks s ws0 n,z.1≠a)
 | l1 (hd:t.dn=false) (hn:t.nx=1) (hw:w.ws=ws0) (kK:t.pK=3) (hk:pgK s t.pg (pgAt s ws0 t.pg)=3) (hA:pgA s t.pg (pgAt s ws0 t.pg)=t.pA) (hwd:t.wd=pgAt s ws0 t.pg) (ha:t.pg*64=a)
 | l2 (hd:t.dn=false) (hn:t.nx=4) (hg:t.gv=true) (hk:pgK s t.pg (pgAt s ws0 t.pg)=3) (hA:pgA s t.pg (pgAt s ws0 t.pg)=t.pA) (ha:t.pg*64=a) (hx:LX s ws0 t.pg t.pA c t.i w.ws)
 | s1 (hd:t.dn=false) (hn:t.nx=1) (hw:w.ws=ws0) (kK:t.pK=2) (hk:pgK s t.pg (pgAt s ws0 t.pg)=2) (hA:pgA s t.pg (pgAt s ws0 t.pg)=t.pA) (s0:0≤t.sl) (s1:t.sl<slots t.pA) (ha:t.pg*64+t.sl*size t.pA=a)
 | s2 (p:Pu) (hd:t.dn=false) (hn:t.nx=2) (hp:t.put=some p) (hg:t.gv=true) (hk:pgK s t.pg (pgAt s ws0 t.pg)=2) (hA:pgA s t.pg (pgAt s ws0 t.pg)=t.pA) (s0:0≤t.sl) (s1:t.sl<slots t.pA) (ha:t.pg*64+t.sl*size t.pA=a) (ht:slAt s ws0 t.pg t.sl=taken t.pA)
   (hpe:p.ep=t.pg∧p.es=t.sl∧p.ek=t.pA) (hz:p.hit=true→mgAt s w.ws c p.i=0) (hx:SX s ws0 t.pg t.sl t.pA c (way c) none w.ws)
 | s3 (hd:t.dn=false) (hn:t.nx=3) (hg:t.gv=true) (hk:pgK s t.pg (pgAt s ws0 t.pg)=2) (hA:pgA s t.pg (pgAt s ws0 t.pg)=t.pA) (s0:0≤t.sl) (s1:t.sl<slots t.pA) (ha:t.pg*64+t.sl*size t.pA=a) (ht:slAt s ws0 t.pg t.sl=taken t.pA) (hx:SX s ws0 t.pg t.sl t.pA c (way c) none w.ws)
 | e (hd:t.dn=true) (hg:t.gv=true) (hp:t.pg<s.p) (hs:Snd s w.ws) (ho:∀ n:Nat,t.pg<n→(n:Int)≤s.p→Out (blks s ws0 n) (blks s w.ws n) a) (hf:Fd s ws0 w.ws)
structure Al (s:Sh) (ws0:Nat→Int) (c a:Int) (t:Gv) (w:Wd):Prop where
 of:w.of s
 ok:may s.p s.c s.m=true
 wf:t.wf∧t.s=s∧t.c=c∧t.a=a
 cb:0≤c∧c<s.c
 pb:t.dn=false→0≤t.pg∧t.pg<s.p
 snd:Snd s ws0
 ph:Ga s ws0 c a t w
variable {s:Sh} {ws0:Nat→Int} {c a:Int} {t:Gv} {w:Wd}
theorem Al.sound (h:Al s ws0 c a t w):Snd s w.ws:=by
 have hm:=h.ok
 have hc:=h.cb
 cases h.ph with
 | a hd hn hw=>rw[hw];exact h.snd
 | n hd hg hw=>rw[hw];exact h.snd
 | l1 hd hn hw=>rw[hw];exact h.snd
 |l2 hd hn hg hk hA ha hx=>
  have hp:=h.pb hd
  have h4:=(h.wf.1.n4 hd hn).2
  exact hx.snd hm h.snd hp.1 hp.2 hk hA hc.1 hc.2 h4.1 h4.2
 | s1 hd hn hw=>rw[hw];exact h.snd
 |s2 p hd hn hp hg hk hA s0 s1 ha ht hpe hz hx=>
  have hp:=h.pb hd
  exact hx.snd hm h.snd hp.1 hp.2 hk hA s0 s1 hc.1 hc.2 ht
 |s3 hd hn hg hk hA s0 s1 ha ht hx=>
  have hp:=h.pb hd
  exact hx.snd hm h.snd hp.1 hp.2 hk hA s0 s1 hc.1 hc.2 ht
 | e hd hg hp hs ho hf=>exact hs
theorem Al.step (h:Al s ws0 c a t w):Al s ws0 c a (t.step w).1 (t.step w).2:=by
 obtain⟨w1,w2,w3,w4⟩:=h.wf
 have hm:=h.ok
 have hb:=(may_iff _ _ _).1 hm
 have hc:=h.cb
 have hkp:=step_keeps (w:=w) w1
 have hpb:(t.step w).1.dn=false→0≤(t.step w).1.pg∧(t.step w).1.pg<s.p:=fun hd=>by
  rw[hkp.2.2.2]
  cases hd0:t.dn
  ·exact h.pb hd0
  ·rw[step_dn hd0]at hd
   have hd:t.dn=false:=hd
   rw[hd0]at hd;cases hd
 suffices hh:Ga s ws0 c a (t.step w).1 (t.step w).2 from
  ⟨step_of w1 h.of,hm,⟨step_wf w1 h.of.u,hkp.1.trans w2,hkp.2.1.trans w3,hkp.2.2.1.trans w4⟩,hc,hpb,h.snd,hh⟩
 have hpat:t.pat=page s.p s.c s.m t.pg:=by unfold pat;rw[w2]
 have hsat:t.sat=slot s.p s.c s.m t.pg t.sl:=by unfold sat;rw[w2]
 have hgp:w.get t.pat=pgAt s w.ws t.pg:=by rw[hpat];rfl
 cases h.ph with
 |a hd hn hw=>
  obtain⟨p0,p1⟩:=h.pb hd
  obtain⟨-,-,-,-,-,hth,hpg,-,-⟩:=w1.of hd
  obtain⟨z1,z2,z3⟩:=w1.n01 (.inl hn)
  have hob:=off_bd hth
  rw[w2,w4]at hth hpg
  have hof:t.off=a % 64:=by unfold off so;rw[w2,w4,if_pos hth]
  have hpg2:t.pg=a / 64:=by rw[hpg];unfold sp;rw[if_pos hth]
  rw[step_0 hd hn]
  show Ga s ws0 c a (t.look w) (w.load t.c t.pat)
  rw[hw]at hgp
  unfold look
  by_cases hL:t.isL w=true
  ·rw[if_pos hL]
   unfold isL at hL
   rw[w2,hgp]at hL
   simp only[Bool.and_eq_true,decide_eq_true_eq]at hL
   exact .l1 hd rfl hw (by show pgK t.s t.pg (w.get t.pat)=3;rw[w2,hgp];exact hL.2.1) hL.2.1 (by show pgA s t.pg (pgAt s ws0 t.pg)=pgA t.s t.pg (w.get t.pat);rw[w2,hgp]) hgp (by show t.pg*64=a;have:=hL.2.2;omega)
  ·rw[if_neg hL]
   by_cases hS:t.isS w=true
   ·rw[if_pos hS]
    unfold isS at hS
    rw[w2,hgp]at hS
    simp only[Bool.and_eq_true,decide_eq_true_eq]at hS
    have hAs:=ok_super hS.1 hS.2.1
    have hs4:=slots_four hAs.1 hAs.2.1
    have hso:=slot_of ⟨hAs.1,hAs.2.1⟩ hob
    have hdm:=Int.mul_ediv_add_emod t.off (size (pgA s t.pg (pgAt s ws0 t.pg)))
    rw[hS.2.2]at hdm
    refine .s1 hd rfl hw (by show pgK t.s t.pg (w.get t.pat)=2;rw[w2,hgp];exact hS.2.1) hS.2.1 (by show pgA s t.pg (pgAt s ws0 t.pg)=pgA t.s t.pg (w.get t.pat);rw[w2,hgp]) ?_ ?_ ?_
    ·show 0≤t.off / size (pgA t.s t.pg (w.get t.pat));rw[w2,hgp];exact hso.1
    ·show t.off / size (pgA t.s t.pg (w.get t.pat))<slots (pgA t.s t.pg (w.get t.pat));rw[w2,hgp];exact hso.2
    ·show t.pg*64+t.off / size (pgA t.s t.pg (w.get t.pat))*size (pgA t.s t.pg (w.get t.pat))=a
     rw[w2,hgp,Int.mul_comm (t.off / _)];omega
   ·rw[if_neg hS]
    refine .n rfl z2 hw fun n hn z hz hza=>?_
    obtain⟨p,hp,hzp⟩:=blks_mem.1 hz
    have hin:=blkPg_in hzp
    have hpp:(p:Int)=t.pg:=by omega
    rcases blkPg_mem hzp with⟨h3,rfl⟩|⟨h2,i,hi,-,rfl⟩
    ·rw[hpp]at h3 hza
     refine hL ?_
     unfold isL
     rw[w2,hgp,pgK_ne (by rw[h3];decide),decide_eq_true h3,decide_eq_true (by have:t.pg*64=a:=hza;omega)];rfl
    ·rw[hpp]at h2 hza
     refine hS ?_
     have hAs:=ok_super (pgK_ne (s:=s) (q:=t.pg) (x:=pgAt s ws0 t.pg) (by rw[h2];decide)) h2
     have hs4:=slots_four hAs.1 hAs.2.1
     have hza:t.pg*64+i*size (pgA s t.pg (pgAt s ws0 t.pg))=a:=hza
     have ho:t.off=i*size (pgA s t.pg (pgAt s ws0 t.pg)):=by omega
     unfold isS
     rw[w2,hgp,pgK_ne (by rw[h2];decide),decide_eq_true h2,ho,Int.mul_emod_left];rfl
 | n hd hg hw hno=>rw[step_dn hd];exact .n hd hg hw hno
 |l1 hd hn hw kK hk hA hwd ha=>
  obtain⟨p0,p1⟩:=h.pb hd
  obtain⟨z1,z2,z3⟩:=w1.n01 (.inr hn)
  have hr:=row_bd hm h.snd p0 p1 hk hA
  have hgw:w.get t.pat=t.wd:=by rw[hgp,hw,hwd]
  rw[step_1L hd hn kK]
  have hsw:(w.swap t.c t.pat t.wd (held t.c)).ws=upW ws0 (page s.p s.c s.m t.pg) (held c):=by rw[swap_yes hgw,hpat,hw,w3]
  show Ga s ws0 c a (t.claimL w) (w.swap t.c t.pat t.wd (held t.c))
  have hcl:decide (w.get t.pat=t.wd)=true:=decide_eq_true hgw
  refine .l2 (by show(!decide (w.get t.pat=t.wd))=false;rw[hcl];rfl) rfl hcl hk hA ha ?_
  rw[hsw]
  show LX s ws0 t.pg t.pA c t.i _
  rw[z3]
  refine⟨.inl ?_,fun j j0 j1=>by omega,fun q q0 q1 hne _=>?_,fun q j q0 q1 j0 j1=>sl_pg hm p0 p1 q0 j0,fun c' j c0 c1 j0 j1=>mg_pg hm p0 p1 c0 j0⟩
  ·rw[pg_pg hm p0 p1 p0 p1,if_pos rfl]
  ·rw[pg_pg hm p0 p1 q0 q1,if_neg hne]
 |l2 hd hn hg hk hA ha hx=>
  obtain⟨p0,p1⟩:=h.pb hd
  have h4:=(w1.n4 hd hn).2
  have hr:=row_bd hm h.snd p0 p1 hk hA
  by_cases hi:t.i=t.pA - 1
  ·rw[step_4l hd hn hi]
   have hxx:LX s ws0 t.pg t.pA c t.i (upW w.ws (page s.p s.c s.m t.pg) 0):=by
    refine⟨.inr ⟨by rw[pg_pg hm p0 p1 p0 p1,if_pos rfl],hi⟩,fun j j0 j1=>?_,fun q q0 q1 hne hno=>?_,fun q j q0 q1 j0 j1=>(sl_pg hm p0 p1 q0 j0).trans (hx.sl q j q0 q1 j0 j1),fun c' j c0 c1 j0 j1=>(mg_pg hm p0 p1 c0 j0).trans (hx.mg c' j c0 c1 j0 j1)⟩
    ·rw[pg_pg hm p0 p1 (by omega) (by omega),if_neg (by omega)];exact hx.em j j0 j1
    ·rw[pg_pg hm p0 p1 q0 q1,if_neg hne];exact hx.ot q q0 q1 hne hno
   have hws:(w.store t.c t.pat 0).ws=upW w.ws (page s.p s.c s.m t.pg) 0:=by rw[store_ws,hpat]
   refine .e rfl hg p1 ?_ (fun n hn hn2=>?_) ?_
   ·show Snd s (w.store t.c t.pat 0).ws
    rw[hws];exact hxx.snd hm h.snd p0 p1 hk hA hc.1 hc.2 h4.1 h4.2
   ·show Out (blks s ws0 n) (blks s (w.store t.c t.pat 0).ws n) a
    have hn:t.pg<n:=hn
    rw[hws,← ha]
    exact hxx.out (P:=t.pg.toNat) hm h.snd (by omega) p1 (by omega) hn2 hk hA hc.1 hc.2 h4.1 h4.2
   ·show Fd s ws0 (w.store t.c t.pat 0).ws
    rw[hws];exact hxx.fd hm h.snd p0 p1 hk hA h4.2 (by rw[pg_pg hm p0 p1 p0 p1,if_pos rfl])
  ·rw[step_4m hd hn hi]
   have hp2:page t.s.p t.s.c t.s.m (t.pg+t.i+1)=page s.p s.c s.m (t.pg+t.i+1):=by rw[w2]
   refine .l2 hd hn hg hk hA ha ?_
   show LX s ws0 t.pg t.pA c (t.i+1) (w.store t.c (page t.s.p t.s.c t.s.m (t.pg+t.i+1)) 0).ws
   rw[store_ws,hp2]
   refine⟨?_,fun j j0 j1=>?_,fun q q0 q1 hne hno=>?_,fun q j q0 q1 j0 j1=>(sl_pg hm (by omega) (by omega) q0 j0).trans (hx.sl q j q0 q1 j0 j1),fun c' j c0 c1 j0 j1=>(mg_pg hm (by omega) (by omega) c0 j0).trans (hx.mg c' j c0 c1 j0 j1)⟩
   ·rw[pg_pg hm (by omega) (by omega) p0 p1,if_neg (by omega)]
    rcases hx.hd with e |⟨e,e2⟩
    ·exact .inl e
    ·exact absurd e2 hi
   ·rw[pg_pg hm (by omega) (by omega) (by omega) (by omega)]
    split
    ·rfl
    ·exact hx.em j j0 (by omega)
   ·rw[pg_pg hm (by omega) (by omega) q0 q1,if_neg (by omega)];exact hx.ot q q0 q1 hne (by omega)
 |s1 hd hn hw kK hk hA s0 s1 ha=>
  obtain⟨p0,p1⟩:=h.pb hd
  have hAs:=ok_super (pgK_ne (s:=s) (q:=t.pg) (x:=pgAt s ws0 t.pg) (by rw[hk];decide)) hk
  rw[hA]at hAs
  have hs4:=slots_four hAs.1 hAs.2.1
  have hgs:w.get t.sat=slAt s ws0 t.pg t.sl:=by rw[hsat,slot_at hm p0 p1 s0 (by omega),hw]
  rw[step_1S hd hn kK]
  show Ga s ws0 c a (t.claimS w) (w.swap t.c t.sat (taken t.pA) (way t.c))
  by_cases ht:slAt s ws0 t.pg t.sl=taken t.pA
  ·have hgt:w.get t.sat=taken t.pA:=hgs.trans ht
   have hws:(w.swap t.c t.sat (taken t.pA) (way t.c)).ws=upW ws0 (slot s.p s.c s.m t.pg t.sl) (way c):=by rw[swap_yes hgt,hsat,hw,w3]
   have hx:SX s ws0 t.pg t.sl t.pA c (way c) none (w.swap t.c t.sat (taken t.pA) (way t.c)).ws:=by
    rw[hws]
    refine⟨.inl rfl,?_,fun q q0 q1=>pg_sl hm p0 p1 s0 (by omega) q0 q1,fun q j q0 q1 j0 j1 hne=>?_,fun c' j c0 c1 j0 j1=>.inl (mg_sl hm p0 p1 s0 (by omega) c0 j0)⟩
    ·rw[sl_sl hm p0 p1 s0 (by omega) p0 s0 (by omega),if_pos ⟨rfl,rfl⟩]
    ·rw[sl_sl hm p0 p1 s0 (by omega) q0 j0 j1,if_neg hne]
   have hcl:decide (w.get t.sat=taken t.pA)=true:=decide_eq_true hgt
   unfold claimS
   rw[hcl]
   by_cases hB:t.pB=t.c
   ·rw[if_pos hB]
    cases hpd:t.pnew.dn
    ·exact .s2 t.pnew rfl rfl rfl rfl hk hA s0 s1 ha ht ⟨rfl,rfl,rfl⟩ (fun h=>by cases h) hx
    ·exact .s3 rfl rfl rfl hk hA s0 s1 ha ht hx
   ·rw[if_neg hB]
    exact .s3 rfl rfl rfl hk hA s0 s1 ha ht hx
  ·have hgt:w.get t.sat≠taken t.pA:=by rw[hgs];exact ht
   have hcl:decide (w.get t.sat=taken t.pA)=false:=decide_eq_false hgt
   have hws:(w.swap t.c t.sat (taken t.pA) (way t.c)).ws=ws0:=by rw[swap_no hgt,hw]
   have hno:∀ n:Nat,(n:Int)≤s.p→∀ z∈blks s ws0 n,z.1≠a:=fun n hn z hz hza=>by
    obtain⟨p,hp,hzp⟩:=blks_mem.1 hz
    have hin:=blkPg_in hzp
    have h64:0≤t.sl*size t.pA∧t.sl*size t.pA<64:=by
     have h5:=Int.mul_le_mul_of_nonneg_right (by omega:t.sl+1≤slots t.pA) (by omega:0≤size t.pA)
     rw[Int.add_mul]at h5
     have h6:=Int.mul_nonneg s0 (by omega:0≤size t.pA)
     omega
    have hpp:(p:Int)=t.pg:=by omega
    rcases blkPg_mem hzp with⟨h3,rfl⟩|⟨h2,i,hi,hi3,rfl⟩
    ·rw[hpp,hk]at h3;cases h3
    ·rw[hpp]at hza hi hi3
     have hza:t.pg*64+i*size (pgA s t.pg (pgAt s ws0 t.pg))=a:=hza
     rw[hA]at hza hi
     have hisl:(i:Int)=t.sl:=by
      rcases Int.lt_trichotomy (i:Int) t.sl with g | g | g
      ·have:=Int.mul_le_mul_of_nonneg_right (by omega:(i:Int)+1≤t.sl) (by omega:0≤size t.pA)
       rw[Int.add_mul]at this;omega
      ·exact g
      ·have:=Int.mul_le_mul_of_nonneg_right (by omega:t.sl+1≤(i:Int)) (by omega:0≤size t.pA)
       rw[Int.add_mul]at this;omega
     have hsu:=(h.snd.pg t.pg.toNat (by omega)).2.sup (by rw[show((t.pg.toNat:Nat):Int)=t.pg by omega];exact beq_iff_eq.2 hk) i (by omega)
     rw[show((t.pg.toNat:Nat):Int)=t.pg by omega,hA]at hsu
     unfold slB at hsu
     rw[decide_eq_true hi,hi3]at hsu
     have hsa:slA (slAt s ws0 t.pg i)=t.pA:=by simpa using hsu
     have:=is_taken hi3
     rw[hsa,hisl]at this
     exact ht this
   unfold claimS
   rw[hcl]
   by_cases hB:t.pB=t.c
   ·rw[if_pos hB];exact .n rfl rfl hws hno
   ·rw[if_neg hB];exact .n rfl rfl hws hno
 |s2 p hd hn hp hg hk hA s0 s1 ha ht hpe hz hx=>
  obtain⟨p0,p1⟩:=h.pb hd
  have hAs:=ok_super (pgK_ne (s:=s) (q:=t.pg) (x:=pgAt s ws0 t.pg) (by rw[hk];decide)) hk
  rw[hA]at hAs
  have hs4:=slots_four hAs.1 hAs.2.1
  obtain⟨-,p',hp',hpw,hpd,hpp,hps,hpc⟩:=w1.n2 hd hn
  rw[hp]at hp'
  injection hp' with hp'
  subst hp'
  rw[w2]at hps
  rw[w3]at hpc
  obtain⟨-,-,-,i0,i1⟩:=hpw.of hpd
  rw[hps]at i1
  have hat:p.at'=mag s.p s.c s.m c p.i:=by unfold Pu.at';rw[hps,hpc]
  rw[step_2 hd hn hp]
  show Ga s ws0 c a (t.kept (p.step w).1) (p.step w).2
  rcases Pu.step_cases p w with⟨e,-⟩|⟨-,⟨hh,e⟩|⟨hh,hg0,e⟩|⟨hh,hg0,e⟩⟩
  ·rw[hpd]at e;cases e
  ·rw[e]
   have hws:(w.store p.c p.at' (putEn p.ep p.es p.ek)).ws=upW w.ws (mag s.p s.c s.m c p.i) (putEn t.pg t.sl t.pA):=by rw[store_ws,hat,hpe.1,hpe.2.1,hpe.2.2]
   have hxx:SX s ws0 t.pg t.sl t.pA c (way c) (some p.i) (w.store p.c p.at' (putEn p.ep p.es p.ek)).ws:=by
    rw[hws]
    refine⟨.inl rfl,?_,fun q q0 q1=>(pg_mg hm hc.1 hc.2 i0 i1 q0 q1).trans (hx.pg' q q0 q1),fun q j q0 q1 j0 j1 hne=>(sl_mg hm hc.1 hc.2 i0 i1 q0 q1 j0 j1).trans (hx.sl' q j q0 q1 j0 j1 hne),fun c' j c0 c1 j0 j1=>?_⟩
    ·rw[sl_mg hm hc.1 hc.2 i0 i1 p0 p1 s0 (by omega)];exact hx.at'
    ·rw[mg_mg hm hc.1 hc.2 i0 i1 c0 j0 j1]
     have hold:mgAt s w.ws c' j=mgAt s ws0 c' j:=by
      rcases hx.mg c' j c0 c1 j0 j1 with g |⟨-,g,-⟩
      ·exact g
      ·cases g
     by_cases he:c'=c∧j=p.i
     ·rw[if_pos he]
      refine .inr ⟨he.1,by rw[he.2],rfl,?_⟩
      rw[← hold,he.1,he.2];exact hz hh
     ·rw[if_neg he];exact .inl hold
   show Ga s ws0 c a (t.kept { p with put:=true,dn:=true }) _
   unfold kept
   rw[if_pos rfl]
   refine .e rfl hg p1 (hxx.snd hm h.snd p0 p1 hk hA s0 s1 hc.1 hc.2 ht) (fun n hn hn2=>?_) (hxx.fd hm p0 p1 hAs.1 hAs.2.1 s0 s1 ht (.inr (by omega)))
   have hn:t.pg<n:=hn
   rw[← ha]
   exact hxx.out (P:=t.pg.toNat) hm (by omega) p1 (by omega) hn2 hk hA s0 s1 hc.1 hc.2 ht
  ·rw[e]
   show Ga s ws0 c a (t.kept { p with hit:=true }) _
   unfold kept
   rw[if_neg (by show ¬ p.put=true;rw[hpp];decide),if_neg (by show ¬ p.dn=true;rw[hpd];decide)]
   refine .s2 _ hd hn rfl hg hk hA s0 s1 ha ht hpe (fun _=>?_) hx
   show mgAt s w.ws c p.i=0
   rw[← mag_at hm hc.1 hc.2 i0 i1,← hat];exact hg0
  ·rw[e]
   show Ga s ws0 c a (t.kept { p with i:=p.i+1,dn:=decide (p.i+1=p.s.m) }) _
   unfold kept
   rw[if_neg (by show ¬ p.put=true;rw[hpp];decide)]
   by_cases hl:p.i+1=p.s.m
   ·rw[if_pos (by show decide (p.i+1=p.s.m)=true;exact decide_eq_true hl)]
    exact .s3 hd rfl hg hk hA s0 s1 ha ht hx
   ·rw[if_neg (by show ¬ decide (p.i+1=p.s.m)=true;rw[decide_eq_false hl];decide)]
    exact .s2 _ hd hn rfl hg hk hA s0 s1 ha ht hpe (fun h2=>by have h2:p.hit=true:=h2;rw[hh]at h2;cases h2) hx
 |s3 hd hn hg hk hA s0 s1 ha ht hx=>
  obtain⟨p0,p1⟩:=h.pb hd
  have hAs:=ok_super (pgK_ne (s:=s) (q:=t.pg) (x:=pgAt s ws0 t.pg) (by rw[hk];decide)) hk
  rw[hA]at hAs
  have hs4:=slots_four hAs.1 hAs.2.1
  rw[step_3 hd hn]
  have hws:(w.store t.c t.sat (opn t.pA)).ws=upW w.ws (slot s.p s.c s.m t.pg t.sl) (opn t.pA):=by rw[store_ws,hsat]
  have hxx:SX s ws0 t.pg t.sl t.pA c (opn t.pA) none (w.store t.c t.sat (opn t.pA)).ws:=by
   rw[hws]
   refine⟨.inr ⟨rfl,rfl⟩,?_,fun q q0 q1=>(pg_sl hm p0 p1 s0 (by omega) q0 q1).trans (hx.pg' q q0 q1),fun q j q0 q1 j0 j1 hne=>?_,fun c' j c0 c1 j0 j1=>?_⟩
   ·rw[sl_sl hm p0 p1 s0 (by omega) p0 s0 (by omega),if_pos ⟨rfl,rfl⟩]
   ·rw[sl_sl hm p0 p1 s0 (by omega) q0 j0 j1,if_neg hne];exact hx.sl' q j q0 q1 j0 j1 hne
   ·rw[mg_sl hm p0 p1 s0 (by omega) c0 j0]
    rcases hx.mg c' j c0 c1 j0 j1 with g |⟨-,g,-⟩
    ·exact .inl g
    ·cases g
  refine .e rfl hg p1 (hxx.snd hm h.snd p0 p1 hk hA s0 s1 hc.1 hc.2 ht) (fun n hn hn2=>?_) (hxx.fd hm p0 p1 hAs.1 hAs.2.1 s0 s1 ht (.inl rfl))
  have hn:t.pg<n:=hn
  rw[← ha]
  exact hxx.out (P:=t.pg.toNat) hm (by omega) p1 (by omega) hn2 hk hA s0 s1 hc.1 hc.2 ht
 | e hd hg hp hs ho hf=>rw[step_dn hd];exact .e hd hg hp hs ho hf
theorem Al.init (hm:may s.p s.c s.m=true) (ho:w.of s) (c0:0≤c) (c1:c<s.c) (hs:Snd s w.ws):Al s w.ws c a (new s c a) w:=by
 refine⟨ho,hm,⟨new_wf ..,rfl,rfl,rfl⟩,⟨c0,c1⟩,fun hd=>?_,hs,?_⟩
 ·have h1:=(new_wf s c a).of hd;exact⟨h1.2.2.2.1,h1.2.2.2.2.1⟩
 ·cases hd:(new s c a).dn
  ·exact .a hd rfl rfl
  ·refine .n hd rfl rfl fun n hn z hz hza=>?_
   have hd':(!there s.p s.c s.m a || decide (status s.p s.c s.m c<0))=true:=hd
   rw[status_yes hm c0 c1,decide_eq_false (by omega)]at hd'
   have hth:there s.p s.c s.m a=false:=by simpa using hd'
   obtain⟨p,hp,hzp⟩:=blks_mem.1 hz
   have hin:=blkPg_in hzp
   have:there s.p s.c s.m a=true:=(there_iff _ _ _ _).2 ⟨hm,by omega,by omega⟩
   rw[hth]at this;cases this
end Gv
end Go.Ma
namespace Go.Ma
open Go.Pl
def Srt (l:List (Int×Int)):Prop:=l.Pairwise (fun a b=>a.1+a.2≤b.1)
section
variable {s:Sh} {ws ws0:Nat→Int}
theorem blkSl_srt (p A:Int) (hA:0≤size A):∀ n,Srt (blkSl s ws p A n)
 | 0=>List.Pairwise.nil
 |n+1=>by
  unfold blkSl Srt
  refine List.pairwise_append.2 ⟨blkSl_srt p A hA n,by split<;>simp,fun a ha b hb=>?_⟩
  split at hb
  ·simp only[List.mem_singleton]at hb
   subst hb
   obtain⟨i,hi,-,rfl⟩:=blkSl_mem.1 ha
   show p*64+i*size A+size A≤p*64+n*size A
   have:=Int.mul_le_mul_of_nonneg_right (by omega:(i:Int)+1≤n) hA
   rw[Int.add_mul]at this;omega
  ·cases hb
theorem blkPg_pos {p:Nat} {z:Int×Int} (hm:may s.p s.c s.m=true) (hs:Snd s ws) (p1:(p:Int)<s.p) (h:z∈blkPg s ws p):1≤z.2∧z.1+z.2≤s.p*64∧(z.1+z.2≤p*64+64∨∃ A,z=((p:Int)*64,A*64)∧pgK s p (pgAt s ws p)=3∧pgA s p (pgAt s ws p)=A):=by
 rcases blkPg_mem h with⟨h3,rfl⟩|⟨h2,i,hi,-,rfl⟩
 ·have hr:=row_bd hm hs (by omega) p1 h3 rfl
  exact⟨by show 1≤_*(64:Int);omega,by show(p:Int)*64+_*64≤_;omega,.inr ⟨_,rfl,h3,rfl⟩⟩
 ·have hAs:=Gv.ok_super (pgK_ne (s:=s) (q:=p) (x:=pgAt s ws p) (by rw[h2];decide)) h2
  have hs4:=slots_four hAs.1 hAs.2.1
  have h5:=Int.mul_le_mul_of_nonneg_right (by omega:(i:Int)+1≤slots (pgA s p (pgAt s ws p))) (by omega:0≤size (pgA s p (pgAt s ws p)))
  rw[Int.add_mul]at h5
  exact⟨by show 1≤size _;omega,by show(p:Int)*64+i*size _+size _≤_;omega,.inl (by show(p:Int)*64+i*size _+size _≤_;omega)⟩
theorem blkPg_srt (p:Int):Srt (blkPg s ws p):=by
 unfold blkPg
 split
 ·exact List.pairwise_singleton _ _
 ·split
  ·refine blkSl_srt _ _ ?_ _
   unfold size
   repeat' split
   all_goals decide
  ·exact List.Pairwise.nil
theorem Snd.srt (hm:may s.p s.c s.m=true) (hs:Snd s ws):∀ n:Nat,(n:Int)≤s.p→Srt (blks s ws n)
 | 0,_=>List.Pairwise.nil
 |n+1,hn=>by
  unfold blks
  refine List.pairwise_append.2 ⟨Snd.srt hm hs n (by omega),blkPg_srt _,fun a ha b hb=>?_⟩
  obtain⟨p,hp,hz⟩:=blks_mem.1 ha
  have h1:=blkPg_in hb
  rcases (blkPg_pos hm hs (by omega) hz).2.2 with h |⟨A,rfl,h3,hA⟩
  ·omega
  ·show(p:Int)*64+A*64≤b.1
   by_cases e:(p:Int)+A≤n
   ·omega
   ·exfalso
    have hb4:=row_body hm hs (by omega) (by omega) h3 hA (j:=(n:Int) - p) (by omega) (by omega)
    rw[show(p:Int)+((n:Int) - p)=n by omega]at hb4
    rw[blkPg_none (by rw[hb4.1];decide) (by rw[hb4.1];decide)]at hb
    cases hb
end
def Out2 (l l':List (Int×Int)) (y:Int×Int):Prop:=∃ pre post,l=pre ++ [y] ++ post∧l'=pre ++ post∧(∀ z∈pre,z.1≠y.1)∧∀ z∈post,z.1≠y.1
theorem Out.two {l l':List (Int×Int)} {a:Int} {z:Int×Int} (h:Out l l' a) (hz:z∈l) (ha:z.1=a):Out2 l l' z:=by
 obtain⟨pre,post,y,rfl,rfl,hy,h1,h2⟩:=h
 have e:z=y:=by
  simp only[List.mem_append,List.mem_singleton]at hz
  rcases hz with(hz | hz) | hz
  ·exact absurd ha (h1 z hz)
  ·exact hz
  ·exact absurd ha (h2 z hz)
 subst e
 exact⟨pre,post,rfl,rfl,fun x hx=>by rw[ha];exact h1 x hx,fun x hx=>by rw[ha];exact h2 x hx⟩
section
variable {s:Sh} {ws ws0:Nat→Int} {c:Int} {b:Bk}
theorem large_ok {q n:Int} (hm:may s.p s.c s.m=true) (q0:0≤q) (n1:1≤n) (n8:n≤8) (nq:q+n≤s.p):okPg s q (putPg 3 n 0)=true∧pgK s q (putPg 3 n 0)=3∧pgA s q (putPg 3 n 0)=n:=by
 have hb:=(may_iff _ _ _).1 hm
 have hv:putPg 3 n 0=3+16*n:=by unfold putPg;rw[if_pos (by omega)];omega
 have e1:(3+16*n) % 16=3:=by omega
 have e2:pt (3+16*n) 16=n:=by unfold pt;omega
 have e3:pt (3+16*n) 4096=0:=by unfold pt;omega
 have hp:0≤page s.p s.c s.m q:=by rw[page_yes hm (by omega) (by omega)];omega
 have ok:okPg s q (putPg 3 n 0)=true:=by
  rw[hv]
  unfold okPg
  rw[e1,e2,e3]
  have g1:decide (putPg 3 n 0=3+16*n)=true:=decide_eq_true hv
  have g3:fits s q 3 n 0=true:=by unfold fits;simp;omega
  rw[g1,g3,decide_eq_true hp];rfl
 refine⟨ok,?_,?_⟩
 ·unfold pgK;rw[if_pos ok,hv,e1]
 ·unfold pgA;rw[if_pos ok,hv,e2]
structure Res (s:Sh) (ws:Nat→Int) (c:Int) (b:Bk):Prop where
 f:b.Fit s c
 l:b.lg=true→pgAt s ws b.p=held c∧Rw.Zs s ws b.p∧(∀ q,b.p<q→q<b.p+b.n→pgAt s ws q=putPg 4 b.p 0)∧∀ q,0≤q→q<s.p→pgK s q (pgAt s ws q)=4→pgA s q (pgAt s ws q)=b.p→q<b.p+b.n
 s:b.lg=false→0≤b.k∧b.k≤3∧pgK s b.p (pgAt s ws b.p)=2∧pgA s b.p (pgAt s ws b.p)=b.k∧slAt s ws b.p b.i=way c∧∀ c' j,0≤c'→c'<s.c→0≤j→j<s.m→mgAt s ws c' j≠0→¬ (enP s (mgAt s ws c' j)=b.p∧enS s (mgAt s ws c' j)=b.i)
theorem Res.fd (hm:may s.p s.c s.m=true) (h:Res s ws0 c b) (hf:Fd s ws0 ws):Res s ws c b:=by
 have hb:=(may_iff _ _ _).1 hm
 have F:=h.f
 refine⟨F,fun e=>?_,fun e=>?_⟩
 ·obtain⟨h1,h2,h3,h4⟩:=h.l e
  have hl:=F.l e
  have ho:=held_ok hm F.p0 F.p1 F.c0 F.c1
  have h1':pgAt s ws b.p=held c:=by
   rcases hf.pg b.p F.p0 F.p1 with g |⟨-,g |⟨g,-⟩⟩
   ·rw[g,h1]
   ·rw[h1,ho.2.1]at g;cases g
   ·rw[h1,ho.2.1]at g;cases g
  refine⟨h1',fun j j0 j1=>?_,fun q q0 q1=>?_,fun q q0 q1 hk hA=>?_⟩
  ·rcases hf.sl b.p j F.p0 F.p1 j0 j1 with g |⟨g,-⟩
   ·rw[g];exact h2 j j0 j1
   ·rw[h2 j j0 j1]at g;exact absurd g (by decide)
  ·have hbo:=body_ok (s:=s) (q:=q) hm F.p0 q0 (by omega) (by omega)
   rcases hf.pg q (by have:=F.p0;omega) (by omega) with g |⟨-,g |⟨-,-,-,g⟩⟩
   ·rw[g];exact h3 q q0 q1
   ·rw[h3 q q0 q1,hbo.2.1]at g;cases g
   ·rw[h3 q q0 q1,hbo.2.2,h1,ho.2.1]at g;cases g
  ·rcases hf.pg q q0 q1 with g |⟨g,-⟩
   ·rw[g]at hk hA;exact h4 q q0 q1 hk hA
   ·rw[g,pgK_zero]at hk;cases hk
 ·obtain⟨k0,k1,h1,h2,h3,h4⟩:=h.s e
  have hsl:=F.s e
  have hs4:=slots_four k0 k1
  have wn:=way_ne c F.c0 (by have:=F.c1;omega)
  have hp:pgAt s ws b.p=pgAt s ws0 b.p:=by
   rcases hf.pg b.p F.p0 F.p1 with g |⟨-,g |⟨g,-⟩⟩
   ·exact g
   ·rw[h1]at g;cases g
   ·rw[h1]at g;cases g
  refine⟨k0,k1,by rw[hp];exact h1,by rw[hp];exact h2,?_,fun c' j c0 c1 j0 j1 hx=>?_⟩
  ·rcases hf.sl b.p b.i F.p0 F.p1 hsl.1 (by omega) with g |⟨g,-⟩
   ·rw[g];exact h3
   ·rw[h3,wn.2.1]at g;cases g
  ·rcases hf.mg c' j c0 c1 j0 j1 with g |⟨p,i,-,-,-,-,e1,e2,g⟩
   ·rw[g]at hx ⊢;exact h4 c' j c0 c1 j0 j1 hx
   ·rintro⟨g1,g2⟩
    rw[← e1,← e2,g1,g2,h3,wn.2.1]at g;cases g
def cmW (s:Sh) (ws:Nat→Int) (b:Bk):Nat→Int:=if b.lg then upW ws (page s.p s.c s.m b.p) (putPg 3 b.n 0) else upW ws (slot s.p s.c s.m b.p b.i) (putSl 3 b.k)
theorem Res.cm_snd (hm:may s.p s.c s.m=true) (hs:Snd s ws) (h:Res s ws c b):Snd s (cmW s ws b):=by
 have hb:=(may_iff _ _ _).1 hm
 have F:=h.f
 have p0:=F.p0
 have p1:=F.p1
 unfold cmW
 cases e:b.lg
 ·simp only[Bool.false_eq_true,if_false]
  obtain⟨k0,k1,h1,h2,h3,h4⟩:=h.s e
  have hsl:=F.s e
  have hs4:=slots_four k0 k1
  have tn:=taken_ne b.k k0 (by omega)
  have i1:b.i<16:=by omega
  refine⟨fun q q1=>?_,fun c' j h1' h2' hx=>?_,fun c' j c'' j' g1 g2 g3 ha hx hy=>?_⟩
  ·obtain⟨e1,e2⟩:=hs.pg q q1
   rw[pg_sl hm p0 p1 hsl.1 i1 (by omega) q1]
   refine⟨e1,⟨fun k j hj=>?_,fun k k' j hj=>?_,fun k k' k4=>?_,fun k k' k4 k3 j j1 j2=>?_⟩⟩
   ·rw[sl_sl hm p0 p1 hsl.1 i1 (by omega) (by omega) (by omega)]
    by_cases hq:(q:Int)=b.p∧(j:Int)=b.i
    ·rw[if_pos hq,hq.1,hq.2,h2]
     unfold slB
     rw[decide_eq_true hsl.2]
     show((((slK (taken b.k) == 1) || (slK (taken b.k) == 3)) && (slA (taken b.k) == b.k)) || ((slK (taken b.k) == 2) && decide (slA (taken b.k)<s.c)))=true
     rw[tn.2.1,tn.2.2];simp
    ·rw[if_neg hq];exact e2.sup k j hj
   ·rw[sl_sl hm p0 p1 hsl.1 i1 (by omega) (by omega) (by omega),if_neg fun hq=>by rw[hq.1,h1]at k;cases k];exact e2.emp k k' j hj
   ·have hbo:=Ad.ok_body e1 (beq_iff_eq.1 k4)
    rw[pg_sl hm p0 p1 hsl.1 i1 hbo.1 (by omega)];exact e2.bod k k' k4
   ·have hl:=large_bd e1 (beq_iff_eq.1 k3)
    rw[pg_sl hm p0 p1 hsl.1 i1 (by omega) (by omega)];exact e2.lar k k' k4 k3 j j1 j2
  ·rw[mg_sl hm p0 p1 hsl.1 i1 (by omega) (by omega)]at hx ⊢
   obtain⟨e1,e2,e3,e4⟩:=hs.en c' j h1' h2' hx
   have hE:=en_bd e1
   refine⟨e1,by rw[pg_sl hm p0 p1 hsl.1 i1 hE.1 hE.2.1];exact e2,by rw[pg_sl hm p0 p1 hsl.1 i1 hE.1 hE.2.1];exact e3,?_⟩
   rw[sl_sl hm p0 p1 hsl.1 i1 hE.1 hE.2.2.1 hE.2.2.2,if_neg (h4 c' j (by omega) h1' (by omega) h2' hx)];exact e4
  ·have hc':(c'':Int)<s.c:=by unfold ahead at ha;omega
   rw[mg_sl hm p0 p1 hsl.1 i1 (by omega) (by omega)]at hx hy ⊢
   rw[mg_sl hm p0 p1 hsl.1 i1 (by omega) (by omega)]
   exact hs.dj c' j c'' j' g1 g2 g3 ha hx hy
 ·simp only[if_true]
  obtain⟨h1,h2,h3,h4⟩:=h.l e
  have hl:=F.l e
  have ho:=held_ok hm p0 p1 F.c0 F.c1
  have lo:=large_ok (s:=s) (q:=b.p) (n:=b.n) hm p0 hl.1 hl.2.1 hl.2.2
  have hbo:=fun q (q0:b.p<q) (q1:q<b.p+b.n)=>body_ok (s:=s) (q:=q) hm p0 q0 (by omega) (by omega)
  refine⟨fun q q1=>?_,fun c' j h1' h2' hx=>?_,fun c' j c'' j' g1 g2 g3 ha hx hy=>?_⟩
  ·obtain⟨e1,e2⟩:=hs.pg q q1
   rw[pg_pg hm p0 p1 (by omega) q1]
   by_cases hq:(q:Int)=b.p
   ·rw[if_pos hq,hq]
    refine⟨lo.1,SpB.large (by rw[lo.2.1];rfl) (fun i hi=>?_) (by rw[lo.2.1];rfl) fun i i1 i2=>?_⟩
    ·rw[sl_pg hm p0 p1 p0 (by omega)];exact h2 i (by omega) (by omega)
    ·rw[lo.2.2]at i2
     rw[pg_pg hm p0 p1 (by omega) (by omega),if_neg (by omega),h3 (b.p+i) (by omega) (by omega)]
     have:=hbo (b.p+i) (by omega) (by omega)
     exact⟨this.2.1,this.2.2⟩
   ·rw[if_neg hq]
    refine⟨e1,⟨fun k j hj=>?_,fun k k' j hj=>?_,fun k k' k4=>?_,fun k k' k4 k3 j j1 j2=>?_⟩⟩
    ·rw[sl_pg hm p0 p1 (by omega) (by omega)];exact e2.sup k j hj
    ·rw[sl_pg hm p0 p1 (by omega) (by omega)];exact e2.emp k k' j hj
    ·have hb':=Ad.ok_body e1 (beq_iff_eq.1 k4)
     rw[pg_pg hm p0 p1 hb'.1 (by omega)]
     by_cases hA:pgA s q (pgAt s ws q)=b.p
     ·rw[if_pos hA,hA,lo.2.1,lo.2.2]
      have:=h4 q (by omega) q1 (beq_iff_eq.1 k4) hA
      simp;omega
     ·rw[if_neg hA];exact e2.bod k k' k4
    ·have hl':=large_bd e1 (beq_iff_eq.1 k3)
     have hr:=e2.lar k k' k4 k3 j j1 j2
     rw[pg_pg hm p0 p1 (by omega) (by omega),if_neg fun g=>by rw[g,h1,ho.2.1]at hr;exact absurd hr.1 (by decide)]
     exact hr
  ·rw[mg_pg hm p0 p1 (by omega) (by omega)]at hx ⊢
   obtain⟨e1,e2,e3,e4⟩:=hs.en c' j h1' h2' hx
   have hE:=en_bd e1
   have hne:enP s (mgAt s ws c' j)≠b.p:=fun g=>by rw[g,h1,ho.2.1]at e2;cases e2
   exact⟨e1,by rw[pg_pg hm p0 p1 hE.1 hE.2.1,if_neg hne];exact e2,by rw[pg_pg hm p0 p1 hE.1 hE.2.1,if_neg hne];exact e3,by rw[sl_pg hm p0 p1 hE.1 hE.2.2.1];exact e4⟩
  ·have hc':(c'':Int)<s.c:=by unfold ahead at ha;omega
   rw[mg_pg hm p0 p1 (by omega) (by omega)]at hx hy ⊢
   rw[mg_pg hm p0 p1 (by omega) (by omega)]
   exact hs.dj c' j c'' j' g1 g2 g3 ha hx hy
theorem Res.cm_out (hm:may s.p s.c s.m=true) (hs:Snd s ws) (h:Res s ws c b) {n:Nat} (hn:b.p<n) (hn2:(n:Int)≤s.p):Out2 (blks s (cmW s ws b) n) (blks s ws n) (b.ad,b.len):=by
 have hb:=(may_iff _ _ _).1 hm
 have F:=h.f
 have p0:=F.p0
 have p1:=F.p1
 obtain⟨P,hP⟩:∃ P:Nat,(P:Int)=b.p:=⟨b.p.toNat,by omega⟩
 unfold cmW Bk.ad Bk.len
 cases e:b.lg
 ·simp only[Bool.false_eq_true,if_false]
  obtain⟨k0,k1,h1,h2,h3,h4⟩:=h.s e
  have hsl:=F.s e
  have hs4:=slots_four k0 k1
  have tn:=taken_ne b.k k0 (by omega)
  have wn:=way_ne c F.c0 (by have:=F.c1;omega)
  have i1:b.i<16:=by omega
  obtain⟨j,hj⟩:∃ j:Nat,(j:Int)=b.i:=⟨b.i.toNat,by omega⟩
  obtain⟨W,hW⟩:∃ W,upW ws (slot s.p s.c s.m b.p b.i) (putSl 3 b.k)=W:=⟨_,rfl⟩
  have hpg:∀ q,0≤q→q<s.p→pgAt s W q=pgAt s ws q:=fun q q0 q1=>by rw[← hW];exact pg_sl hm p0 p1 hsl.1 i1 q0 q1
  have hslo:∀ q i,0≤q→q<s.p→0≤i→i<16→¬ (q=b.p∧i=b.i)→slAt s W q i=slAt s ws q i:=fun q i q0 q1 i0 i1' hne=>by rw[← hW,sl_sl hm p0 p1 hsl.1 i1 q0 i0 i1',if_neg hne]
  have hsat:slAt s W b.p b.i=putSl 3 b.k:=by rw[← hW,sl_sl hm p0 p1 hsl.1 i1 p0 hsl.1 i1,if_pos ⟨rfl,rfl⟩]
  rw[hW]
  have ho:Out (blks s W n) (blks s ws n) (b.p*64+b.i*size b.k):=by
   refine page_out (p:=P) (by omega) (fun q hq hne=>(blkPg_congr (by rw[hpg q (by omega) (by omega)]) (fun _=>by rw[hpg q (by omega) (by omega)]) fun _ i hi=>by rw[hslo q i (by omega) (by omega) (by omega) (by omega) (by omega)]).symm) ?_
   obtain⟨R,r1,r2,r3⟩:=blkSl_split (s:=s) (ws:=W) (p:=P) (A:=b.k) j (slots b.k).toNat (by omega)
   have e1:blkPg s ws P=blkSl s ws P b.k (slots b.k).toNat:=by unfold blkPg;rw[hP,if_neg (by rw[h1];decide),if_pos h1,h2]
   have e2:blkPg s W P=blkSl s W P b.k (slots b.k).toNat:=by unfold blkPg;rw[hP,hpg b.p p0 p1,if_neg (by rw[h1];decide),if_pos h1,h2]
   have r4:=r3 ws (fun i hi hne=>by rw[hslo P i (by omega) (by omega) (by omega) (by omega) (by omega)]) (by rw[hP,hj,h3,wn.2.1];decide)
   rw[hP,hj,hsat,if_pos (show slK (putSl 3 b.k)=3 from tn.2.1)]at r2
   rw[e1,e2]
   rw[hP]at r1 r4 ⊢
   rw[r2,r4]
   have mono:∀ u v:Int,u<v→b.p*64+u*size b.k≠b.p*64+v*size b.k:=fun u v huv=>by
    have:=Int.mul_le_mul_of_nonneg_right (by omega:u+1≤v) (by omega:0≤size b.k)
    rw[Int.add_mul]at this
    omega
   refine⟨blkSl s W b.p b.k j,R,_,rfl,rfl,rfl,fun z hz=>?_,fun z hz=>?_⟩
   ·obtain⟨i,hi,-,rfl⟩:=blkSl_mem.1 hz
    exact mono i b.i (by omega)
   ·obtain⟨i,hi,hi2,rfl⟩:=r1 z hz
    exact fun e=>mono b.i i (by omega) e.symm
  refine ho.two (blks_mem.2 ⟨P,by omega,?_⟩) rfl
  unfold blkPg
  rw[hP,hpg b.p p0 p1,if_neg (by rw[h1];decide),if_pos h1,h2]
  exact blkSl_mem.2 ⟨j,by omega,by rw[hj,hsat];exact tn.2.1,by rw[hj]⟩
 ·simp only[if_true]
  obtain⟨h1,h2,h3,h4⟩:=h.l e
  have hl:=F.l e
  have ho:=held_ok hm p0 p1 F.c0 F.c1
  have lo:=large_ok (s:=s) (q:=b.p) (n:=b.n) hm p0 hl.1 hl.2.1 hl.2.2
  obtain⟨W,hW⟩:∃ W,upW ws (page s.p s.c s.m b.p) (putPg 3 b.n 0)=W:=⟨_,rfl⟩
  have hpg:∀ q,0≤q→q<s.p→pgAt s W q=if q=b.p then putPg 3 b.n 0 else pgAt s ws q:=fun q q0 q1=>by rw[← hW];exact pg_pg hm p0 p1 q0 q1
  have hsl:∀ q i,0≤q→q<s.p→0≤i→slAt s W q i=slAt s ws q i:=fun q i q0 q1 i0=>by rw[← hW];exact sl_pg hm p0 p1 q0 i0
  rw[hW]
  have e1:blkPg s ws P = []:=blkPg_none (by rw[hP,h1,ho.2.1];decide) (by rw[hP,h1,ho.2.1];decide)
  have e2:blkPg s W P = [(b.p*64,b.n*64)]:=by unfold blkPg;rw[hP,hpg b.p p0 p1,if_pos rfl,if_pos lo.2.1,lo.2.2]
  have hx:Out (blks s W n) (blks s ws n) (b.p*64):=by
   refine page_out (p:=P) (by omega) (fun q hq hne=>(blkPg_congr (by rw[hpg q (by omega) (by omega),if_neg (by omega)]) (fun _=>by rw[hpg q (by omega) (by omega),if_neg (by omega)]) fun _ i hi=>by rw[hsl q i (by omega) (by omega) (by omega)]).symm) ?_
   rw[e1,e2]
   exact⟨[],[],_,rfl,rfl,rfl,by simp,by simp⟩
  exact hx.two (blks_mem.2 ⟨P,by omega,by rw[e2];simp⟩) rfl
end
end Go.Ma
namespace Go.Ma
open Go.Pl
section
variable {s:Sh} {ws0 ws:Nat→Int} {c k f p q:Int} {b:Bk}
theorem way_not_opn {c:Int} (c0:0≤c) (c1:c≤255) {x:Int} (h:x=putSl 2 c):slK x=2:=by
 rw[h];exact(way_ne c c0 c1).2.1
theorem Snd.free_en (hm:may s.p s.c s.m=true) (hs:Snd s ws0) (hf:Rw.Free s ws0 p) {c' j:Nat} (h1:(c':Int)<s.c) (h2:(j:Int)<s.m) (hx:mgAt s ws0 c' j≠0):enP s (mgAt s ws0 c' j)≠p:=by
 have hb:=(may_iff _ _ _).1 hm
 intro he
 obtain⟨r1,r2,r3,r4⟩:=hs.en c' j h1 h2 hx
 have hb2:=en_bd r1
 have hS:=en_slot r1
 rw[he]at r2 r3 r4
 rcases hf with g |⟨g,g2⟩
 ·rw[r2]at g;cases g
 ·have:=g2 _ hb2.2.2.1 (by rw[r3];exact hS)
  rw[way_not_opn (by omega) (by omega) r4]at this;cases this
inductive Gq (s:Sh) (ws0 ws:Nat→Int) (c:Int) (b:Bk) (q:Int):Prop
 | u (e:Rw.Un s ws0 ws q)
 | e (e:Rw.Em s ws0 ws q)
 | r (l:b.lg=true) (h0:b.p≤q) (h1:q<b.p+b.n) (f:Rw.Free s ws0 q)
 | s1 (l:b.lg=false) (h:q=b.p) (e:Rw.Un s ws0 ws q) (w:slAt s ws0 q b.i=way c) (k:pgK s q (pgAt s ws0 q)=2∧pgA s q (pgAt s ws0 q)=b.k)
 | s2 (l:b.lg=false) (h:q=b.p) (p:pgAt s ws q=pgAt s ws0 q) (w:slAt s ws0 q b.i=opn b.k) (o:∀ i,0≤i→i<16→i≠b.i→slAt s ws q i=slAt s ws0 q i) (k:pgK s q (pgAt s ws0 q)=2∧pgA s q (pgAt s ws0 q)=b.k)
 | s3 (l:b.lg=false) (h:q=b.p) (f:Rw.Free s ws0 q) (o:∀ i,0≤i→i<slots b.k→i≠b.i→slAt s ws q i=opn b.k)
structure Got (s:Sh) (ws0 ws:Nat→Int) (c:Int) (b:Bk):Prop where
 res:Res s ws c b
 snd:Snd s ws
 pg:∀ q,0≤q→q<s.p→Gq s ws0 ws c b q
 row:b.lg=true→∀ q,b.p≤q→q<b.p+b.n→Rw.Free s ws0 q
structure Lost (s:Sh) (ws0 ws:Nat→Int):Prop where
 snd:Snd s ws
 pg:∀ q,0≤q→q<s.p→Rw.Un s ws0 ws q∨Rw.Em s ws0 ws q
theorem un_blk (hq:(0:Int)≤q) {P:Nat} (hP:(P:Int)=q) (h:Rw.Un s ws0 ws q):blkPg s ws P=blkPg s ws0 P:=by
 subst hP
 exact blkPg_congr (by rw[h.1]) (fun _=>by rw[h.1]) fun _ i hi=>by rw[h.2 i (by omega) (by omega)]
theorem em_blk {P:Nat} (hP:(P:Int)=q) (h:Rw.Em s ws0 ws q):blkPg s ws P=blkPg s ws0 P:=by
 subst hP
 rw[h.1.none,blkPg_none (by rw[h.2.1,pgK_zero];decide) (by rw[h.2.1,pgK_zero];decide)]
theorem Lost.blks (h:Lost s ws0 ws) {n:Nat} (hn:(n:Int)≤s.p):Go.Ma.blks s ws n=Go.Ma.blks s ws0 n:=
 blks_congr fun p hp=>by
  rcases h.pg p (by omega) (by omega) with g | g
  ·exact un_blk (by omega) rfl g
  ·exact em_blk rfl g
theorem Got.blks (hm:may s.p s.c s.m=true) (h:Got s ws0 ws c b) {n:Nat} (hn:(n:Int)≤s.p):Go.Ma.blks s ws n=Go.Ma.blks s ws0 n:=
 blks_congr fun p hp=>by
  have hb:=(may_iff _ _ _).1 hm
  have F:=h.res.f
  have wn:=way_ne c F.c0 (by have:=F.c1;omega)
  cases h.pg p (by omega) (by omega) with
  | u g=>exact un_blk (by omega) rfl g
  | e g=>exact em_blk rfl g
  |r l h0 h1 f=>
   have hl:=F.l l
   obtain⟨g1,g2,g3,g4⟩:=h.res.l l
   rw[f.none]
   by_cases e:(p:Int)=b.p
   ·have ho:=held_ok hm F.p0 F.p1 F.c0 F.c1
    exact blkPg_none (by rw[e,g1,ho.2.1];decide) (by rw[e,g1,ho.2.1];decide)
   ·have hbo:=body_ok (s:=s) (q:=p) hm F.p0 (by omega) (by omega) (by omega)
    rw[← g3 p (by omega) h1]at hbo
    exact blkPg_none (by rw[hbo.2.1];decide) (by rw[hbo.2.1];decide)
  | s1 l e g=>exact un_blk (by omega) rfl g
  |s2 l e g w o k=>
   obtain⟨k0,k1,r1,r2,r3,r4⟩:=h.res.s l
   have on:=opn_ne b.k k0 (by omega)
   refine blkPg_congr (by rw[g]) (fun _=>by rw[g]) fun _ i hi=>?_
   by_cases ei:(i:Int)=b.i
   ·rw[ei,w,on.2.1,e,r3,wn.2.1];decide
   ·rw[o i (by omega) (by omega) ei]
  |s3 l e f o=>
   obtain⟨k0,k1,r1,r2,r3,r4⟩:=h.res.s l
   have on:=opn_ne b.k k0 (by omega)
   rw[f.none]
   unfold blkPg
   rw[e,if_neg (by rw[r1];decide),if_pos r1,r2]
   refine List.eq_nil_iff_forall_not_mem.2 fun z hz=>?_
   obtain⟨i,hi,h3,-⟩:=blkSl_mem.1 hz
   by_cases ei:(i:Int)=b.i
   ·rw[ei,r3,wn.2.1]at h3;cases h3
   ·rw[← e,o i (by omega) (by omega) ei,on.2.1]at h3;cases h3
end
namespace Sa
section
variable {s:Sh} {ws0 ws:Nat→Int} {c k f p:Int} {t:Sk} {w:Wd}
theorem Off.un (hm:may s.p s.c s.m=true) (p0:0≤p) (p1:p<s.p) (h:Off s ws0 ws p) {q:Int} (q0:0≤q) (q1:q<s.p) (hne:q≠p):Rw.Un s ws0 ws q:=by
 have hb:=(may_iff _ _ _).1 hm
 refine⟨?_,fun j j0 j1=>?_⟩
 ·unfold pgAt;rw[page_yes hm q0 q1];exact h _ (by omega) (by omega)
 ·exact h _ (by omega) (by omega)
theorem Off.mg (hm:may s.p s.c s.m=true) (p0:0≤p) (p1:p<s.p) (h:Off s ws0 ws p) {c' j:Int} (a0:0≤c') (b0:0≤j):mgAt s ws c' j=mgAt s ws0 c' j:=by
 have hb:=(may_iff _ _ _).1 hm
 have h5:=Int.mul_nonneg a0 (by omega:0≤s.m)
 exact h _ (by omega) (by omega)
theorem Al.sound (h:Al s ws0 c k f t w):Snd s w.ws:=by
 have hm:=h.ok
 have hb:=(may_iff _ _ _).1 hm
 obtain⟨hc,c0,c1⟩:=h.ec
 obtain⟨hk,k0,k1⟩:=h.kk
 have hts:=h.es
 have hsn:=h.snd
 have hsk:=slots_four k0 k1
 have wn:=way_ne c c0 (by omega)
 have on:=opn_ne k k0 (by omega)
 cases h.ph with
 | tk m e hd hh hw=>rw[hw];exact hsn
 | ht m e hd hh hw=>rw[hw];exact hsn
 | sc m e hd hw=>rw[hw];exact hsn
 | pc m e hd hw=>rw[hw];exact hsn
 | no e hd hw=>rw[hw];exact hsn
 |st m e hd no ns ne nf of tr kk bk=>
  obtain⟨ho,hmd⟩:=h.wf.nw hd
  rw[e]at ho
  obtain⟨o1,o2,o3,o4,o5⟩:=ho
  have hpe:m.p=(f+t.many) % s.p:=by rw[o4];unfold Sk.here;rw[hts,h.ff.1]
  have p0:0≤m.p:=by rw[hpe];exact Int.emod_nonneg _ (by omega)
  have p1:m.p<s.p:=by rw[hpe];exact Int.emod_lt_of_pos _ (by omega)
  refine Rw.Pq.snd (h:=0) hm hsn c0 c1 (fun q q0 q1=>?_) fun c' j a0 a1 b0 b1=>of.mg hm p0 p1 a0 b0
  by_cases e2:q=m.p
  ·subst e2;exact .t _ tr
  ·exact .u (of.un hm p0 p1 q0 q1 e2)
 |b1 m e hd og of hx pg sl=>
  obtain⟨ho,hmd⟩:=h.wf.nw hd
  rw[e]at ho hmd
  have hmd:m.dn=false:=hmd
  obtain⟨o1,o2,o3,o4,o5,o6,o7⟩:=ho
  obtain⟨-,-,-,p0,p1,-⟩:=o1.of hmd
  rw[o2,hts]at p1
  refine Rw.Pq.snd (h:=0) hm hsn c0 c1 (fun q q0 q1=>?_) fun c' j a0 a1 b0 b1=>of.mg hm p0 p1 a0 b0
  by_cases e2:q=m.p
  ·subst e2;exact .h og.1 pg
  ·exact .u (of.un hm p0 p1 q0 q1 e2)
 |b2 m e hd og of hx pg sl so sz=>
  obtain⟨ho,hmd⟩:=h.wf.nw hd
  rw[e]at ho hmd
  have hmd:m.dn=false:=hmd
  obtain⟨o1,o2,o3,o4,o5,o6,o7⟩:=ho
  obtain⟨-,-,-,p0,p1,-⟩:=o1.of hmd
  rw[o2,hts]at p1
  obtain⟨fr,-⟩:=og
  have hso:=super_ok hm p0 p1 k0 k1 c0 c1
  refine one hm hsn p0 p1 (fr.imp id fun x=>x.1) (fun q q0 q1 hne=>of.un hm p0 p1 q0 q1 hne) (by rw[pg];exact hso.1) (by rw[pg];exact hso.2.1) (fun j hj=>?_) (fun c' j a0 a1 b0 b1=>.inl (of.mg hm p0 p1 a0 b0)) (fun c' j a1 b1 hx he hE=>absurd he (hsn.free_en hm fr a1 b1 hx))
  rw[pg,hso.2.2]
  unfold slB
  by_cases e1:(j:Int)<slots k
  ·rw[decide_eq_true e1]
   by_cases e0:(j:Int)≤m.i
   ·rw[sl j (by omega) e0,wn.2.1,wn.2.2];simp;exact c1
   ·rw[so j (by omega) e1,on.2.1,on.2.2];simp
  ·rw[decide_eq_false e1,sz j (by omega) (by omega)];rfl
 | f1 i hd=>exact(h.ends hd).1
 | f2 hd=>exact(h.ends hd).1
 | f3 hd=>exact(h.ends hd).1
 | n hd=>exact(h.ends hd).1
theorem Al.got (h:Al s ws0 c k f t w) (hd:t.dn=true) (hf:t.fd=true):Got s ws0 w.ws c ⟨false,t.pg,t.sl,t.k,0⟩:=by
 have hm:=h.ok
 have hb:=(may_iff _ _ _).1 hm
 obtain⟨hc,c0,c1⟩:=h.ec
 obtain⟨hk,k0,k1⟩:=h.kk
 have hsn:=h.snd
 have hsk:=slots_four k0 k1
 have wn:=way_ne c c0 (by omega)
 have on:=opn_ne k k0 (by omega)
 obtain⟨hS,hE⟩:=h.ends hd
 obtain⟨p0,p1,s0,s1,e1,e2,e3,e4⟩:=hE hf
 have mk:t.sl<slots k→(∀ c' j,0≤c'→c'<s.c→0≤j→j<s.m→mgAt s w.ws c' j≠0→¬ (enP s (mgAt s w.ws c' j)=t.pg∧enS s (mgAt s w.ws c' j)=t.sl))→Res s w.ws c ⟨false,t.pg,t.sl,t.k,0⟩:=fun hl hno=>
  ⟨⟨hm,c0,c1,p0,p1,fun g=>(by cases g),fun _=>⟨s0,by show t.sl<slots t.k;rw[hk];exact hl⟩⟩,fun g=>(by cases g),fun _=>⟨by show 0≤t.k;omega,by show t.k≤3;omega,e2,e3.trans hk.symm,e4,hno⟩⟩
 cases h.ph with
 | tk m e hd'=>rw[hd]at hd';cases hd'
 | ht m e hd'=>rw[hd]at hd';cases hd'
 | sc m e hd'=>rw[hd]at hd';cases hd'
 | pc m e hd'=>rw[hd]at hd';cases hd'
 | no e hd'=>rw[hd]at hd';cases hd'
 | st m e hd'=>rw[hd]at hd';cases hd'
 | b1 m e hd'=>rw[hd]at hd';cases hd'
 | b2 m e hd'=>rw[hd]at hd';cases hd'
 | n _ hf' hw=>rw[hf]at hf';cases hf'
 |f1 i _ hf' i0 i1 ok kk hp hs hw=>
  have un:∀ q,0≤q→q<s.p→Rw.Un s ws0 w.ws q:=fun q q0 q1=>by
   rw[hw];exact⟨pg_mg hm c0 c1 i0 i1 q0 q1,fun j j0 j1=>sl_mg hm c0 c1 i0 i1 q0 q1 j0 j1⟩
  have hne:mgAt s ws0 c i≠0:=fun g=>by rw[g]at ok;cases ok
  refine⟨mk ?_ fun c' j a0 a1 b0 b1 hx=>?_,hS,fun q q0 q1=>?_,fun g=>(by cases g)⟩
  ·have:=en_slot ok
   rw[kk]at this;rw[hs];exact this
  ·rw[hw,mg_mg hm c0 c1 i0 i1 a0 b0 b1]at hx ⊢
   by_cases e:c'=c∧j=i
   ·rw[if_pos e]at hx;exact absurd rfl hx
   ·rw[if_neg e]at hx ⊢
    rw[hp,hs]
    obtain⟨C,rfl⟩:∃ C:Nat,c=C:=⟨c.toNat,by omega⟩
    obtain⟨C',rfl⟩:∃ C:Nat,c'=C:=⟨c'.toNat,by omega⟩
    obtain⟨I,rfl⟩:∃ C:Nat,i=C:=⟨i.toNat,by omega⟩
    obtain⟨J,rfl⟩:∃ C:Nat,j=C:=⟨j.toNat,by omega⟩
    by_cases ha:ahead C' J C I
    ·exact hsn.dj C I C' J c1 i1 b1 ha hne hx
    ·have:=hsn.dj C' J C I a1 b1 i1 (by unfold ahead at *;omega) hx hne
     exact fun ⟨g1,g2⟩=>this ⟨g1.symm,g2.symm⟩
  ·by_cases e:q=t.pg
   ·subst e
    have hu:=un _ p0 p1
    exact .s1 rfl rfl hu (by rw[← hu.2 _ s0 s1];exact e4) (by rw[← hu.1];exact⟨e2,e3.trans hk.symm⟩)
   ·exact .u (un q q0 q1)
 |f2 _ hf' p0' p1' hh hw=>
  obtain⟨g1,g2,g3,g4,g5⟩:=hh
  refine⟨mk g4 fun c' j a0 a1 b0 b1 hx=>?_,hS,fun q q0 q1=>?_,fun g=>(by cases g)⟩
  ·rw[hw,mg_sl hm p0 p1 g3 (by omega) a0 b0]at hx ⊢
   obtain⟨C',rfl⟩:∃ C:Nat,c'=C:=⟨c'.toNat,by omega⟩
   obtain⟨J,rfl⟩:∃ C:Nat,j=C:=⟨j.toNat,by omega⟩
   rintro⟨h1,h2⟩
   have r4:=(hsn.en C' J a1 b1 hx).w
   rw[h1,h2,g5]at r4
   have:=way_not_opn (by omega) (by omega) r4
   rw[on.2.1]at this;cases this
  ·by_cases e:q=t.pg
   ·subst e
    have hpg:pgAt s w.ws t.pg=pgAt s ws0 t.pg:=by rw[hw];exact pg_sl hm p0 p1 g3 (by omega) p0 p1
    refine .s2 rfl rfl hpg (by show slAt s ws0 t.pg t.sl=opn t.k;rw[hk];exact g5) (fun i i0 i1 hne=>?_) ⟨g1,g2.trans hk.symm⟩
    rw[hw,sl_sl hm p0 p1 g3 (by omega) p0 i0 i1,if_neg fun x=>hne x.2]
   ·rw[hw]
    exact .u (Rw.Un.tr ⟨rfl,fun _ _ _=>rfl⟩ (Rw.Sm.sl hm p0 p1 g3 (by omega) q0 q1 e))
 |f3 _ hf' p0' p1' og hl of pg sl so sz=>
  obtain⟨fr,-⟩:=og
  refine⟨mk (by omega) fun c' j a0 a1 b0 b1 hx=>?_,hS,fun q q0 q1=>?_,fun g=>(by cases g)⟩
  ·rw[of.mg hm p0 p1 a0 b0]at hx ⊢
   obtain⟨C',rfl⟩:∃ C:Nat,c'=C:=⟨c'.toNat,by omega⟩
   obtain⟨J,rfl⟩:∃ C:Nat,j=C:=⟨j.toNat,by omega⟩
   exact fun g=>hsn.free_en hm fr a1 b1 hx g.1
  ·by_cases e:q=t.pg
   ·subst e
    refine .s3 rfl rfl fr fun i i0 i1 hne=>?_
    have hne:i≠t.sl:=hne
    have i1:i<slots t.k:=i1
    show slAt s w.ws t.pg i=opn t.k
    rw[hk]at i1 ⊢
    exact so i (by omega) i1
   ·exact .u (of.un hm p0 p1 q0 q1 e)
theorem Al.lost (h:Al s ws0 c k f t w) (hd:t.dn=true) (hf:t.fd=false):w.ws=ws0:=by
 cases h.ph with
 | tk m e hd'=>rw[hd]at hd';cases hd'
 | ht m e hd'=>rw[hd]at hd';cases hd'
 | sc m e hd'=>rw[hd]at hd';cases hd'
 | pc m e hd'=>rw[hd]at hd';cases hd'
 | no e hd'=>rw[hd]at hd';cases hd'
 | st m e hd'=>rw[hd]at hd';cases hd'
 | b1 m e hd'=>rw[hd]at hd';cases hd'
 | b2 m e hd'=>rw[hd]at hd';cases hd'
 | n _ hf' hw=>exact hw
 | f1 i _ hf'=>rw[hf]at hf';cases hf'
 | f2 _ hf'=>rw[hf]at hf';cases hf'
 | f3 _ hf'=>rw[hf]at hf';cases hf'
end
end Sa
namespace Rw
section
variable {s:Sh} {ws0 ws:Nat→Int} {c n:Int} {t:Rn} {w:Wd}
theorem Al.got (h:Al s ws0 c n t w) (hd:t.dn=true) (hf:t.fd=true):Got s ws0 w.ws c ⟨true,t.hd,0,0,t.n⟩:=by
 have hm:=h.ok
 have hb:=(may_iff _ _ _).1 hm
 obtain⟨w1,w2,w3,w4⟩:=h.wf
 obtain⟨hlo,hph⟩:=h.go
 obtain⟨lo,-⟩:=hlo (.inl hf)
 cases hph with
 | look d=>rw[hd]at d;cases d
 | claim d=>rw[hd]at d;cases d
 | strip q d=>rw[hd]at d;cases d
 | clear d=>rw[hd]at d;cases d
 | back d=>rw[hd]at d;cases d
 | body d=>rw[hd]at d;cases d
 | lost d f=>rw[hf]at f;cases f
 |won d f nn hh e u=>
  have nf:¬ (pgK s t.hd (pgAt s ws0 t.hd)=1∨pgK s t.hd (pgAt s ws0 t.hd)=3):=fun g=>by
   rcases hh.1 with g1 |⟨g1,-⟩<;>rw[g1]at g<;>simp at g
  have hrow:∀ q,t.hd≤q→q<t.hd+t.n→Free s ws0 q:=fun q q0 q1=>by
   by_cases g3:q=t.hd
   ·rw[g3];exact hh.1
   ·exact(e q (by omega) (by omega)).1
  refine⟨⟨⟨hm,h.cb.1,h.cb.2,nn.2.2.1,by show t.hd<s.p;omega,fun _=>⟨by show 1≤t.n;omega,by show t.n≤8;omega,by show t.hd+t.n≤s.p;omega⟩,fun g=>(by cases g)⟩,fun _=>⟨hh.2.1,hh.2.2,fun q q0 q1=>?_,fun q q0 q1 hk hA=>?_⟩,fun g=>(by cases g)⟩,h.sound,fun q q0 q1=>?_,fun _ q q0 q1=>hrow q q0 q1⟩
  ·have q1:q<t.hd+t.n:=q1
   exact(e q q0 (by omega)).2.1
  ·have hA:pgA s q (pgAt s w.ws q)=t.hd:=hA
   show q<t.hd+t.n
   rw[w4]
   rcases Int.lt_or_le q (t.hd+n) with g | g
   ·exact g
   ·exfalso
    have hu:=u q g q1
    rw[hu.1]at hk hA
    have hp:=h.snd.pg q.toNat (by omega)
    rw[show((q.toNat:Nat):Int)=q by omega]at hp
    have hbd:=hp.2.bod (by rw[hk];rfl) (by rw[hk];rfl) (by rw[hk];rfl)
    rw[hA]at hbd
    refine nf ?_
    simp only[Bool.or_eq_true,Bool.and_eq_true,beq_iff_eq]at hbd
    rcases hbd with g |⟨g,-⟩
    ·exact .inl g
    ·exact .inr g
  ·by_cases g1:q<t.hd
   ·rcases lo q q0 g1 with g | g
    ·exact .u g
    ·exact .e g
   ·by_cases g2:q<t.hd+n
    ·refine .r rfl (by show t.hd≤q;omega) (by show q<t.hd+t.n;omega) ?_
     by_cases g3:q=t.hd
     ·rw[g3];exact hh.1
     ·exact(e q (by omega) g2).1
    ·exact .u (u q (by omega) q1)
theorem Al.lost (h:Al s ws0 c n t w) (hd:t.dn=true) (hf:t.fd=false):Lost s ws0 w.ws:=by
 obtain⟨hlo,hph⟩:=h.go
 cases hph with
 | look d=>rw[hd]at d;cases d
 | claim d=>rw[hd]at d;cases d
 | strip q d=>rw[hd]at d;cases d
 | clear d=>rw[hd]at d;cases d
 | back d=>rw[hd]at d;cases d
 | body d=>rw[hd]at d;cases d
 | won d f=>rw[hf]at f;cases f
 | lost d f a o=>exact⟨h.sound,a⟩
end
end Rw
namespace Rv
section
variable {s:Sh} {ws0 ws:Nat→Int} {c n f:Int} {v:Rv} {w:Wd}
theorem cls_bd (n:Int):0≤cls n∧cls n≤3:=by
 unfold cls
 repeat' split
 all_goals omega
theorem pages_bd {n:Int} (h:large n=true):1≤pages n∧pages n≤8:=by
 have h':=h
 unfold large within at h
 simp at h
 unfold pages;rw[if_pos h'];omega
inductive Al (s:Sh) (ws0:Nat→Int) (c n f:Int):Rv→Wd→Prop
 | sk {t:Sk} {w:Wd} (h1:small n=true) (h:Sa.Al s ws0 c (cls n) f t w):Al s ws0 c n f (.sk t) w
 | rn {t:Rn} {w:Wd} (h0:small n=false) (h1:large n=true) (h:Rw.Al s ws0 c (pages n) t w):Al s ws0 c n f (.rn t) w
 | no {w:Wd} (h0:fine n=false) (h:w.ws=ws0) (snd:Snd s ws0):Al s ws0 c n f .no w
theorem Al.init (hm:may s.p s.c s.m=true) (ho:w.of s) (c0:0≤c) (c1:c<s.c) (f0:0≤f) (f1:f<s.p) (hs:Snd s w.ws):Al s w.ws c n f (Rv.new s c n f) w:=by
 have hk:=cls_bd n
 unfold Rv.new
 cases e1:small n
 ·simp only[Bool.false_eq_true,if_false]
  cases e2:large n
  ·exact .no (by unfold fine;rw[e1,e2];rfl) rfl hs
  ·have hp:=pages_bd e2
   exact .rn e1 e2 (Rw.Al.init hm ho c0 c1 hp.1 hp.2 hs)
 ·exact .sk e1 (Sa.Al.init hm ho c0 c1 hk.1 hk.2 f0 f1 hs)
theorem Al.step (h:Al s ws0 c n f v w):Al s ws0 c n f (v.step w).1 (v.step w).2:=by
 cases h with
 | sk h1 h=>exact .sk h1 h.step
 | rn h0 h1 h=>exact .rn h0 h1 h.step
 | no h0 h hs=>exact .no h0 h hs
theorem Al.sound (h:Al s ws0 c n f v w):Snd s w.ws:=by
 cases h with
 | sk h1 h=>exact h.sound
 | rn h0 h1 h=>exact h.sound
 | no h0 h hs=>rw[h];exact hs
theorem Al.got (h:Al s ws0 c n f v w) (hd:v.dn=true) (hf:v.fd=true):Got s ws0 w.ws c v.bk∧v.bk.len=len n:=by
 cases h with
 | @sk t w h1 h=>
  have hd:t.dn=true:=hd
  have hf:t.fd=true:=hf
  have e:(Rv.sk t).bk=⟨false,t.pg,t.sl,t.k,0⟩:=if_pos hf
  rw[e]
  refine⟨h.got hd hf,?_⟩
  show size t.k=_
  rw[h.kk.1];unfold len;rw[if_pos h1]
 | @rn t w h0 h1 h=>
  have hd:t.dn=true:=hd
  have hf:t.fd=true:=hf
  have e:(Rv.rn t).bk=⟨true,t.hd,0,0,t.n⟩:=if_pos hf
  rw[e]
  refine⟨h.got hd hf,?_⟩
  show t.n*64=_
  rw[h.wf.2.2.2];unfold len;rw[if_neg (by rw[h0];decide)]
 | no h0 h hs=>cases hf
theorem Al.lost (h:Al s ws0 c n f v w) (hd:v.dn=true) (hf:v.fd=false):Lost s ws0 w.ws:=by
 cases h with
 |sk h1 h=>
  have hS:=h.sound
  have e:=h.lost hd hf
  rw[e]at hS ⊢
  exact⟨hS,fun q q0 q1=>.inl ⟨rfl,fun _ _ _=>rfl⟩⟩
 | rn h0 h1 h=>exact h.lost hd hf
 |no h0 h hs=>
  rw[h]
  exact⟨hs,fun q q0 q1=>.inl ⟨rfl,fun _ _ _=>rfl⟩⟩
end
end Rv
end Go.Ma
namespace Go.Ma
open Go.Pl

inductive Md where
 | no
 | uo (t:Uo)
 | cm (t:Cm)
structure Re where
 s:Sh
 c:Int
 on:Bool
 rv:Rv
 gv:Gv
 md:Md
 er:Int
 dn:Bool
namespace Re
def fin (t:Re) (e:Int):Re:={ t with er:=e,dn:=true }
def go (t:Re):Re:=match t.md with
 | .uo u=>if u.dn then t.fin 1 else t
 | .cm m=>if m.dn then t.fin 0 else t
 | .no=>if t.rv.dn then(if t.rv.fd then(if t.gv.dn then(if t.gv.gv then { t with md:=.cm (Cm.new t.s t.c t.rv.bk) } else { t with md:=.uo (Uo.new t.s t.c t.rv.bk) }) else t) else t.fin 3) else t
def ok (s:Sh) (c a n:Int):Bool:=there s.p s.c s.m a && fine n && decide (0≤status s.p s.c s.m c)
def raw (s:Sh) (c a n f:Int):Re:=⟨s,c,true,Rv.new s c n f,Gv.new s c a,.no,0,false⟩
def bad (s:Sh) (c:Int):Re:=⟨s,c,false,.no,Gv.new s c 0,.no,1,true⟩
def new (s:Sh) (c a n f:Int):Re:=if ok s c a n then(raw s c a n f).go else bad s c
def acc (t:Re) (w:Wd):Re×Wd:=
 if t.rv.dn then(if t.gv.dn then(match t.md with
  | .uo u=>({ t with md:=.uo (u.step w).1 },(u.step w).2)
  | .cm m=>({ t with md:=.cm (m.step w).1 },(m.step w).2)
  | .no=>(t,w)) else({ t with gv:=(t.gv.step w).1 },(t.gv.step w).2)) else({ t with rv:=(t.rv.step w).1 },(t.rv.step w).2)
def step (t:Re) (w:Wd):Re×Wd:=if t.dn then(t,w) else((t.acc w).1.go,(t.acc w).2)
def gave (t:Re):Bool:=t.on && t.gv.gv
def fd (t:Re):Bool:=t.dn && decide (t.er=0) && t.rv.fd
def bk (t:Re):Bk:=if t.dn && decide (t.er=0) then t.rv.bk else Bk.zero

structure wf (t:Re):Prop where
 of:t.on=false→t.dn=true∧t.md=.no∧t.er=1
 rw:t.rv.wf
 ro:t.rv.of t.s t.c
 gw:t.gv.wf
 gs:t.gv.s=t.s∧t.gv.c=t.c
 uo:∀ u,t.md=.uo u→u.wf∧u.s=t.s∧u.c=t.c∧t.rv.dn=true∧t.rv.fd=true∧t.gv.dn=true∧t.gv.gv=false
 cm:∀ m,t.md=.cm m→m.wf∧m.s=t.s∧m.c=t.c∧t.rv.dn=true∧t.rv.fd=true∧t.gv.dn=true∧t.gv.gv=true
 nx:t.dn=false→t.md=.no→t.rv.dn=true→t.rv.fd=true∧t.gv.dn=false
 g0:t.rv.dn=false→t.gv.gv=false
structure wf' (t:Re):Prop where
 on:t.on=true
 dn:t.dn=false
 rw:t.rv.wf
 ro:t.rv.of t.s t.c
 gw:t.gv.wf
 gs:t.gv.s=t.s∧t.gv.c=t.c
 uo:∀ u,t.md=.uo u→u.wf∧u.s=t.s∧u.c=t.c∧t.rv.dn=true∧t.rv.fd=true∧t.gv.dn=true∧t.gv.gv=false
 cm:∀ m,t.md=.cm m→m.wf∧m.s=t.s∧m.c=t.c∧t.rv.dn=true∧t.rv.fd=true∧t.gv.dn=true∧t.gv.gv=true
 g0:t.rv.dn=false→t.gv.gv=false
variable {t:Re} {w:Wd}
theorem go_wf (h:t.wf'):t.go.wf:=by
 unfold go
 split
 ·rename_i u e
  split
  ·exact⟨fun g=>(by have g:t.on=false:=g;rw[h.on]at g;cases g),h.rw,h.ro,h.gw,h.gs,h.uo,h.cm,fun g=>(by cases g),h.g0⟩
  ·exact⟨fun g=>(by rw[h.on]at g;cases g),h.rw,h.ro,h.gw,h.gs,h.uo,h.cm,fun _ g=>(by rw[e]at g;cases g),h.g0⟩
 ·rename_i m e
  split
  ·exact⟨fun g=>(by have g:t.on=false:=g;rw[h.on]at g;cases g),h.rw,h.ro,h.gw,h.gs,h.uo,h.cm,fun g=>(by cases g),h.g0⟩
  ·exact⟨fun g=>(by rw[h.on]at g;cases g),h.rw,h.ro,h.gw,h.gs,h.uo,h.cm,fun _ g=>(by rw[e]at g;cases g),h.g0⟩
 ·rename_i e
  split
  ·rename_i e1
   split
   ·rename_i e2
    split
    ·rename_i e3
     split
     ·rename_i e4
      refine⟨fun g=>(by have g:t.on=false:=g;rw[h.on]at g;cases g),h.rw,h.ro,h.gw,h.gs,fun u g=>(by cases g),fun m g=>?_,fun _ g=>(by cases g),h.g0⟩
      injection g with g
      subst g
      exact⟨Cm.new_wf _ _ _,rfl,rfl,e1,e2,e3,e4⟩
     ·rename_i e4
      refine⟨fun g=>(by have g:t.on=false:=g;rw[h.on]at g;cases g),h.rw,h.ro,h.gw,h.gs,fun u g=>?_,fun m g=>(by cases g),fun _ g=>(by cases g),h.g0⟩
      injection g with g
      subst g
      exact⟨Uo.new_wf _ _ _,rfl,rfl,e1,e2,e3,by simpa using e4⟩
    ·rename_i e3
     exact⟨fun g=>(by rw[h.on]at g;cases g),h.rw,h.ro,h.gw,h.gs,h.uo,h.cm,fun _ _ _=>⟨e2,by simpa using e3⟩,h.g0⟩
   ·exact⟨fun g=>(by have g:t.on=false:=g;rw[h.on]at g;cases g),h.rw,h.ro,h.gw,h.gs,h.uo,h.cm,fun g=>(by cases g),h.g0⟩
  ·rename_i e1
   exact⟨fun g=>(by rw[h.on]at g;cases g),h.rw,h.ro,h.gw,h.gs,h.uo,h.cm,fun _ _ g=>absurd g e1,h.g0⟩
theorem new_wf (s:Sh) (c a n f:Int):(new s c a n f).wf:=by
 unfold new
 split
 ·exact go_wf ⟨rfl,rfl,Rv.new_wf ..,Rv.new_of ..,Gv.new_wf ..,⟨rfl,rfl⟩,fun _ g=>(by cases g),fun _ g=>(by cases g),fun _=>rfl⟩
 ·exact⟨fun _=>⟨rfl,rfl,rfl⟩,trivial,trivial,Gv.new_wf ..,⟨rfl,rfl⟩,fun _ g=>(by cases g),fun _ g=>(by cases g),fun g=>(by cases g),fun _=>rfl⟩
theorem on_of (h:t.wf) (hd:t.dn=false):t.on=true:=by
 cases e:t.on
 ·rw[(h.of e).1]at hd;cases hd
 ·rfl
theorem acc_wf (h:t.wf) (hd:t.dn=false) (hw:w.of t.s):(t.acc w).1.wf':=by
 have on:=on_of h hd
 unfold acc
 split
 ·rename_i e1
  split
  ·rename_i e2
   split
   ·rename_i u e
    obtain⟨g1,g2,g3,g4,g5,g6,g7⟩:=h.uo u e
    refine⟨on,hd,h.rw,h.ro,h.gw,h.gs,fun x g=>?_,fun x g=>(by cases g),h.g0⟩
    injection g with g
    subst g
    have hk:(u.step w).1.s=u.s∧(u.step w).1.c=u.c:=by unfold Uo.step;split;exact⟨rfl,rfl⟩;split;(split<;>exact⟨rfl,rfl⟩);exact⟨rfl,rfl⟩
    exact⟨Uo.step_wf g1,hk.1.trans g2,hk.2.trans g3,g4,g5,g6,g7⟩
   ·rename_i m e
    obtain⟨g1,g2,g3,g4,g5,g6,g7⟩:=h.cm m e
    refine⟨on,hd,h.rw,h.ro,h.gw,h.gs,fun x g=>(by cases g),fun x g=>?_,h.g0⟩
    injection g with g
    subst g
    have hk:(m.step w).1.s=m.s∧(m.step w).1.c=m.c∧((m.step w).1.dn=true):=by unfold Cm.step;split;(rename_i x;exact⟨rfl,rfl,x⟩);split<;>exact⟨rfl,rfl,rfl⟩
    exact⟨fun g=>(by rw[hk.2.2]at g;cases g),hk.1.trans g2,hk.2.1.trans g3,g4,g5,g6,g7⟩
   ·exact⟨on,hd,h.rw,h.ro,h.gw,h.gs,h.uo,h.cm,h.g0⟩
  ·rename_i e2
   have hk:=Gv.step_keeps (w:=w) h.gw
   exact⟨on,hd,h.rw,h.ro,Gv.step_wf h.gw hw.u,⟨hk.1.trans h.gs.1,hk.2.1.trans h.gs.2⟩,fun u g=>absurd (h.uo u g).2.2.2.2.2.1 e2,fun m g=>absurd (h.cm m g).2.2.2.2.2.1 e2,fun g=>(by have g:t.rv.dn=false:=g;rw[e1]at g;cases g)⟩
 ·rename_i e1
  have e1':t.rv.dn=false:=by simpa using e1
  exact⟨on,hd,Rv.step_wf h.rw,Rv.step_ofs h.rw h.ro,h.gw,h.gs,fun u g=>absurd (h.uo u g).2.2.2.1 e1,fun m g=>absurd (h.cm m g).2.2.2.1 e1,fun _=>h.g0 e1'⟩
theorem go_k:t.go.s=t.s∧t.go.c=t.c∧t.go.on=t.on∧t.go.rv=t.rv∧t.go.gv=t.gv:=by
 unfold go
 split
 ·split<;>exact⟨rfl,rfl,rfl,rfl,rfl⟩
 ·split<;>exact⟨rfl,rfl,rfl,rfl,rfl⟩
 ·split
  ·split
   ·split
    ·split<;>exact⟨rfl,rfl,rfl,rfl,rfl⟩
    ·exact⟨rfl,rfl,rfl,rfl,rfl⟩
   ·exact⟨rfl,rfl,rfl,rfl,rfl⟩
  ·exact⟨rfl,rfl,rfl,rfl,rfl⟩
theorem acc_k:(t.acc w).1.s=t.s∧(t.acc w).1.c=t.c∧(t.acc w).1.on=t.on:=by
 unfold acc
 split
 ·split
  ·split<;>exact⟨rfl,rfl,rfl⟩
  ·exact⟨rfl,rfl,rfl⟩
 ·exact⟨rfl,rfl,rfl⟩
theorem step_wf (h:t.wf) (hw:t.dn=false→w.of t.s):(t.step w).1.wf:=by
 unfold step
 cases hd:t.dn
 ·exact go_wf (acc_wf h hd (hw hd))
 ·exact h
theorem step_k:(t.step w).1.s=t.s∧(t.step w).1.c=t.c∧(t.step w).1.on=t.on:=by
 unfold step
 split
 ·exact⟨rfl,rfl,rfl⟩
 ·have h1:=go_k (t:=(t.acc w).1)
  have h2:=acc_k (t:=t) (w:=w)
  exact⟨h1.1.trans h2.1,h1.2.1.trans h2.2.1,h1.2.2.1.trans h2.2.2⟩
theorem _root_.Go.Ma.Uo.step_of {u:Uo} {s:Sh} (h:w.of s):(u.step w).2.of s:=by
 unfold Uo.step
 split
 ·exact h
 ·split
  ·split<;>exact Wd.of_store h U_0 _ _
  ·exact Wd.of_store h (U_putSl _ _) _ _
theorem _root_.Go.Ma.Cm.step_of {u:Cm} {s:Sh} (h:w.of s):(u.step w).2.of s:=by
 unfold Cm.step
 split
 ·exact h
 ·split
  ·exact Wd.of_store h (U_putPg _ _ _) _ _
  ·exact Wd.of_store h (U_putSl _ _) _ _
theorem step_of (h:t.wf) (ho:w.of t.s):(t.step w).2.of t.s:=by
 unfold step
 cases hd:t.dn
 rotate_left
 ·exact ho
 show(t.acc w).2.of t.s
 unfold acc
 split
 ·split
  ·split
   ·exact Uo.step_of ho
   ·exact Cm.step_of ho
   ·exact ho
  ·rw[← h.gs.1]at ho ⊢;exact Gv.step_of h.gw ho
 ·exact Rv.step_of h.rw ho
def left (t:Re):Int:=if t.dn then 0 else match t.md with
 | .no=>t.rv.left+t.gv.left+10
 | .uo u=>(if u.dn then 0 else if u.b.lg then u.b.n - u.i else 1)+1
 | .cm m=>(if m.dn then 0 else 1)+1
def gl (t:Re):Int:=match t.md with
 | .no=>max 9 (t.rv.left+t.gv.left+10)
 | .uo u=>if u.dn then 0 else(if u.b.lg then u.b.n - u.i else 1)+1
 | .cm m=>if m.dn then 0 else 2
theorem step_dn (h:t.dn=true):t.step w=(t,w):=by unfold step;rw[if_pos h]
end Re
end Go.Ma
namespace Go.Ma
open Go.Pl
def Nb (s:Sh) (ws0:Nat→Int) (q:Int):Prop:=¬ (okPg s q (pgAt s ws0 q)=true∧(pgK s q (pgAt s ws0 q)=3∨pgK s q (pgAt s ws0 q)=4))
structure Kj (s:Sh) (ws0 ws:Nat→Int):Prop where
 pg:∀ q,0≤q→q<s.p→¬ Nb s ws0 q→pgAt s ws q=pgAt s ws0 q
 sl:∀ q i,0≤q→q<s.p→0≤i→i<16→slAt s ws q i=slAt s ws0 q i∨slK (slAt s ws q i)≠3
namespace Kj
variable {s:Sh} {ws0 ws:Nat→Int} {c q i y:Int}
end Kj
section
variable {s:Sh} {ws0:Nat→Int} {w:Wd}
end
namespace Sk
def Nf (s:Sh) (ws0:Nat→Int) (t:Sk):Prop:=t.dn=false→(∀ m,t.nw=.st m→Nb s ws0 m.p)∧(∀ m,t.nw=.bi m→Nb s ws0 m.p)∧∀ m,t.nw=.pc m→m.fd=false
variable {s:Sh} {ws0:Nat→Int} {w:Wd} {t:Sk}
end Sk
namespace Rn
def top (t:Rn):Int:=if t.dn then(if t.fd then t.hd+t.n else t.hd) else if t.nx≤2 then t.at' else if t.nx=3 then t.at'+1 else if t.nx=4 then t.i else t.hd+t.n
structure Nf (s:Sh) (ws0:Nat→Int) (t:Rn):Prop where
 r:∀ q,t.hd≤q→q<t.top→Nb s ws0 q
 a:t.dn=false→t.nx=2→Nb s ws0 t.at'
variable {s:Sh} {ws0:Nat→Int} {w:Wd} {t:Rn}
end Rn
namespace Gv
end Gv
namespace Rv
def Nf (s:Sh) (ws0:Nat→Int):Rv→Prop
 | .sk t=>t.Nf s ws0
 | .rn t=>t.Nf s ws0
 | .no=>True
variable {s:Sh} {ws0:Nat→Int} {w:Wd} {c:Int}
end Rv
namespace Uo
def Nf (s:Sh) (ws0:Nat→Int) (b:Bk):Prop:=b.lg=true→∀ q,b.p≤q→q<b.p+b.n→Nb s ws0 q
variable {s:Sh} {ws0:Nat→Int} {w:Wd}
end Uo
namespace Re
def Kp (s:Sh) (ws0:Nat→Int) (t:Re) (ws:Nat→Int):Prop:=t.gv.gv=true∨(Kj s ws0 ws∧t.rv.Nf s ws0∧(∀ u,t.md=.uo u→Uo.Nf s ws0 u.b)∧∀ m,t.md≠.cm m)
variable {s:Sh} {ws0 ws:Nat→Int} {w:Wd} {t:Re}
end Re
end Go.Ma
namespace Go.Ma
open Go.Pl
section
variable {s:Sh} {ws0 ws1 ws:Nat→Int} {c:Int} {b:Bk}
structure Und (s:Sh) (ws1 ws:Nat→Int) (b:Bk):Prop where
 pg:∀ q,0≤q→q<s.p→pgAt s ws q=if b.lg=true∧b.p≤q∧q<b.p+b.n then 0 else pgAt s ws1 q
 sl:∀ q i,0≤q→q<s.p→0≤i→i<16→slAt s ws q i=if b.lg=false∧q=b.p∧i=b.i then opn b.k else slAt s ws1 q i
 mg:∀ c' j,0≤c'→c'<s.c→0≤j→j<s.m→mgAt s ws c' j=mgAt s ws1 c' j
theorem Und.snd (hm:may s.p s.c s.m=true) (hs:Snd s ws1) (h:Res s ws1 c b) (hu:Und s ws1 ws b):Snd s ws:=by
 have hb:=(may_iff _ _ _).1 hm
 have F:=h.f
 have p0:=F.p0
 have p1:=F.p1
 cases e:b.lg
 ·obtain⟨k0,k1,h1,h2,h3,h4⟩:=h.s e
  have hsl:=F.s e
  have hs4:=slots_four k0 k1
  have on:=opn_ne b.k k0 (by omega)
  have i1:b.i<16:=by omega
  have hp:∀ q,0≤q→q<s.p→pgAt s ws q=pgAt s ws1 q:=fun q q0 q1=>by rw[hu.pg q q0 q1,if_neg fun g=>by rw[e]at g;cases g.1]
  have hx:∀ q i,0≤q→q<s.p→0≤i→i<16→¬ (q=b.p∧i=b.i)→slAt s ws q i=slAt s ws1 q i:=fun q i q0 q1 i0 i1 hne=>by rw[hu.sl q i q0 q1 i0 i1,if_neg fun g=>hne g.2]
  refine⟨fun q q1=>?_,fun c' j h1' h2' hx'=>?_,fun c' j c'' j' g1 g2 g3 ha hx' hy=>?_⟩
  ·obtain⟨e1,e2⟩:=hs.pg q q1
   rw[hp q (by omega) q1]
   refine⟨e1,⟨fun k j hj=>?_,fun k k' j hj=>?_,fun k k' k4=>?_,fun k k' k4 k3 j j1 j2=>?_⟩⟩
   ·by_cases hq:(q:Int)=b.p∧(j:Int)=b.i
    ·rw[hu.sl q j (by omega) q1 (by omega) (by omega),if_pos ⟨e,hq⟩,hq.1,hq.2,h2]
     unfold slB
     rw[decide_eq_true hsl.2,on.2.1,on.2.2];simp
    ·rw[hx q j (by omega) q1 (by omega) (by omega) hq];exact e2.sup k j hj
   ·rw[hx q j (by omega) q1 (by omega) (by omega) fun hq=>by rw[hq.1,h1]at k;cases k];exact e2.emp k k' j hj
   ·have hbo:=Ad.ok_body e1 (beq_iff_eq.1 k4)
    rw[hp _ hbo.1 (by omega)];exact e2.bod k k' k4
   ·have hl:=large_bd e1 (beq_iff_eq.1 k3)
    rw[hp _ (by omega) (by omega)];exact e2.lar k k' k4 k3 j j1 j2
  ·rw[hu.mg c' j (by omega) h1' (by omega) h2']at hx' ⊢
   obtain⟨e1,e2,e3,e4⟩:=hs.en c' j h1' h2' hx'
   have hE:=en_bd e1
   exact⟨e1,by rw[hp _ hE.1 hE.2.1];exact e2,by rw[hp _ hE.1 hE.2.1];exact e3,by rw[hx _ _ hE.1 hE.2.1 hE.2.2.1 hE.2.2.2 (h4 c' j (by omega) h1' (by omega) h2' hx')];exact e4⟩
  ·have hc':(c'':Int)<s.c:=by unfold ahead at ha;omega
   rw[hu.mg c' j (by omega) g1 (by omega) g2]at hx' ⊢
   rw[hu.mg c'' j' (by omega) hc' (by omega) g3]at hy ⊢
   exact hs.dj c' j c'' j' g1 g2 g3 ha hx' hy
 ·obtain⟨h1,h2,h3,h4⟩:=h.l e
  have hl:=F.l e
  have ho:=held_ok hm p0 p1 F.c0 F.c1
  have hsl:∀ q i,0≤q→q<s.p→0≤i→i<16→slAt s ws q i=slAt s ws1 q i:=fun q i q0 q1 i0 i1=>by rw[hu.sl q i q0 q1 i0 i1,if_neg fun g=>by rw[e]at g;cases g.1]
  have hin:∀ q,b.p≤q→q<b.p+b.n→pgAt s ws q=0:=fun q q0 q1=>by rw[hu.pg q (by omega) (by omega),if_pos ⟨e,q0,q1⟩]
  have hout:∀ q,0≤q→q<s.p→¬ (b.p≤q∧q<b.p+b.n)→pgAt s ws q=pgAt s ws1 q:=fun q q0 q1 g=>by rw[hu.pg q q0 q1,if_neg fun g'=>g g'.2]
  have kin:∀ q,b.p≤q→q<b.p+b.n→(q=b.p∧pgK s q (pgAt s ws1 q)=1)∨(pgK s q (pgAt s ws1 q)=4∧pgA s q (pgAt s ws1 q)=b.p):=fun q q0 q1=>by
   by_cases g:q=b.p
   ·left;refine⟨g,?_⟩;rw[g,h1];exact ho.2.1
   ·right
    have hbo:=body_ok (s:=s) (q:=q) hm p0 (by omega) (by omega) (by omega)
    rw[← h3 q (by omega) q1]at hbo
    exact⟨hbo.2.1,hbo.2.2⟩
  refine⟨fun q q1=>?_,fun c' j h1' h2' hx'=>?_,fun c' j c'' j' g1 g2 g3 ha hx' hy=>?_⟩
  ·obtain⟨e1,e2⟩:=hs.pg q q1
   by_cases hq:b.p≤(q:Int)∧(q:Int)<b.p+b.n
   ·rw[hin q hq.1 hq.2,pgK_zero]
    refine⟨okPg_zero hm (by omega) q1,SpB.oth rfl (fun j hj=>?_) rfl rfl⟩
    rw[hsl q j (by omega) q1 (by omega) (by omega)]
    rcases kin q hq.1 hq.2 with⟨g,-⟩|⟨g,-⟩
    ·rw[g];exact h2 j (by omega) (by omega)
    ·exact e2.emp (by rw[g];rfl) (by rw[g];rfl) j hj
   ·rw[hout q (by omega) q1 hq]
    refine⟨e1,⟨fun k j hj=>?_,fun k k' j hj=>?_,fun k k' k4=>?_,fun k k' k4 k3 j j1 j2=>?_⟩⟩
    ·rw[hsl q j (by omega) q1 (by omega) (by omega)];exact e2.sup k j hj
    ·rw[hsl q j (by omega) q1 (by omega) (by omega)];exact e2.emp k k' j hj
    ·have hb':=Ad.ok_body e1 (beq_iff_eq.1 k4)
     have hbd:=e2.bod k k' k4
     by_cases g:b.p≤pgA s q (pgAt s ws1 q)∧pgA s q (pgAt s ws1 q)<b.p+b.n
     ·exfalso
      rcases kin _ g.1 g.2 with⟨r,-⟩|⟨r,-⟩
      ·have:=h4 q (by omega) q1 (beq_iff_eq.1 k4) r
       omega
      ·rw[r]at hbd;simp at hbd
     ·rw[hout _ hb'.1 (by omega) g];exact hbd
    ·have hl':=large_bd e1 (beq_iff_eq.1 k3)
     have hr:=e2.lar k k' k4 k3 j j1 j2
     rw[hout _ (by omega) (by omega) fun g=>?_]
     ·exact hr
     ·rcases kin _ g.1 g.2 with⟨-,r⟩|⟨-,r⟩
      ·rw[r]at hr;exact absurd hr.1 (by decide)
      ·have hqp:(q:Int)=b.p:=hr.2.symm.trans r
       omega
  ·rw[hu.mg c' j (by omega) h1' (by omega) h2']at hx' ⊢
   obtain⟨e1,e2,e3,e4⟩:=hs.en c' j h1' h2' hx'
   have hE:=en_bd e1
   have hne:¬ (b.p≤enP s (mgAt s ws1 c' j)∧enP s (mgAt s ws1 c' j)<b.p+b.n):=fun g=>by
    rcases kin _ g.1 g.2 with⟨-,r⟩|⟨r,-⟩<;>rw[r]at e2<;>cases e2
   exact⟨e1,by rw[hout _ hE.1 hE.2.1 hne];exact e2,by rw[hout _ hE.1 hE.2.1 hne];exact e3,by rw[hsl _ _ hE.1 hE.2.1 hE.2.2.1 hE.2.2.2];exact e4⟩
  ·have hc':(c'':Int)<s.c:=by unfold ahead at ha;omega
   rw[hu.mg c' j (by omega) g1 (by omega) g2]at hx' ⊢
   rw[hu.mg c'' j' (by omega) hc' (by omega) g3]at hy ⊢
   exact hs.dj c' j c'' j' g1 g2 g3 ha hx' hy
theorem Und.blks (hm:may s.p s.c s.m=true) (h:Res s ws1 c b) (hu:Und s ws1 ws b) {n:Nat} (hn:(n:Int)≤s.p):Go.Ma.blks s ws n=Go.Ma.blks s ws1 n:=
 blks_congr fun p hp=>by
  have hb:=(may_iff _ _ _).1 hm
  have F:=h.f
  by_cases e:b.lg=true∧b.p≤(p:Int)∧(p:Int)<b.p+b.n
  ·obtain⟨e0,e1,e2⟩:=e
   obtain⟨h1,h2,h3,h4⟩:=h.l e0
   have hl:=F.l e0
   have hz:=hu.pg p (by omega) (by omega)
   rw[if_pos ⟨e0,e1,e2⟩]at hz
   rw[blkPg_none (by rw[hz,pgK_zero];decide) (by rw[hz,pgK_zero];decide)]
   by_cases g:(p:Int)=b.p
   ·have ho:=held_ok hm F.p0 F.p1 F.c0 F.c1
    exact(blkPg_none (by rw[g,h1,ho.2.1];decide) (by rw[g,h1,ho.2.1];decide)).symm
   ·have hbo:=body_ok (s:=s) (q:=p) hm F.p0 (by omega) (by omega) (by omega)
    rw[← h3 p (by omega) e2]at hbo
    exact(blkPg_none (by rw[hbo.2.1];decide) (by rw[hbo.2.1];decide)).symm
  ·have hz:=hu.pg p (by omega) (by omega)
   rw[if_neg e]at hz
   refine blkPg_congr (by rw[hz]) (fun _=>by rw[hz]) fun _ i hi=>?_
   rw[hu.sl p i (by omega) (by omega) (by omega) (by omega)]
   split
   ·rename_i g
    obtain⟨g0,g1,g2⟩:=g
    obtain⟨k0,k1,r1,r2,r3,r4⟩:=h.s g0
    have on:=opn_ne b.k k0 (by omega)
    have wn:=way_ne c F.c0 (by have:=F.c1;omega)
    rw[on.2.1,g1,g2,r3,wn.2.1];decide
   ·exact Iff.rfl
end
namespace Uo
inductive Al (s:Sh) (ws1:Nat→Int) (c:Int) (b:Bk) (t:Uo) (w:Wd):Prop
 | l (hd:t.dn=false) (l:b.lg=true) (i0:0≤t.i) (i1:t.i<b.n) (pg:∀ q,0≤q→q<s.p→pgAt s w.ws q=if b.p<q∧q≤b.p+t.i then 0 else pgAt s ws1 q)
   (sl:∀ q i,0≤q→q<s.p→0≤i→i<16→slAt s w.ws q i=slAt s ws1 q i) (mg:∀ c' j,0≤c'→c'<s.c→0≤j→j<s.m→mgAt s w.ws c' j=mgAt s ws1 c' j)
 | s (hd:t.dn=false) (l:b.lg=false) (hw:w.ws=ws1)
 | e (hd:t.dn=true) (h:Und s ws1 w.ws b)
variable {s:Sh} {ws1:Nat→Int} {c:Int} {b:Bk} {t:Uo} {w:Wd}
theorem Al.init (hr:Res s w.ws c b):Al s w.ws c b (Uo.new s c b) w:=by
 have hd:(Uo.new s c b).dn=false:=by show(!b.fits s c)=false;rw[Bk.of_fits hr.f];rfl
 cases e:b.lg
 ·exact .s hd e rfl
 ·have hl:=hr.f.l e
  exact .l hd e (Int.le_refl _) (by show(0:Int)<b.n;omega) (fun q q0 q1=>by rw[if_neg (by show ¬ (b.p<q∧q≤b.p+0);omega)]) (fun q i _ _ _ _=>rfl) fun c' j _ _ _ _=>rfl
theorem Al.step (hr:Res s ws1 c b) (ht:t.s=s∧t.b=b) (h:Al s ws1 c b t w):Al s ws1 c b (t.step w).1 (t.step w).2:=by
 have hm:=hr.f.m
 have hb:=(may_iff _ _ _).1 hm
 have p0:=hr.f.p0
 have p1:=hr.f.p1
 obtain⟨e1,e2⟩:=ht
 cases h with
 |l hd l i0 i1 pg sl mg=>
  have hl:=hr.f.l l
  have hbl:t.b.lg=true:=by rw[e2];exact l
  by_cases hi:t.i=t.b.n - 1
  ·have es:t.step w=({ t with dn:=true },w.store t.c t.pat 0):=by unfold Uo.step;rw[if_neg (by rw[hd];decide),if_pos hbl,if_pos hi]
   have hws:(w.store t.c t.pat 0).ws=upW w.ws (page s.p s.c s.m b.p) 0:=by rw[store_ws];unfold pat;rw[e1,e2]
   rw[e2]at hi
   rw[es]
   refine .e rfl ⟨fun q q0 q1=>?_,fun q i q0 q1 j0 j1=>?_,fun c' j a0 a1 b0 b1=>?_⟩
   ·show pgAt s (w.store t.c t.pat 0).ws q=_
    rw[hws,pg_pg hm p0 p1 q0 q1]
    by_cases g:q=b.p
    ·rw[if_pos g,if_pos ⟨l,by omega,by omega⟩]
    ·rw[if_neg g,pg q q0 q1]
     by_cases g2:b.p<q∧q≤b.p+t.i
     ·rw[if_pos g2,if_pos ⟨l,by omega,by omega⟩]
     ·rw[if_neg g2,if_neg (by omega)]
   ·show slAt s (w.store t.c t.pat 0).ws q i=_
    rw[hws,sl_pg hm p0 p1 q0 j0,if_neg (by rw[l];simp)];exact sl q i q0 q1 j0 j1
   ·show mgAt s (w.store t.c t.pat 0).ws c' j=_
    rw[hws,mg_pg hm p0 p1 a0 b0];exact mg c' j a0 a1 b0 b1
  ·have es:t.step w=({ t with i:=t.i+1 },w.store t.c t.iat 0):=by unfold Uo.step;rw[if_neg (by rw[hd];decide),if_pos hbl,if_neg hi]
   have hws:(w.store t.c t.iat 0).ws=upW w.ws (page s.p s.c s.m (b.p+t.i+1)) 0:=by rw[store_ws];unfold iat;rw[e1,e2]
   rw[e2]at hi
   rw[es]
   refine .l hd l (by show 0≤t.i+1;omega) (by show t.i+1<b.n;omega) (fun q q0 q1=>?_) (fun q i q0 q1 j0 j1=>?_) fun c' j a0 a1 b0 b1=>?_
   ·show pgAt s (w.store t.c t.iat 0).ws q=if b.p<q∧q≤b.p+(t.i+1) then 0 else _
    rw[hws,pg_pg hm (by omega) (by omega) q0 q1]
    by_cases g:q=b.p+t.i+1
    ·rw[if_pos g,if_pos (by omega)]
    ·rw[if_neg g,pg q q0 q1]
     by_cases g2:b.p<q∧q≤b.p+t.i
     ·rw[if_pos g2,if_pos (by omega)]
     ·rw[if_neg g2,if_neg (by omega)]
   ·show slAt s (w.store t.c t.iat 0).ws q i=_
    rw[hws,sl_pg hm (by omega) (by omega) q0 j0];exact sl q i q0 q1 j0 j1
   ·show mgAt s (w.store t.c t.iat 0).ws c' j=_
    rw[hws,mg_pg hm (by omega) (by omega) a0 b0];exact mg c' j a0 a1 b0 b1
 |s hd l hw=>
  obtain⟨k0,k1,-⟩:=hr.s l
  have hsl:=hr.f.s l
  have hs4:=slots_four k0 k1
  have es:t.step w=({ t with dn:=true },w.store t.c t.sat (putSl 1 t.b.k)):=by unfold Uo.step;rw[if_neg (by rw[hd];decide),if_neg (by rw[e2,l];decide)]
  have hws:(w.store t.c t.sat (putSl 1 t.b.k)).ws=upW ws1 (slot s.p s.c s.m b.p b.i) (opn b.k):=by rw[store_ws,hw];unfold sat;rw[e1,e2];rfl
  rw[es]
  refine .e rfl ⟨fun q q0 q1=>?_,fun q i q0 q1 j0 j1=>?_,fun c' j a0 a1 b0 b1=>?_⟩
  ·show pgAt s (w.store t.c t.sat (putSl 1 t.b.k)).ws q=_
   rw[hws,pg_sl hm p0 p1 hsl.1 (by omega) q0 q1,if_neg (by rw[l];simp)]
  ·show slAt s (w.store t.c t.sat (putSl 1 t.b.k)).ws q i=_
   rw[hws,sl_sl hm p0 p1 hsl.1 (by omega) q0 j0 j1]
   by_cases g:q=b.p∧i=b.i
   ·rw[if_pos g,if_pos ⟨l,g⟩]
   ·rw[if_neg g,if_neg fun g'=>g g'.2]
  ·show mgAt s (w.store t.c t.sat (putSl 1 t.b.k)).ws c' j=_
   rw[hws];exact mg_sl hm p0 p1 hsl.1 (by omega) a0 b0
 |e hd h=>
  have es:t.step w=(t,w):=by unfold Uo.step;rw[if_pos hd]
  rw[es];exact .e hd h
theorem step_sb:(t.step w).1.s=t.s∧(t.step w).1.c=t.c∧(t.step w).1.b=t.b:=by
 unfold step
 split
 ·exact⟨rfl,rfl,rfl⟩
 ·split
  ·split<;>exact⟨rfl,rfl,rfl⟩
  ·exact⟨rfl,rfl,rfl⟩
end Uo
theorem Cm.one {s:Sh} {c:Int} {b:Bk} {w:Wd} (hr:Res s w.ws c b):(Cm.new s c b).dn=false∧((Cm.new s c b).step w).1 = { Cm.new s c b with dn:=true }∧((Cm.new s c b).step w).2.ws=cmW s w.ws b:=by
 have hd:(Cm.new s c b).dn=false:=by show(!b.fits s c)=false;rw[Bk.of_fits hr.f];rfl
 unfold Cm.step cmW
 rw[if_neg (by rw[hd];decide)]
 cases e:b.lg
 ·rw[if_neg (by show ¬ b.lg=true;rw[e];decide)]
  exact⟨hd,rfl,rfl⟩
 ·rw[if_pos (by show b.lg=true;exact e)]
  exact⟨hd,rfl,rfl⟩
namespace Re
section
variable {s:Sh} {ws0:Nat→Int} {c a n f:Int} {t:Re} {w:Wd}
structure Gone (s:Sh) (ws0:Nat→Int) (c a n:Int) (b:Bk) (ws1 ws:Nat→Int):Prop where
 got:Got s ws0 ws1 c b
 len:b.len=len n
 snd:Snd s ws
 out:Out (blks s ws1 s.p.toNat) (blks s ws s.p.toNat) a
 fd:Fd s ws1 ws
inductive Ph (s:Sh) (ws0:Nat→Int) (c a n f:Int) (t:Re) (w:Wd):Prop
 | rv (hm:t.md=.no) (hd:t.dn=false) (rd:t.rv.dn=false) (h:t.rv.Al s ws0 c n f w) (g:t.gv=Gv.new s c a)
 | gv (hm:t.md=.no) (hd:t.dn=false) (rd:t.rv.dn=true) (rf:t.rv.fd=true) (gd:t.gv.dn=false) (ws1:Nat→Int) (h:Got s ws0 ws1 c t.rv.bk) (hl:t.rv.bk.len=Pl.len n) (hg:t.gv.Al s ws1 c a w)
 | cm (hm:t.md=.cm (Cm.new s c t.rv.bk)) (hd:t.dn=false) (rd:t.rv.dn=true) (rf:t.rv.fd=true) (gd:t.gv.dn=true) (gg:t.gv.gv=true) (ws1:Nat→Int) (h:Gone s ws0 c a n t.rv.bk ws1 w.ws)
 | uo (u:Uo) (hm:t.md=.uo u) (hd:t.dn=false) (ud:u.dn=false) (rd:t.rv.dn=true) (rf:t.rv.fd=true) (gd:t.gv.dn=true) (gg:t.gv.gv=false) (ws1:Nat→Int) (h:Got s ws0 ws1 c t.rv.bk) (us:u.s=s∧u.b=t.rv.bk) (hu:u.Al s ws1 c t.rv.bk w) (no:∀ z∈blks s ws0 s.p.toNat,z.1≠a)
 | won (hd:t.dn=true) (he:t.er=0) (rf:t.rv.fd=true) (gg:t.gv.gv=true) (ws1 ws2:Nat→Int) (h:Gone s ws0 c a n t.rv.bk ws1 ws2) (hw:w.ws=cmW s ws2 t.rv.bk)
 | lost (hd:t.dn=true) (he:t.er=3) (gg:t.gv.gv=false) (h:Lost s ws0 w.ws) (rf:t.rv.fd=false) (hr:t.rv.Al s ws0 c n f w) (rd:t.rv.dn=true)
 | none (hd:t.dn=true) (he:t.er=1) (gg:t.gv.gv=false) (ws1:Nat→Int) (h:Got s ws0 ws1 c t.rv.bk) (hu:Und s ws1 w.ws t.rv.bk) (no:∀ z∈blks s ws0 s.p.toNat,z.1≠a)
structure Al (s:Sh) (ws0:Nat→Int) (c a n f:Int) (t:Re) (w:Wd):Prop where
 ok:may s.p s.c s.m=true
 of:w.of s
 wf:t.wf
 es:t.s=s∧t.c=c∧t.on=true
 cb:0≤c∧c<s.c
 gn:(Gv.new s c a).dn=false
 ph:Ph s ws0 c a n f t w
theorem go_rv (hm:may s.p s.c s.m=true) (hc:0≤c∧c<s.c) (ho:w.of s) (gn:(Gv.new s c a).dn=false) (h1:t.md=.no) (hd:t.dn=false) (h:t.rv.Al s ws0 c n f w) (g:t.gv=Gv.new s c a):Ph s ws0 c a n f t.go w:=by
 have gd:t.gv.dn=false:=by rw[g];exact gn
 cases rd:t.rv.dn
 ·have e:t.go=t:=by unfold go;rw[h1];simp only[rd,Bool.false_eq_true,if_false]
  rw[e];exact .rv h1 hd rd h g
 ·cases rf:t.rv.fd
  ·have e:t.go=t.fin 3:=by unfold go;rw[h1];simp only[rd,rf,Bool.false_eq_true,if_false,if_true]
   rw[e]
   exact .lost rfl rfl (by show t.gv.gv=false;rw[g];rfl) (h.lost rd rf) rf h rd
  ·have e:t.go=t:=by unfold go;rw[h1];simp only[rd,rf,gd,Bool.false_eq_true,if_false,if_true]
   rw[e]
   obtain⟨h2,h3⟩:=h.got rd rf
   refine .gv h1 hd rd rf gd w.ws h2 h3 ?_
   rw[g];exact Gv.Al.init hm ho hc.1 hc.2 h.sound
theorem Al.init (hm:may s.p s.c s.m=true) (ho:w.of s) (c0:0≤c) (c1:c<s.c) (f0:0≤f) (f1:f<s.p) (hs:Snd s w.ws) (hk:Re.ok s c a n=true):Al s w.ws c a n f (new s c a n f) w:=by
 have hth:there s.p s.c s.m a=true:=by unfold Re.ok at hk;simp only[Bool.and_eq_true]at hk;exact hk.1.1
 have gn:(Gv.new s c a).dn=false:=by
  show(!there s.p s.c s.m a || decide (status s.p s.c s.m c<0))=false
  rw[hth,status_yes hm c0 c1,decide_eq_false (by omega)];rfl
 have e:new s c a n f=(raw s c a n f).go:=if_pos hk
 refine⟨hm,ho,new_wf ..,?_,⟨c0,c1⟩,gn,?_⟩
 ·rw[e];exact⟨go_k.1,go_k.2.1,go_k.2.2.1⟩
 ·rw[e];exact go_rv hm ⟨c0,c1⟩ ho gn rfl rfl (Rv.Al.init hm ho c0 c1 f0 f1 hs) rfl
theorem Al.step (h:Al s ws0 c a n f t w):Al s ws0 c a n f (t.step w).1 (t.step w).2:=by
 have hm:=h.ok
 have hb:=(may_iff _ _ _).1 hm
 obtain⟨e1,e2,e3⟩:=h.es
 have ho:w.of t.s:=by rw[e1];exact h.of
 have ho2:=step_of h.wf ho
 rw[e1]at ho2
 have hk:=step_k (t:=t) (w:=w)
 suffices hh:Ph s ws0 c a n f (t.step w).1 (t.step w).2 from⟨hm,ho2,step_wf h.wf fun _=>ho,⟨hk.1.trans e1,hk.2.1.trans e2,hk.2.2.trans e3⟩,h.cb,h.gn,hh⟩
 cases h.ph with
 |rv h1 hd rd hr g=>
  have ea:t.acc w=({ t with rv:=(t.rv.step w).1 },(t.rv.step w).2):=by unfold acc;rw[if_neg (by rw[rd];decide)]
  have es:t.step w=(({ t with rv:=(t.rv.step w).1 }:Re).go,(t.rv.step w).2):=by unfold Re.step;rw[if_neg (by rw[hd];decide),ea]
  rw[es]at ho2 ⊢
  exact go_rv hm h.cb ho2 h.gn h1 hd hr.step g
 |gv h1 hd rd rf gd ws1 hr hl hg=>
  have ea:t.acc w=({ t with gv:=(t.gv.step w).1 },(t.gv.step w).2):=by unfold acc;rw[if_pos rd,if_neg (by rw[gd];decide)]
  have es:t.step w=(({ t with gv:=(t.gv.step w).1 }:Re).go,(t.gv.step w).2):=by unfold Re.step;rw[if_neg (by rw[hd];decide),ea]
  have hg2:=hg.step
  rw[es]
  cases gd2:(t.gv.step w).1.dn
  ·have e:({ t with gv:=(t.gv.step w).1 }:Re).go = { t with gv:=(t.gv.step w).1 }:=by unfold go;simp only[h1,rd,rf,gd2,Bool.false_eq_true,if_false,if_true]
   rw[e];exact .gv h1 hd rd rf gd2 ws1 hr hl hg2
  ·cases hg2.ph with
   | a hd'=>rw[gd2]at hd';cases hd'
   | l1 hd'=>rw[gd2]at hd';cases hd'
   | l2 hd'=>rw[gd2]at hd';cases hd'
   | s1 hd'=>rw[gd2]at hd';cases hd'
   | s2 p hd'=>rw[gd2]at hd';cases hd'
   | s3 hd'=>rw[gd2]at hd';cases hd'
   |n hd' hgg hw hno=>
    have e:({ t with gv:=(t.gv.step w).1 }:Re).go = { t with gv:=(t.gv.step w).1,md:=.uo (Uo.new t.s t.c t.rv.bk) }:=by unfold go;simp only[h1,rd,rf,gd2,hgg,Bool.false_eq_true,if_false,if_true]
    rw[e]
    have hres:Res s (t.gv.step w).2.ws c t.rv.bk:=by rw[hw];exact hr.res
    have hu:=Uo.Al.init hres
    have hno:=hno s.p.toNat (by omega)
    rw[hr.blks hm (by omega)]at hno
    have hud:(Uo.new s c t.rv.bk).dn=false:=by show(!t.rv.bk.fits s c)=false;rw[Bk.of_fits hr.res.f];rfl
    rw[e1,e2]
    rw[hw]at hu
    exact .uo (Uo.new s c t.rv.bk) rfl hd hud rd rf gd2 hgg ws1 hr ⟨rfl,rfl⟩ hu hno
   |e hd' hgg hp hs hout hf=>
    have e:({ t with gv:=(t.gv.step w).1 }:Re).go = { t with gv:=(t.gv.step w).1,md:=.cm (Cm.new t.s t.c t.rv.bk) }:=by unfold go;simp only[h1,rd,rf,gd2,hgg,if_true]
    rw[e,e1,e2]
    exact .cm rfl hd rd rf gd2 hgg ws1 ⟨hr,hl,hs,hout s.p.toNat (by omega) (by omega),hf⟩
 |cm h1 hd rd rf gd gg ws1 hr=>
  have hres:=hr.got.res.fd hm hr.fd
  obtain⟨c1,c2,c3⟩:=Cm.one hres
  have ea:t.acc w=({ t with md:=.cm ((Cm.new s c t.rv.bk).step w).1 },((Cm.new s c t.rv.bk).step w).2):=by unfold acc;rw[if_pos rd,if_pos gd,h1]
  have es:t.step w=(({ t with md:=.cm { Cm.new s c t.rv.bk with dn:=true } }:Re).fin 0,((Cm.new s c t.rv.bk).step w).2):=by
   unfold Re.step;rw[if_neg (by rw[hd];decide),ea,c2];rfl
  rw[es]
  exact .won rfl rfl rf gg ws1 w.ws hr c3
 |uo u h1 hd ud rd rf gd gg ws1 hr us hu no=>
  have ea:t.acc w=({ t with md:=.uo (u.step w).1 },(u.step w).2):=by unfold acc;rw[if_pos rd,if_pos gd,h1]
  have es:t.step w=(({ t with md:=.uo (u.step w).1 }:Re).go,(u.step w).2):=by unfold Re.step;rw[if_neg (by rw[hd];decide),ea]
  have hu2:=hu.step hr.res us
  have hk2:=Uo.step_sb (t:=u) (w:=w)
  rw[es]
  cases ud2:(u.step w).1.dn
  ·have e:({ t with md:=.uo (u.step w).1 }:Re).go = { t with md:=.uo (u.step w).1 }:=by unfold go;simp only[ud2,Bool.false_eq_true,if_false]
   rw[e]
   exact .uo _ rfl hd ud2 rd rf gd gg ws1 hr ⟨hk2.1.trans us.1,hk2.2.2.trans us.2⟩ hu2 no
  ·have e:({ t with md:=.uo (u.step w).1 }:Re).go=({ t with md:=.uo (u.step w).1 }:Re).fin 1:=by unfold go;simp only[ud2,if_true]
   rw[e]
   cases hu2 with
   | l hd'=>rw[ud2]at hd';cases hd'
   | s hd'=>rw[ud2]at hd';cases hd'
   | e _ hx=>exact .none rfl rfl gg ws1 hr hx no
 | won hd he rf gg ws1 ws2 hr hw=>rw[step_dn hd];exact .won hd he rf gg ws1 ws2 hr hw
 | lost hd he gg hr rf ha rd=>rw[step_dn hd];exact .lost hd he gg hr rf ha rd
 | none hd he gg ws1 hr hu no=>rw[step_dn hd];exact .none hd he gg ws1 hr hu no
end
end Re
end Go.Ma
namespace Go.Ma
open Go.Pl
theorem srt_ext:∀ {l l':List (Int×Int)},Srt l→Srt l'→(∀ z∈l,1≤z.2)→(∀ z∈l',1≤z.2)→(∀ z,z∈l↔z∈l')→l=l'
 | [],[],_,_,_,_,_=>rfl
 | [],y :: t,_,_,_,_,h=>by have:=(h y).2 (by simp);cases this
 | x :: t,[],_,_,_,_,h=>by have:=(h x).1 (by simp);cases this
 |x :: t,y :: t',h1,h2,p1,p2,h=>by
  unfold Srt at h1 h2
  obtain⟨a1,a2⟩:=List.pairwise_cons.1 h1
  obtain⟨b1,b2⟩:=List.pairwise_cons.1 h2
  have hx:=p1 x (by simp)
  have hy:=p2 y (by simp)
  have e:x=y:=by
   rcases List.mem_cons.1 ((h x).1 (by simp)) with e | e
   ·exact e
   ·rcases List.mem_cons.1 ((h y).2 (by simp)) with e' | e'
    ·exact e'.symm
    ·have g1:=a1 y e'
     have g2:=b1 x e
     omega
  subst e
  rw[srt_ext (l:=t) (l':=t') a2 b2 (fun z hz=>p1 z (by simp [hz])) (fun z hz=>p2 z (by simp [hz])) fun z=>⟨fun hz=>?_,fun hz=>?_⟩]
  ·rcases List.mem_cons.1 ((h z).1 (by simp [hz])) with e | e
   ·subst e;have:=a1 z hz;omega
   ·exact e
  ·rcases List.mem_cons.1 ((h z).2 (by simp [hz])) with e | e
   ·subst e;have:=b1 z hz;omega
   ·exact e
section
variable {s:Sh} {ws ws0 ws1 ws2:Nat→Int} {c a n f:Int} {b:Bk}
theorem blks_pos (hm:may s.p s.c s.m=true) (hs:Snd s ws) {z:Int×Int} (h:z∈blks s ws s.p.toNat):0≤z.1∧1≤z.2∧z.1+z.2≤s.p*64:=by
 have hb:=(may_iff _ _ _).1 hm
 obtain⟨p,hp,hz⟩:=blks_mem.1 h
 have h1:=blkPg_in hz
 have h2:=blkPg_pos hm hs (by omega) hz
 exact⟨by omega,h2.1,h2.2.1⟩
theorem srt_app {pre post:List (Int×Int)} (h:Srt (pre ++ post)):Srt pre∧Srt post∧∀ x∈pre,∀ y∈post,x.1+x.2≤y.1:=List.pairwise_append.1 h
structure Put (s:Sh) (A:List (Int×Int)) (y:Int×Int) (pre post:List (Int×Int)):Prop where
 eq:A=pre ++ post
 b:0≤y.1∧1≤y.2∧y.1+y.2≤s.p*64
 lo:∀ b∈pre,0≤b.1∧1≤b.2∧b.1+b.2≤y.1
 hi:∀ b∈post,y.1+y.2≤b.1∧1≤b.2∧b.1+b.2≤s.p*64
theorem Res.put (hm:may s.p s.c s.m=true) (hs:Snd s ws) (h:Res s ws c b):∃ pre post,Put s (blks s ws s.p.toNat) (b.ad,b.len) pre post∧blks s (cmW s ws b) s.p.toNat=pre ++ (b.ad,b.len) :: post:=by
 have hb:=(may_iff _ _ _).1 hm
 have F:=h.f
 have hp1:=F.p1
 have hc:=h.cm_snd hm hs
 obtain⟨pre,post,e1,e2,-⟩:=h.cm_out hm hs (n:=s.p.toNat) (by omega) (by omega)
 have e1:blks s (cmW s ws b) s.p.toNat=pre ++ (b.ad,b.len) :: post:=by rw[e1,List.append_assoc];rfl
 have hsr:=hc.srt hm s.p.toNat (by omega)
 rw[e1]at hsr
 obtain⟨-,s2,s3⟩:=srt_app hsr
 obtain⟨s4,-⟩:=List.pairwise_cons.1 s2
 have hpos:∀ z∈pre ++ (b.ad,b.len) :: post,0≤z.1∧1≤z.2∧z.1+z.2≤s.p*64:=fun z hz=>blks_pos hm hc (by rw[e1];exact hz)
 refine⟨pre,post,⟨e2,hpos _ (by simp),fun x hx=>?_,fun x hx=>?_⟩,e1⟩
 ·have h1:=hpos x (by simp [hx])
  exact⟨h1.1,h1.2.1,s3 x hx _ (by simp)⟩
 ·have h1:=hpos x (by simp [hx])
  exact⟨s4 x hx,h1.2⟩
theorem out_split {l l':List (Int×Int)} {a:Int} (h:Out l l' a):∃ z,z∈l∧z.1=a:=by
 obtain⟨pre,post,y,rfl,-,hy,-⟩:=h
 exact⟨y,by simp,hy⟩
theorem first_at {a:Int}:∀ {l:List (Int×Int)},(∃ z∈l,z.1=a)→∃ pre z post,l=pre ++ z :: post∧z.1=a∧∀ x∈pre,x.1≠a
 | [],⟨z,h,_⟩=>by cases h
 |x :: t,h=>by
  by_cases e:x.1=a
  ·exact⟨[],x,t,rfl,e,fun y hy=>by cases hy⟩
  ·obtain⟨z,hz,ez⟩:=h
   rcases List.mem_cons.1 hz with g | g
   ·subst g;exact absurd ez e
   ·obtain⟨pre,z',post,e1,e2,e3⟩:=first_at ⟨z,g,ez⟩
    exact⟨x :: pre,z',post,by rw[e1];rfl,e2,fun y hy=>by
     rcases List.mem_cons.1 hy with g | g
     ·subst g;exact e
     ·exact e3 y g⟩
theorem srt_one:∀ {l:List (Int×Int)},Srt l→(∀ z∈l,1≤z.2)→∀ {x y:Int×Int},x∈l→y∈l→x.1=y.1→x=y
 | [],_,_,x,y,h,_,_=>by cases h
 |w :: t,h,p,x,y,hx,hy,e=>by
  unfold Srt at h
  obtain⟨a1,a2⟩:=List.pairwise_cons.1 h
  have hw:=p w (by simp)
  rcases List.mem_cons.1 hx with g | g
  ·rcases List.mem_cons.1 hy with g' | g'
   ·rw[g,g']
   ·subst g;have:=a1 y g';omega
  ·rcases List.mem_cons.1 hy with g' | g'
   ·subst g';have:=a1 x g;omega
   ·exact srt_one a2 (fun z hz=>p z (by simp [hz])) g g' e
end
namespace Re
section
variable {s:Sh} {ws0:Nat→Int} {c a n f:Int} {t:Re} {w:Wd}
structure Won (s:Sh) (ws0:Nat→Int) (c a n:Int) (t:Re) (ws:Nat→Int):Prop where
 fd:t.fd=true
 er:t.er=0
 gv:t.gave=true
 fit:t.bk.Fit s c∧(t.bk.lg=true→t.bk.i=0)∧(t.bk.lg=false→t.bk.n=0)
 len:t.bk.len=Pl.len n
 put:∃ pre post,Put s (blks s ws0 s.p.toNat) (t.bk.ad,t.bk.len) pre post∧∃ pre' z post',pre ++ (t.bk.ad,t.bk.len) :: post=pre' ++ z :: post'∧z.1=a∧(∀ x∈pre',x.1≠a)∧blks s ws s.p.toNat=pre' ++ post'
structure Non (s:Sh) (ws0:Nat→Int) (t:Re) (ws:Nat→Int):Prop where
 fd:t.fd=false
 er:t.er≠0
 gv:t.gave=false
 bl:blks s ws s.p.toNat=blks s ws0 s.p.toNat
theorem rvbk (v:Rv):(v.bk.lg=true→v.bk.i=0)∧(v.bk.lg=false→v.bk.n=0):=by
 cases v with
 | no=>exact⟨fun _=>rfl,fun _=>rfl⟩
 | sk t=>cases hf:t.fd<;>simp [Rv.bk,hf,Bk.zero]
 | rn t=>cases hf:t.fd<;>simp [Rv.bk,hf,Bk.zero]
theorem Al.ends (h:Al s ws0 c a n f t w) (hd:t.dn=true):Snd s w.ws∧(Won s ws0 c a n t w.ws∨Non s ws0 t w.ws):=by
 have hm:=h.ok
 have hb:=(may_iff _ _ _).1 hm
 have hP:((s.p.toNat:Nat):Int)≤s.p:=by omega
 cases h.ph with
 | rv _ hd'=>rw[hd]at hd';cases hd'
 | gv _ hd'=>rw[hd]at hd';cases hd'
 | cm _ hd'=>rw[hd]at hd';cases hd'
 | uo u _ hd'=>rw[hd]at hd';cases hd'
 |lost _ he gg hl rf hr rd=>
  refine⟨hl.snd,.inr ⟨by unfold Re.fd;rw[he];simp,by rw[he];decide,by unfold Re.gave;rw[gg];simp,hl.blks hP⟩⟩
 |none _ he gg ws1 hg hu no=>
  exact⟨hu.snd hm hg.snd hg.res,.inr ⟨by unfold Re.fd;rw[he];simp,by rw[he];decide,by unfold Re.gave;rw[gg];simp,(hu.blks hm hg.res hP).trans (hg.blks hm hP)⟩⟩
 |won _ he rf gg ws1 ws2 hg hw=>
  have hres:=hg.got.res.fd hm hg.fd
  have hcs:=hres.cm_snd hm hg.snd
  have ebk:t.bk=t.rv.bk:=by unfold Re.bk;rw[hd,he];rfl
  rw[hw]
  refine⟨hcs,.inl ⟨by unfold Re.fd;rw[hd,he,rf];rfl,he,by unfold Re.gave;rw[h.es.2.2,gg];rfl,by rw[ebk];exact⟨hres.f,rvbk _⟩,by rw[ebk];exact hg.len,?_⟩⟩
  rw[ebk]
  obtain⟨pre,post,hput,e1⟩:=hg.got.res.put hm hg.got.snd
  obtain⟨z0,hz0,ez0⟩:=out_split hg.out
  have hc1:=hg.got.res.cm_snd hm hg.got.snd
  have hs1:=hc1.srt hm _ hP
  have hp1:∀ z∈pre ++ (t.rv.bk.ad,t.rv.bk.len) :: post,1≤z.2:=fun z hz=>(blks_pos hm hc1 (by rw[e1];exact hz)).2.1
  rw[e1]at hs1
  have hz1:z0∈pre ++ (t.rv.bk.ad,t.rv.bk.len) :: post:=by
   rw[hput.eq]at hz0
   rcases List.mem_append.1 hz0 with g | g
   ·simp [g]
   ·simp [g]
  obtain⟨pre',z,post',e2,e3,e4⟩:=first_at (a:=a) ⟨z0,hz1,ez0⟩
  rw[hg.got.blks hm hP]at hput
  refine⟨pre,post,hput,pre',z,post',e2,e3,e4,?_⟩
  obtain⟨pre2,post2,hput2,e5⟩:=hres.put hm hg.snd
  have hs5:=hcs.srt hm _ hP
  have hp5:∀ z∈blks s (cmW s ws2 t.rv.bk) s.p.toNat,1≤z.2:=fun z hz=>(blks_pos hm hcs hz).2.1
  have hs2:=hs1
  have hp2:=hp1
  rw[e2]at hs2 hp2
  obtain⟨u1,u2,u3⟩:=srt_app hs2
  obtain⟨u4,u5⟩:=List.pairwise_cons.1 u2
  -- membership
  obtain⟨pa,po,yy,q1,q2,q3,q4,q5⟩:=hg.out
  have hzm:z∈pre ++ (t.rv.bk.ad,t.rv.bk.len) :: post:=by rw[e2];simp
  have hyy:yy∈pre ++ (t.rv.bk.ad,t.rv.bk.len) :: post:=by
   have:yy∈blks s ws1 s.p.toNat:=by rw[q1];simp
   rw[hg.got.blks hm hP,hput.eq]at this
   rcases List.mem_append.1 this with g | g
   ·simp [g]
   ·simp [g]
  have ezy:z=yy:=srt_one hs1 hp1 hzm hyy (by rw[e3,q3])
  have hyn:(t.rv.bk.ad,t.rv.bk.len)≠z:=fun g=>by
   have hz':z∈blks s ws0 s.p.toNat:=by rw[ezy,← hg.got.blks hm hP,q1];simp
   rw[hput.eq]at hz'
   have hb1:=hput.b
   rcases List.mem_append.1 hz' with g' | g'
   ·have:=hput.lo z g';rw[← g]at this;simp only at this hb1;omega
   ·have:=hput.hi z g';rw[← g]at this;simp only at this hb1;omega
  have memA:∀ x,x∈blks s ws0 s.p.toNat↔(x∈pre' ++ post'∧x≠(t.rv.bk.ad,t.rv.bk.len))∨x=z:=fun x=>by
   constructor
   ·intro hx
    by_cases g:x=z
    ·exact .inr g
    ·refine .inl ⟨?_,fun g2=>?_⟩
     ·have:x∈pre ++ (t.rv.bk.ad,t.rv.bk.len) :: post:=by
       rw[hput.eq]at hx
       rcases List.mem_append.1 hx with g | g
       ·simp [g]
       ·simp [g]
      rw[e2]at this
      simp only[List.mem_append,List.mem_cons]at this ⊢
      rcases this with h | h | h
      ·exact .inl h
      ·exact absurd h g
      ·exact .inr h
     ·rw[hput.eq]at hx
      have hb1:=hput.b
      rcases List.mem_append.1 hx with g' | g'
      ·have:=hput.lo x g';rw[g2]at this;simp only at this hb1;omega
      ·have:=hput.hi x g';rw[g2]at this;simp only at this hb1;omega
   ·rintro(⟨hx,hne⟩| hx)
    ·have:x∈pre ++ (t.rv.bk.ad,t.rv.bk.len) :: post:=by
      rw[e2]
      simp only[List.mem_append,List.mem_cons]at hx ⊢
      rcases hx with h | h
      ·exact .inl h
      ·exact .inr (.inr h)
     rw[hput.eq]
     simp only[List.mem_append,List.mem_cons]at this ⊢
     rcases this with h | h | h
     ·exact .inl h
     ·exact absurd h hne
     ·exact .inr h
    ·rw[hx,ezy,← hg.got.blks hm hP,q1];simp
  have nz:z ∉ pre' ++ post':=fun g=>by
   have hz2:=hp2 z (by simp)
   rcases List.mem_append.1 g with g | g
   ·exact e4 z g e3
   ·have:=u4 z g;omega
  refine srt_ext hs5 ?_ hp5 (fun x hx=>hp2 x ?_) fun x=>?_
  ·refine List.pairwise_append.2 ⟨u1,u5,fun x hx y hy=>u3 x hx y (by simp [hy])⟩
  ·rcases List.mem_append.1 hx with g | g
   ·simp [g]
   ·simp [g]
  ·rw[e5]
   have hx5:x∈pre2 ++ (t.rv.bk.ad,t.rv.bk.len) :: post2↔x=(t.rv.bk.ad,t.rv.bk.len)∨x∈blks s ws2 s.p.toNat:=by
    rw[hput2.eq];simp only[List.mem_append,List.mem_cons]
    constructor
    ·rintro(h | h | h)
     ·exact .inr (.inl h)
     ·exact .inl h
     ·exact .inr (.inr h)
    ·rintro(h | h | h)
     ·exact .inr (.inl h)
     ·exact .inl h
     ·exact .inr (.inr h)
   rw[hx5,q2]
   have hA:x∈blks s ws0 s.p.toNat↔x=yy∨x∈pa ++ po:=by
    rw[← hg.got.blks hm hP,q1];simp only[List.mem_append,List.mem_singleton]
    constructor
    ·rintro((h | h) | h)
     ·exact .inr (.inl h)
     ·exact .inl h
     ·exact .inr (.inr h)
    ·rintro(h | h | h)
     ·exact .inl (.inr h)
     ·exact .inl (.inl h)
     ·exact .inr h
   have hyin:(t.rv.bk.ad,t.rv.bk.len)∈pre' ++ post':=by
    have:(t.rv.bk.ad,t.rv.bk.len)∈pre' ++ z :: post':=by rw[← e2];simp
    simp only[List.mem_append,List.mem_cons]at this ⊢
    rcases this with h | h | h
    ·exact .inl h
    ·exact absurd h hyn
    ·exact .inr h
   constructor
   ·rintro(h | h)
    ·rw[h];exact hyin
    ·rcases (memA x).1 (hA.2 (.inr h)) with⟨g,-⟩| g
     ·exact g
     ·exfalso
      rcases List.mem_append.1 h with h' | h'
      ·exact q4 x h' (by rw[g];exact e3)
      ·exact q5 x h' (by rw[g];exact e3)
   ·intro hx
    by_cases g:x=(t.rv.bk.ad,t.rv.bk.len)
    ·exact .inl g
    ·right
     rcases hA.1 ((memA x).2 (.inl ⟨hx,g⟩)) with g' | g'
     ·exfalso;rw[g',← ezy]at hx;exact nz hx
     ·exact g'
structure Any (s:Sh) (ws0:Nat→Int) (c a n f:Int) (t:Re) (w:Wd):Prop where
 wf:t.wf
 of:w.of s
 es:t.s=s
 p:Al s ws0 c a n f t w∨(t.dn=true∧t.er=1∧t.on=false∧w.ws=ws0∧Snd s ws0)
end
end Re
end Go.Ma
namespace Go.Ma
open Go.Pl

def putSt (k b:Int):Int:=if 0≤k∧k≤4∧0≤b∧b≤255∧(k≠3→b=0) then k+16*b else 0
def stK (w:Int):Int:=if putSt (w % 16) (pt w 16)=w then w % 16 else 0
def stB (w:Int):Int:=if putSt (w % 16) (pt w 16)=w then pt w 16 else 0
theorem U_putSt (k b:Int):U (putSt k b):=by unfold putSt U;split<;>omega
theorem stB_bd (w:Int):0≤stB w∧stB w≤255:=by unfold stB pt;split<;>omega
structure Ad where
 s:Sh
 c:Int
 d:Int
 nx:Int
 was:Int
 by':Int
 at':Int
 i:Int
 pK:Int
 pA:Int
 pB:Int
 err:Int
 dn:Bool
 di:Int
 qK:Int
 qA:Int
 qB:Int
namespace Ad
def bad (s:Sh) (c d:Int):Bool:=decide (status s.p s.c s.m c<0) || (decide (status s.p s.c s.m d<0) || decide (c=d))
def new (s:Sh) (c d:Int):Ad:=⟨s,c,d,0,0,0,0,0,0,0,0,if bad s c d then 1 else 0,bad s c d,0,0,0,0⟩
def pat (t:Ad):Int:=page t.s.p t.s.c t.s.m t.at'
def hat (t:Ad):Int:=page t.s.p t.s.c t.s.m t.pA
def sat (t:Ad):Int:=slot t.s.p t.s.c t.s.m t.at' t.i
def dat (t:Ad):Int:=status t.s.p t.s.c t.s.m t.d
def bat (t:Ad):Int:=status t.s.p t.s.c t.s.m t.by'
def mat (t:Ad):Int:=mag t.s.p t.s.c t.s.m t.d t.i
def fin (t:Ad) (e:Int):Ad:={ t with err:=e,dn:=true }
def turn (t:Ad) (again next:Int):Ad:=
 if t.at'+1=t.s.p then { t with at':=0,i:=0,di:=0,nx:=if next=9∧t.s.m=0 then 10 else next } else { t with at':=t.at'+1,nx:=again }
def ask (t:Ad) (x:Int):Ad:=
 if stK x=2 then { t with was:=x,nx:=2 } else if stK x=3 then
  (if status t.s.p t.s.c t.s.m (stB x)<0 then { t with was:=x,err:=4,dn:=true } else { t with was:=x,by':=stB x,nx:=1,di:=stB x })
 else { t with was:=x,err:=5,dn:=true }
def other (t:Ad) (x:Int):Ad:=if stK x=1 then { t with nx:=2,err:=4,dn:=true } else { t with nx:=2 }
def claim (t:Ad) (x:Int):Ad:=if x=t.was then { t with nx:=3,di:=0 } else { t with nx:=3,di:=0,err:=4,dn:=true }
def own (t:Ad) (q x:Int):Bool:=okPg t.s q x && (decide (pgK t.s q x=1) && decide (pgA t.s q x=t.d))
def read (t:Ad) (x:Int):Ad:={ t with pK:=pgK t.s t.at' x,pA:=pgA t.s t.at' x,pB:=pgB t.s t.at' x }
def readQ (t:Ad) (x:Int):Ad:={ t with pK:=pgK t.s t.at' x,pA:=pgA t.s t.at' x,pB:=pgB t.s t.at' x,qK:=pgK t.s t.at' x,qA:=pgA t.s t.at' x,qB:=pgB t.s t.at' x }
def isB (t:Ad) (x:Int):Bool:=okPg t.s t.at' x && decide (pgK t.s t.at' x=4)
def isS (t:Ad) (x:Int):Bool:=okPg t.s t.at' x && decide (pgK t.s t.at' x=2)
def bodies (t:Ad) (x:Int):Ad:=if t.isB x then { t.readQ x with nx:=4 } else(t.read x).turn 3 6
def head (t:Ad) (x:Int):Ad:=if t.own t.pA x then { t with nx:=5 } else t.turn 3 6
def pages (t:Ad) (x:Int):Ad:=if t.own t.at' x then { t with nx:=7,i:=0,di:=0 } else t.turn 6 9
def clear (t:Ad):Ad:={ t with i:=t.i+1,di:=t.di+1,nx:=if t.i+1=16 then 8 else 7 }
def entry (t:Ad):Ad:=if t.i+1=t.s.m then { t with i:=0,di:=0,nx:=10 } else { t with i:=t.i+1,di:=t.di+1 }
def supers (t:Ad) (x:Int):Ad:=if t.isS x then { t.readQ x with nx:=11,i:=0,di:=0 } else(t.read x).turn 10 13
def slot (t:Ad):Ad:=if t.i+1=slots t.pA then { t with i:=0,di:=t.di+1,nx:=11 }.turn 10 13 else { t with i:=t.i+1,di:=t.di+1,nx:=11 }
def slots' (t:Ad) (x:Int):Ad:=if x=way t.d then { t with nx:=12 } else t.slot
def step (t:Ad) (w:Wd):Ad×Wd:=
 if t.dn then(t,w) else
 if t.nx=0 then(t.ask (w.get t.dat),w.load t.c t.dat) else
 if t.nx=1 then(t.other (w.get t.bat),w.load t.c t.bat) else
 if t.nx=2 then(t.claim (w.get t.dat),w.swap t.c t.dat t.was (putSt 3 t.c)) else
 if t.nx=3 then(t.bodies (w.get t.pat),w.load t.c t.pat) else
 if t.nx=4 then(t.head (w.get t.hat),w.load t.c t.hat) else
 if t.nx=5 then(t.turn 3 6,w.store t.c t.pat 0) else
 if t.nx=6 then(t.pages (w.get t.pat),w.load t.c t.pat) else
 if t.nx=7 then(t.clear,w.store t.c t.sat 0) else
 if t.nx=8 then(t.turn 6 9,w.store t.c t.pat 0) else
 if t.nx=9 then(t.entry,w.store t.c t.mat 0) else
 if t.nx=10 then(t.supers (w.get t.pat),w.load t.c t.pat) else
 if t.nx=11 then(t.slots' (w.get t.sat),w.load t.c t.sat) else
 if t.nx=12 then(t.slot,w.store t.c t.sat (opn t.pA)) else
 (t.fin 0,w.store t.c t.dat (putSt 4 0))

def Ar (p c' m c d nx b at' i pA di qA sl:Int):Prop:=
 0≤c∧c<c'∧0≤d∧d<c'∧0≤nx∧nx≤13∧0≤at'∧at'<p∧0≤i∧i≤16∧(nx=1→0≤b∧b<c'∧di=b)∧(nx=4→0≤pA∧pA<at'∧qA=pA)∧(nx=7→i<16∧di=i) ∧
  (nx=8→i=16∧di=16)∧(nx=9→i<m∧di=i)∧(nx=11∨nx=12→i<sl∧di=i∧0≤pA∧pA≤3∧qA=pA)∧(nx≤3∧at'=0→i=0)∧(nx≤2→at'=0)∧0≤di∧di≤255
structure wf (t:Ad):Prop where
 of:t.dn=false→may t.s.p t.s.c t.s.m=true∧t.err=0∧t.c≠t.d∧Ar t.s.p t.s.c t.s.m t.c t.d t.nx t.by' t.at' t.i t.pA t.di t.qA (slots t.pA)
variable {t:Ad} {w:Wd}
theorem new_wf (s:Sh) (c d:Int):(new s c d).wf:=by
 refine⟨fun hd=>?_⟩
 have hd:bad s c d=false:=hd
 have hb:=hd
 unfold bad at hb
 simp only[Bool.or_eq_false_iff,decide_eq_false_iff_not]at hb
 obtain⟨h1,h2,h3⟩:=hb
 rw[status_lt0]at h1 h2
 have h1:=Classical.not_not.1 h1
 have h2:=Classical.not_not.1 h2
 have hm:=(may_iff _ _ _).1 h1.1
 refine⟨h1.1,by show(if bad s c d=true then(1:Int) else 0)=0;rw[hd];rfl,h3,?_⟩
 show Ar s.p s.c s.m c d 0 0 0 0 0 0 0 (slots 0)
 unfold Ar
 omega
theorem turn_wf {again next:Int} (hm:may t.s.p t.s.c t.s.m=true) (he:t.err=0) (hcd:t.c≠t.d) (hc:0≤t.c∧t.c<t.s.c) (hd:0≤t.d∧t.d<t.s.c) (ha:0≤t.at'∧t.at'<t.s.p) (hi:0≤t.i∧t.i≤16) (hdi:0≤t.di∧t.di≤255)
  (h1:again=3∨again=6∨again=10) (h2:next=6∨next=9∨next=13):(t.turn again next).wf:=by
 have hb:=(may_iff _ _ _).1 hm
 unfold turn
 split
 ·refine⟨fun _=>⟨hm,he,hcd,?_⟩⟩
  have h3:(if next=9∧t.s.m=0 then(10:Int) else next)=6∨(if next=9∧t.s.m=0 then(10:Int) else next)=10∨(if next=9∧t.s.m=0 then(10:Int) else next)=13∨((if next=9∧t.s.m=0 then(10:Int) else next)=9∧t.s.m≠0):=by
   split<;>omega
  show Ar t.s.p t.s.c t.s.m t.c t.d (if next=9∧t.s.m=0 then(10:Int) else next) t.by' 0 0 t.pA 0 t.qA (slots t.pA)
  unfold Ar
  omega
 ·refine⟨fun _=>⟨hm,he,hcd,?_⟩⟩
  show Ar t.s.p t.s.c t.s.m t.c t.d again t.by' (t.at'+1) t.i t.pA t.di t.qA (slots t.pA)
  unfold Ar
  omega
theorem slot_wf (hm:may t.s.p t.s.c t.s.m=true) (he:t.err=0) (hcd:t.c≠t.d) (hc:0≤t.c∧t.c<t.s.c) (hd:0≤t.d∧t.d<t.s.c) (ha:0≤t.at'∧t.at'<t.s.p) (hi:0≤t.i∧t.i<slots t.pA∧t.di=t.i∧0≤t.pA∧t.pA≤3∧t.qA=t.pA):t.slot.wf:=by
 have sb:=slots_bd t.pA
 unfold slot
 split
 ·exact turn_wf (t:={ t with i:=0,di:=t.di+1,nx:=11 }) hm he hcd hc hd ha ⟨Int.le_refl _,by show(0:Int)≤16;decide⟩ ⟨by show 0≤t.di+1;omega,by show t.di+1≤255;omega⟩ (.inr (.inr rfl)) (.inr (.inr rfl))
 ·refine⟨fun _=>⟨hm,he,hcd,?_⟩⟩
  show Ar t.s.p t.s.c t.s.m t.c t.d 11 t.by' t.at' (t.i+1) t.pA (t.di+1) t.qA (slots t.pA)
  unfold Ar
  omega
theorem step_dn (h:t.dn=true):t.step w=(t,w):=by unfold step;rw[if_pos h]
theorem s0 (hd:t.dn=false) (hn:t.nx=0):t.step w=(t.ask (w.get t.dat),w.load t.c t.dat):=by
 unfold step;rw[if_neg (by rw[hd];decide),if_pos hn]
theorem s1 (hd:t.dn=false) (hn:t.nx=1):t.step w=(t.other (w.get t.bat),w.load t.c t.bat):=by
 unfold step;rw[if_neg (by rw[hd];decide),if_neg (by omega),if_pos hn]
theorem s2 (hd:t.dn=false) (hn:t.nx=2):t.step w=(t.claim (w.get t.dat),w.swap t.c t.dat t.was (putSt 3 t.c)):=by
 unfold step;rw[if_neg (by rw[hd];decide),if_neg (by omega),if_neg (by omega),if_pos hn]
theorem s3 (hd:t.dn=false) (hn:t.nx=3):t.step w=(t.bodies (w.get t.pat),w.load t.c t.pat):=by
 unfold step;rw[if_neg (by rw[hd];decide),if_neg (by omega),if_neg (by omega),if_neg (by omega),if_pos hn]
theorem s4 (hd:t.dn=false) (hn:t.nx=4):t.step w=(t.head (w.get t.hat),w.load t.c t.hat):=by
 unfold step;rw[if_neg (by rw[hd];decide),if_neg (by omega),if_neg (by omega),if_neg (by omega),if_neg (by omega),if_pos hn]
theorem s5 (hd:t.dn=false) (hn:t.nx=5):t.step w=(t.turn 3 6,w.store t.c t.pat 0):=by
 unfold step;rw[if_neg (by rw[hd];decide),if_neg (by omega),if_neg (by omega),if_neg (by omega),if_neg (by omega),if_neg (by omega),if_pos hn]
theorem s6 (hd:t.dn=false) (hn:t.nx=6):t.step w=(t.pages (w.get t.pat),w.load t.c t.pat):=by
 unfold step;rw[if_neg (by rw[hd];decide),if_neg (by omega),if_neg (by omega),if_neg (by omega),if_neg (by omega),if_neg (by omega),if_neg (by omega),if_pos hn]
theorem s7 (hd:t.dn=false) (hn:t.nx=7):t.step w=(t.clear,w.store t.c t.sat 0):=by
 unfold step;rw[if_neg (by rw[hd];decide),if_neg (by omega),if_neg (by omega),if_neg (by omega),if_neg (by omega),if_neg (by omega),if_neg (by omega),if_neg (by omega),if_pos hn]
theorem s8 (hd:t.dn=false) (hn:t.nx=8):t.step w=(t.turn 6 9,w.store t.c t.pat 0):=by
 unfold step;rw[if_neg (by rw[hd];decide),if_neg (by omega),if_neg (by omega),if_neg (by omega),if_neg (by omega),if_neg (by omega),if_neg (by omega),if_neg (by omega),if_neg (by omega),if_pos hn]
theorem s9 (hd:t.dn=false) (hn:t.nx=9):t.step w=(t.entry,w.store t.c t.mat 0):=by
 unfold step;rw[if_neg (by rw[hd];decide),if_neg (by omega),if_neg (by omega),if_neg (by omega),if_neg (by omega),if_neg (by omega),if_neg (by omega),if_neg (by omega),if_neg (by omega),if_neg (by omega),if_pos hn]
theorem s10 (hd:t.dn=false) (hn:t.nx=10):t.step w=(t.supers (w.get t.pat),w.load t.c t.pat):=by
 unfold step;rw[if_neg (by rw[hd];decide),if_neg (by omega),if_neg (by omega),if_neg (by omega),if_neg (by omega),if_neg (by omega),if_neg (by omega),if_neg (by omega),if_neg (by omega),if_neg (by omega),if_neg (by omega),if_pos hn]
theorem s11 (hd:t.dn=false) (hn:t.nx=11):t.step w=(t.slots' (w.get t.sat),w.load t.c t.sat):=by
 unfold step;rw[if_neg (by rw[hd];decide),if_neg (by omega),if_neg (by omega),if_neg (by omega),if_neg (by omega),if_neg (by omega),if_neg (by omega),if_neg (by omega),if_neg (by omega),if_neg (by omega),if_neg (by omega),if_neg (by omega),if_pos hn]
theorem s12 (hd:t.dn=false) (hn:t.nx=12):t.step w=(t.slot,w.store t.c t.sat (opn t.pA)):=by
 unfold step;rw[if_neg (by rw[hd];decide),if_neg (by omega),if_neg (by omega),if_neg (by omega),if_neg (by omega),if_neg (by omega),if_neg (by omega),if_neg (by omega),if_neg (by omega),if_neg (by omega),if_neg (by omega),if_neg (by omega),if_neg (by omega),if_pos hn]
theorem s13 (hd:t.dn=false) (hn:t.nx=13):t.step w=(t.fin 0,w.store t.c t.dat (putSt 4 0)):=by
 unfold step;rw[if_neg (by rw[hd];decide),if_neg (by omega),if_neg (by omega),if_neg (by omega),if_neg (by omega),if_neg (by omega),if_neg (by omega),if_neg (by omega),if_neg (by omega),if_neg (by omega),if_neg (by omega),if_neg (by omega),if_neg (by omega),if_neg (by omega)]
theorem step_cases (t:Ad) (w:Wd):(t.dn=true∧t.step w=(t,w))∨(t.dn=false ∧
    ((t.nx=0∧t.step w=(t.ask (w.get t.dat),w.load t.c t.dat)) ∨
     (t.nx=1∧t.step w=(t.other (w.get t.bat),w.load t.c t.bat)) ∨
     (t.nx=2∧t.step w=(t.claim (w.get t.dat),w.swap t.c t.dat t.was (putSt 3 t.c))) ∨
     (t.nx=3∧t.step w=(t.bodies (w.get t.pat),w.load t.c t.pat)) ∨
     (t.nx=4∧t.step w=(t.head (w.get t.hat),w.load t.c t.hat)) ∨
     (t.nx=5∧t.step w=(t.turn 3 6,w.store t.c t.pat 0)) ∨
     (t.nx=6∧t.step w=(t.pages (w.get t.pat),w.load t.c t.pat)) ∨
     (t.nx=7∧t.step w=(t.clear,w.store t.c t.sat 0)) ∨
     (t.nx=8∧t.step w=(t.turn 6 9,w.store t.c t.pat 0)) ∨
     (t.nx=9∧t.step w=(t.entry,w.store t.c t.mat 0)) ∨
     (t.nx=10∧t.step w=(t.supers (w.get t.pat),w.load t.c t.pat)) ∨
     (t.nx=11∧t.step w=(t.slots' (w.get t.sat),w.load t.c t.sat)) ∨
     (t.nx=12∧t.step w=(t.slot,w.store t.c t.sat (opn t.pA))) ∨
     ((t.nx<0∨12<t.nx)∧t.step w=(t.fin 0,w.store t.c t.dat (putSt 4 0))))):=by
  by_cases hd:t.dn=true
  · exact .inl ⟨hd,step_dn hd⟩
  have hd:t.dn=false:=by simpa using hd
  refine .inr ⟨hd,?_⟩
  unfold step
  rw[if_neg (by rw[hd];decide)]
  by_cases e0:t.nx=0
  · exact .inl ⟨e0,by rw[if_pos e0]⟩
  by_cases e1:t.nx=1
  · exact .inr (.inl ⟨e1,by rw[if_neg (by omega),if_pos e1]⟩)
  by_cases e2:t.nx=2
  · exact .inr (.inr (.inl ⟨e2,by rw[if_neg (by omega),if_neg (by omega),if_pos e2]⟩))
  by_cases e3:t.nx=3
  · exact .inr (.inr (.inr (.inl ⟨e3,by rw[if_neg (by omega),if_neg (by omega),if_neg (by omega),if_pos e3]⟩)))
  by_cases e4:t.nx=4
  · exact .inr (.inr (.inr (.inr (.inl ⟨e4,by rw[if_neg (by omega),if_neg (by omega),if_neg (by omega),if_neg (by omega),if_pos e4]⟩))))
  by_cases e5:t.nx=5
  · exact .inr (.inr (.inr (.inr (.inr (.inl ⟨e5,by rw[if_neg (by omega),if_neg (by omega),if_neg (by omega),if_neg (by omega),if_neg (by omega),if_pos e5]⟩)))))
  by_cases e6:t.nx=6
  · exact .inr (.inr (.inr (.inr (.inr (.inr (.inl ⟨e6,by rw[if_neg (by omega),if_neg (by omega),if_neg (by omega),if_neg (by omega),if_neg (by omega),if_neg (by omega),if_pos e6]⟩))))))
  by_cases e7:t.nx=7
  · exact .inr (.inr (.inr (.inr (.inr (.inr (.inr (.inl ⟨e7,by rw[if_neg (by omega),if_neg (by omega),if_neg (by omega),if_neg (by omega),if_neg (by omega),if_neg (by omega),if_neg (by omega),if_pos e7]⟩)))))))
  by_cases e8:t.nx=8
  · exact .inr (.inr (.inr (.inr (.inr (.inr (.inr (.inr (.inl ⟨e8,by rw[if_neg (by omega),if_neg (by omega),if_neg (by omega),if_neg (by omega),if_neg (by omega),if_neg (by omega),if_neg (by omega),if_neg (by omega),if_pos e8]⟩))))))))
  by_cases e9:t.nx=9
  · exact .inr (.inr (.inr (.inr (.inr (.inr (.inr (.inr (.inr (.inl ⟨e9,by rw[if_neg (by omega),if_neg (by omega),if_neg (by omega),if_neg (by omega),if_neg (by omega),if_neg (by omega),if_neg (by omega),if_neg (by omega),if_neg (by omega),if_pos e9]⟩)))))))))
  by_cases e10:t.nx=10
  · exact .inr (.inr (.inr (.inr (.inr (.inr (.inr (.inr (.inr (.inr (.inl ⟨e10,by rw[if_neg (by omega),if_neg (by omega),if_neg (by omega),if_neg (by omega),if_neg (by omega),if_neg (by omega),if_neg (by omega),if_neg (by omega),if_neg (by omega),if_neg (by omega),if_pos e10]⟩))))))))))
  by_cases e11:t.nx=11
  · exact .inr (.inr (.inr (.inr (.inr (.inr (.inr (.inr (.inr (.inr (.inr (.inl ⟨e11,by rw[if_neg (by omega),if_neg (by omega),if_neg (by omega),if_neg (by omega),if_neg (by omega),if_neg (by omega),if_neg (by omega),if_neg (by omega),if_neg (by omega),if_neg (by omega),if_neg (by omega),if_pos e11]⟩)))))))))))
  by_cases e12:t.nx=12
  · exact .inr (.inr (.inr (.inr (.inr (.inr (.inr (.inr (.inr (.inr (.inr (.inr (.inl ⟨e12,by rw[if_neg (by omega),if_neg (by omega),if_neg (by omega),if_neg (by omega),if_neg (by omega),if_neg (by omega),if_neg (by omega),if_neg (by omega),if_neg (by omega),if_neg (by omega),if_neg (by omega),if_neg (by omega),if_pos e12]⟩))))))))))))
  exact .inr (.inr (.inr (.inr (.inr (.inr (.inr (.inr (.inr (.inr (.inr (.inr (.inr (⟨by omega,by rw[if_neg (by omega),if_neg (by omega),if_neg (by omega),if_neg (by omega),if_neg (by omega),if_neg (by omega),if_neg (by omega),if_neg (by omega),if_neg (by omega),if_neg (by omega),if_neg (by omega),if_neg (by omega),if_neg (by omega)]⟩)))))))))))))
theorem step_wf (h:t.wf) (hw:∀ i,U (w.ws i)):(t.step w).1.wf:=by
 cases hd:t.dn
 rotate_left
 ·rw[step_dn hd];exact h
 obtain⟨hm,he,hcd,a⟩:=h.of hd
 have a0:=a
 unfold Ar at a
 have sb:=slots_bd t.pA
 have hb:=(may_iff _ _ _).1 hm
 have A:∀ u:Ad,u.dn=true→u.wf:=fun u hu=>⟨fun h=>by rw[hu]at h;cases h⟩
 have T:∀ again next:Int,(again=3∨again=6∨again=10)→(next=6∨next=9∨next=13)→(t.turn again next).wf:=fun again next h1 h2=>turn_wf hm he hcd (by omega) (by omega) (by omega) (by omega) (by omega) h1 h2
 rcases step_cases t w with⟨e,-⟩|⟨-,⟨hn,e⟩|⟨hn,e⟩|⟨hn,e⟩|⟨hn,e⟩|⟨hn,e⟩|⟨hn,e⟩|⟨hn,e⟩|⟨hn,e⟩|⟨hn,e⟩|⟨hn,e⟩|⟨hn,e⟩|⟨hn,e⟩|⟨hn,e⟩|⟨hn,e⟩⟩
 ·rw[hd]at e;cases e
 all_goals rw[e]
 ·show(t.ask _).wf
  unfold ask
  split
  ·refine⟨fun _=>⟨hm,he,hcd,?_⟩⟩
   show Ar t.s.p t.s.c t.s.m t.c t.d 2 t.by' t.at' t.i t.pA t.di t.qA (slots t.pA)
   unfold Ar;omega
  ·split
   ·split
    ·exact A _ rfl
    ·rename_i hs
     have b:=stB_bd (w.get t.dat)
     rw[status_lt0]at hs
     have hs:=(Classical.not_not.1 hs).2
     refine⟨fun _=>⟨hm,he,hcd,?_⟩⟩
     show Ar t.s.p t.s.c t.s.m t.c t.d 1 (stB (w.get t.dat)) t.at' t.i t.pA (stB (w.get t.dat)) t.qA (slots t.pA)
     unfold Ar;omega
   ·exact A _ rfl
 ·show(t.other _).wf
  unfold other
  split
  ·exact A _ rfl
  ·refine⟨fun _=>⟨hm,he,hcd,?_⟩⟩
   show Ar t.s.p t.s.c t.s.m t.c t.d 2 t.by' t.at' t.i t.pA t.di t.qA (slots t.pA)
   unfold Ar;omega
 ·show(t.claim _).wf
  unfold claim
  split
  ·refine⟨fun _=>⟨hm,he,hcd,?_⟩⟩
   show Ar t.s.p t.s.c t.s.m t.c t.d 3 t.by' t.at' t.i t.pA 0 t.qA (slots t.pA)
   unfold Ar;omega
  ·exact A _ rfl
 ·show(t.bodies _).wf
  unfold bodies
  split
  ·rename_i hB
   unfold isB at hB
   simp only[Bool.and_eq_true,decide_eq_true_eq]at hB
   have:=ok_body hB.1 hB.2
   refine⟨fun _=>⟨hm,he,hcd,?_⟩⟩
   show Ar t.s.p t.s.c t.s.m t.c t.d 4 t.by' t.at' t.i (pgA t.s t.at' (w.get t.pat)) t.di (pgA t.s t.at' (w.get t.pat)) (slots (pgA t.s t.at' (w.get t.pat)))
   unfold Ar;omega
  ·exact turn_wf (t:=t.read (w.get t.pat)) hm he hcd ⟨a.1,a.2.1⟩ ⟨a.2.2.1,a.2.2.2.1⟩ (by show 0≤t.at'∧t.at'<t.s.p;omega) (by show 0≤t.i∧t.i≤16;omega) (by show 0≤t.di∧t.di≤255;omega) (.inl rfl) (.inl rfl)
 ·show(t.head _).wf
  unfold head
  split
  ·refine⟨fun _=>⟨hm,he,hcd,?_⟩⟩
   show Ar t.s.p t.s.c t.s.m t.c t.d 5 t.by' t.at' t.i t.pA t.di t.qA (slots t.pA)
   unfold Ar;omega
  ·exact T _ _ (.inl rfl) (.inl rfl)
 ·exact T _ _ (.inl rfl) (.inl rfl)
 ·show(t.pages _).wf
  unfold pages
  split
  ·refine⟨fun _=>⟨hm,he,hcd,?_⟩⟩
   show Ar t.s.p t.s.c t.s.m t.c t.d 7 t.by' t.at' 0 t.pA 0 t.qA (slots t.pA)
   unfold Ar;omega
  ·exact T _ _ (.inr (.inl rfl)) (.inr (.inl rfl))
 ·refine⟨fun _=>⟨hm,he,hcd,?_⟩⟩
  have h3:((if t.i+1=16 then(8:Int) else 7)=8∧t.i+1=16)∨((if t.i+1=16 then(8:Int) else 7)=7∧t.i+1≠16):=by split<;>omega
  show Ar t.s.p t.s.c t.s.m t.c t.d (if t.i+1=16 then 8 else 7) t.by' t.at' (t.i+1) t.pA (t.di+1) t.qA (slots t.pA)
  unfold Ar;omega
 ·exact T _ _ (.inr (.inl rfl)) (.inr (.inl rfl))
 ·show(t.entry).wf
  unfold entry
  split
  ·refine⟨fun _=>⟨hm,he,hcd,?_⟩⟩
   show Ar t.s.p t.s.c t.s.m t.c t.d 10 t.by' t.at' 0 t.pA 0 t.qA (slots t.pA)
   unfold Ar;omega
  ·refine⟨fun _=>⟨hm,he,hcd,?_⟩⟩
   show Ar t.s.p t.s.c t.s.m t.c t.d t.nx t.by' t.at' (t.i+1) t.pA (t.di+1) t.qA (slots t.pA)
   unfold Ar;omega
 ·show(t.supers _).wf
  unfold supers
  split
  ·rename_i hS
   unfold isS at hS
   simp only[Bool.and_eq_true,decide_eq_true_eq]at hS
   have h1:=Gv.ok_super hS.1 hS.2
   have h2:=Gv.slot_of (o:=0) (k:=pgA t.s t.at' (w.get t.pat)) ⟨h1.1,h1.2.1⟩ ⟨by decide,by decide⟩
   have h3:(0:Int) / size (pgA t.s t.at' (w.get t.pat))=0:=Int.zero_ediv _
   refine⟨fun _=>⟨hm,he,hcd,?_⟩⟩
   show Ar t.s.p t.s.c t.s.m t.c t.d 11 t.by' t.at' 0 (pgA t.s t.at' (w.get t.pat)) 0 (pgA t.s t.at' (w.get t.pat)) (slots (pgA t.s t.at' (w.get t.pat)))
   unfold Ar;omega
  ·exact turn_wf (t:=t.read (w.get t.pat)) hm he hcd ⟨a.1,a.2.1⟩ ⟨a.2.2.1,a.2.2.2.1⟩ (by show 0≤t.at'∧t.at'<t.s.p;omega) (by show 0≤t.i∧t.i≤16;omega) (by show 0≤t.di∧t.di≤255;omega) (.inr (.inr rfl)) (.inr (.inr rfl))
 ·show(t.slots' _).wf
  unfold slots'
  split
  ·refine⟨fun _=>⟨hm,he,hcd,?_⟩⟩
   show Ar t.s.p t.s.c t.s.m t.c t.d 12 t.by' t.at' t.i t.pA t.di t.qA (slots t.pA)
   unfold Ar;omega
  ·exact slot_wf hm he hcd (by omega) (by omega) (by omega) (by omega)
 ·exact slot_wf hm he hcd (by omega) (by omega) (by omega) (by omega)
 ·exact A _ rfl

/-! ### Who it is stays -/
theorem turn_k (t:Ad) (a b:Int):(t.turn a b).s=t.s∧(t.turn a b).c=t.c∧(t.turn a b).d=t.d∧(t.turn a b).dn=t.dn∧(t.turn a b).err=t.err∧(t.turn a b).pA=t.pA∧(t.turn a b).was=t.was∧(t.turn a b).by'=t.by':=by
 unfold turn;split<;>exact⟨rfl,rfl,rfl,rfl,rfl,rfl,rfl,rfl⟩
theorem slot_k (t:Ad):t.slot.s=t.s∧t.slot.c=t.c∧t.slot.d=t.d∧t.slot.dn=t.dn∧t.slot.err=t.err:=by
 unfold slot;split
 ·have:=turn_k { t with i:=0,di:=t.di+1,nx:=11 } 10 13;exact⟨this.1,this.2.1,this.2.2.1,this.2.2.2.1,this.2.2.2.2.1⟩
 ·exact⟨rfl,rfl,rfl,rfl,rfl⟩
theorem step_k (t:Ad) (w:Wd):(t.step w).1.s=t.s∧(t.step w).1.c=t.c∧(t.step w).1.d=t.d:=by
 have T:=fun (t:Ad) a b=>(⟨(turn_k t a b).1,(turn_k t a b).2.1,(turn_k t a b).2.2.1⟩:(t.turn a b).s=t.s∧(t.turn a b).c=t.c∧(t.turn a b).d=t.d)
 rcases step_cases t w with⟨-,e⟩|⟨-,⟨-,e⟩|⟨-,e⟩|⟨-,e⟩|⟨-,e⟩|⟨-,e⟩|⟨-,e⟩|⟨-,e⟩|⟨-,e⟩|⟨-,e⟩|⟨-,e⟩|⟨-,e⟩|⟨-,e⟩|⟨-,e⟩|⟨-,e⟩⟩<;>rw[e]
 ·exact⟨rfl,rfl,rfl⟩
 ·show(t.ask _).s=_∧(t.ask _).c=_∧(t.ask _).d=_
  unfold ask;split
  ·exact⟨rfl,rfl,rfl⟩
  ·split
   ·split<;>exact⟨rfl,rfl,rfl⟩
   ·exact⟨rfl,rfl,rfl⟩
 ·show(t.other _).s=_∧(t.other _).c=_∧(t.other _).d=_
  unfold other;split<;>exact⟨rfl,rfl,rfl⟩
 ·show(t.claim _).s=_∧(t.claim _).c=_∧(t.claim _).d=_
  unfold claim;split<;>exact⟨rfl,rfl,rfl⟩
 ·show(t.bodies _).s=_∧(t.bodies _).c=_∧(t.bodies _).d=_
  unfold bodies;split
  ·exact⟨rfl,rfl,rfl⟩
  ·exact T (t.read _) 3 6
 ·show(t.head _).s=_∧(t.head _).c=_∧(t.head _).d=_
  unfold head;split
  ·exact⟨rfl,rfl,rfl⟩
  ·exact T t 3 6
 ·exact T t 3 6
 ·show(t.pages _).s=_∧(t.pages _).c=_∧(t.pages _).d=_
  unfold pages;split
  ·exact⟨rfl,rfl,rfl⟩
  ·exact T t 6 9
 ·exact⟨rfl,rfl,rfl⟩
 ·exact T t 6 9
 ·show(t.entry).s=_∧(t.entry).c=_∧(t.entry).d=_
  unfold entry;split<;>exact⟨rfl,rfl,rfl⟩
 ·show(t.supers _).s=_∧(t.supers _).c=_∧(t.supers _).d=_
  unfold supers;split
  ·exact⟨rfl,rfl,rfl⟩
  ·exact T (t.read _) 10 13
 ·show(t.slots' _).s=_∧(t.slots' _).c=_∧(t.slots' _).d=_
  unfold slots';split
  ·exact⟨rfl,rfl,rfl⟩
  ·exact⟨(slot_k t).1,(slot_k t).2.1,(slot_k t).2.2.1⟩
 ·exact⟨(slot_k t).1,(slot_k t).2.1,(slot_k t).2.2.1⟩
 ·exact⟨rfl,rfl,rfl⟩
theorem step_of {s:Sh} (h:w.of s):(t.step w).2.of s:=by
 rcases step_cases t w with⟨-,e⟩|⟨-,⟨-,e⟩|⟨-,e⟩|⟨-,e⟩|⟨-,e⟩|⟨-,e⟩|⟨-,e⟩|⟨-,e⟩|⟨-,e⟩|⟨-,e⟩|⟨-,e⟩|⟨-,e⟩|⟨-,e⟩|⟨-,e⟩|⟨-,e⟩⟩<;>rw[e]
 ·exact h
 ·exact Wd.of_load h _ _
 ·exact Wd.of_load h _ _
 ·exact Wd.of_swap h (U_putSt ..) _ _ _
 ·exact Wd.of_load h _ _
 ·exact Wd.of_load h _ _
 ·exact Wd.of_store h U_0 _ _
 ·exact Wd.of_load h _ _
 ·exact Wd.of_store h U_0 _ _
 ·exact Wd.of_store h U_0 _ _
 ·exact Wd.of_store h U_0 _ _
 ·exact Wd.of_load h _ _
 ·exact Wd.of_load h _ _
 ·exact Wd.of_store h (U_opn _) _ _
 ·exact Wd.of_store h (U_putSt ..) _ _
/-! ### How long -/
def lf (p m nx at' i sl:Int):Int:=
 if nx=0 then 54*p+m+4 else if nx=1 then 54*p+m+3 else if nx=2 then 54*p+m+2 else if nx=3 then 3*(p - at')+51*p+m+1 else if nx=4 then 3*(p - at')+51*p+m else
 if nx=5 then 3*(p - at')+51*p+m - 1 else if nx=6 then 18*(p - at')+33*p+m+1 else if nx=7 then 18*(p - at')+33*p+m - i else if nx=8 then 18*(p - at')+33*p+m - 16 else
 if nx=9 then m - i+33*p+1 else if nx=10 then 33*(p - at')+1 else if nx=11 then 33*(p - at') - 32+2*(sl - i) else if nx=12 then 33*(p - at') - 33+2*(sl - i) else 1
def left (t:Ad):Int:=if t.dn then 0 else lf t.s.p t.s.m t.nx t.at' t.i (slots t.pA)
theorem left_eq (hd:t.dn=false) {n:Int} (hn:t.nx=n):t.left=lf t.s.p t.s.m n t.at' t.i (slots t.pA):=by unfold left;rw[hd,hn];rfl
theorem left_0 (hd:t.dn=true):t.left=0:=by unfold left;rw[if_pos hd]
theorem turn36 (hd:t.dn=false):(t.turn 3 6).left=3*(t.s.p - t.at')+51*t.s.p+t.s.m - 2:=by
 rw[show(t.turn 3 6).left=if t.dn then 0 else lf t.s.p t.s.m (t.turn 3 6).nx (t.turn 3 6).at' (t.turn 3 6).i (slots t.pA) by unfold left;rw[(turn_k t 3 6).1,(turn_k t 3 6).2.2.2.1,(turn_k t 3 6).2.2.2.2.2.1],hd,if_neg (by decide)]
 unfold turn
 split
 ·show 18*(t.s.p - 0)+33*t.s.p+t.s.m+1=_;omega
 ·show 3*(t.s.p - (t.at'+1))+51*t.s.p+t.s.m+1=_;omega
theorem turn69 (hd:t.dn=false):(t.turn 6 9).left=18*(t.s.p - t.at')+33*t.s.p+t.s.m - 17:=by
 rw[show(t.turn 6 9).left=if t.dn then 0 else lf t.s.p t.s.m (t.turn 6 9).nx (t.turn 6 9).at' (t.turn 6 9).i (slots t.pA) by unfold left;rw[(turn_k t 6 9).1,(turn_k t 6 9).2.2.2.1,(turn_k t 6 9).2.2.2.2.2.1],hd,if_neg (by decide)]
 unfold turn
 split
 ·by_cases h:t.s.m=0
  ·show lf t.s.p t.s.m (if(9:Int)=9∧t.s.m=0 then 10 else 9) 0 0 (slots t.pA)=_
   rw[if_pos ⟨rfl,h⟩]
   show 33*(t.s.p - 0)+1=_;omega
  ·show lf t.s.p t.s.m (if(9:Int)=9∧t.s.m=0 then 10 else 9) 0 0 (slots t.pA)=_
   rw[if_neg (by omega)]
   show t.s.m - 0+33*t.s.p+1=_;omega
 ·show 18*(t.s.p - (t.at'+1))+33*t.s.p+t.s.m+1=_;omega
theorem turn1013 (hd:t.dn=false):(t.turn 10 13).left=33*(t.s.p - t.at') - 32:=by
 rw[show(t.turn 10 13).left=if t.dn then 0 else lf t.s.p t.s.m (t.turn 10 13).nx (t.turn 10 13).at' (t.turn 10 13).i (slots t.pA) by unfold left;rw[(turn_k t 10 13).1,(turn_k t 10 13).2.2.2.1,(turn_k t 10 13).2.2.2.2.2.1],hd,if_neg (by decide)]
 unfold turn
 split
 ·show(1:Int)=_;omega
 ·show 33*(t.s.p - (t.at'+1))+1=_;omega
theorem slot_left (hd:t.dn=false):t.slot.left≤33*(t.s.p - t.at') - 34+2*(slots t.pA - t.i):=by
 unfold slot
 split
 ·rw[turn1013 (t:={ t with i:=0,di:=t.di+1,nx:=11 }) hd]
  show 33*(t.s.p - t.at') - 32≤_;omega
 ·rw[left_eq (t:={ t with i:=t.i+1,di:=t.di+1,nx:=11 }) hd rfl]
  show 33*(t.s.p - t.at') - 32+2*(slots t.pA - (t.i+1))≤_;omega
theorem left_pos (h:t.wf) (hd:t.dn=false):0<t.left:=by
 obtain⟨hm,he,hcd,a⟩:=h.of hd
 have hb:=(may_iff _ _ _).1 hm
 unfold Ar at a
 rcases (by omega:t.nx=0∨t.nx=1∨t.nx=2∨t.nx=3∨t.nx=4∨t.nx=5∨t.nx=6∨t.nx=7∨t.nx=8∨t.nx=9∨t.nx=10∨t.nx=11∨t.nx=12∨t.nx=13) with hn | hn | hn | hn | hn | hn | hn | hn | hn | hn | hn | hn | hn | hn<;>rw[left_eq hd hn]
 ·show(0:Int)<54*t.s.p+t.s.m+4;omega
 ·show(0:Int)<54*t.s.p+t.s.m+3;omega
 ·show(0:Int)<54*t.s.p+t.s.m+2;omega
 ·show(0:Int)<3*(t.s.p - t.at')+51*t.s.p+t.s.m+1;omega
 ·show(0:Int)<3*(t.s.p - t.at')+51*t.s.p+t.s.m;omega
 ·show(0:Int)<3*(t.s.p - t.at')+51*t.s.p+t.s.m - 1;omega
 ·show(0:Int)<18*(t.s.p - t.at')+33*t.s.p+t.s.m+1;omega
 ·show(0:Int)<18*(t.s.p - t.at')+33*t.s.p+t.s.m - t.i;omega
 ·show(0:Int)<18*(t.s.p - t.at')+33*t.s.p+t.s.m - 16;omega
 ·show(0:Int)<t.s.m - t.i+33*t.s.p+1;omega
 ·show(0:Int)<33*(t.s.p - t.at')+1;omega
 ·show(0:Int)<33*(t.s.p - t.at') - 32+2*(slots t.pA - t.i);omega
 ·show(0:Int)<33*(t.s.p - t.at') - 33+2*(slots t.pA - t.i);omega
 ·show(0:Int)<1;omega
theorem left_nn (h:t.wf):0≤t.left:=by
 cases hd:t.dn
 ·have:=left_pos h hd;omega
 ·rw[left_0 hd];exact Int.le_refl _
theorem left_dn (h:t.wf) (hl:t.left≤0):t.dn=true:=by
 cases hd:t.dn
 ·have:=left_pos h hd;omega
 ·rfl
theorem step_left (h:t.wf) (hd:t.dn=false):(t.step w).1.left<t.left:=by
 obtain⟨hm,he,hcd,a⟩:=h.of hd
 have hb:=(may_iff _ _ _).1 hm
 unfold Ar at a
 have sb:=slots_bd t.pA
 have Z:∀ u:Ad,u.dn=true→0<t.left→u.left<t.left:=fun u hu h0=>by rw[left_0 hu];exact h0
 have P:0<t.left:=left_pos h hd
 rcases step_cases t w with⟨e,-⟩|⟨-,⟨hn,e⟩|⟨hn,e⟩|⟨hn,e⟩|⟨hn,e⟩|⟨hn,e⟩|⟨hn,e⟩|⟨hn,e⟩|⟨hn,e⟩|⟨hn,e⟩|⟨hn,e⟩|⟨hn,e⟩|⟨hn,e⟩|⟨hn,e⟩|⟨hn,e⟩⟩
 ·rw[hd]at e;cases e
 all_goals rw[e]
 ·rw[left_eq hd hn]at P Z ⊢
  show(t.ask _).left<54*t.s.p+t.s.m+4
  unfold ask
  split
  ·rw[left_eq (t:={ t with was:=w.get t.dat,nx:=2 }) hd rfl]
   show 54*t.s.p+t.s.m+2<_;omega
  ·split
   ·split
    ·exact Z _ rfl P
    ·rw[left_eq (t:={ t with was:=w.get t.dat,by':=stB (w.get t.dat),nx:=1,di:=stB (w.get t.dat) }) hd rfl]
     show 54*t.s.p+t.s.m+3<_;omega
   ·exact Z _ rfl P
 ·rw[left_eq hd hn]at P Z ⊢
  show(t.other _).left<54*t.s.p+t.s.m+3
  unfold other
  split
  ·exact Z _ rfl P
  ·rw[left_eq (t:={ t with nx:=2 }) hd rfl]
   show 54*t.s.p+t.s.m+2<_;omega
 ·rw[left_eq hd hn]at P Z ⊢
  show(t.claim _).left<54*t.s.p+t.s.m+2
  unfold claim
  split
  ·rw[left_eq (t:={ t with nx:=3,di:=0 }) hd rfl]
   show 3*(t.s.p - t.at')+51*t.s.p+t.s.m+1<_;omega
  ·exact Z _ rfl P
 ·rw[left_eq hd hn]at P Z ⊢
  show(t.bodies _).left<3*(t.s.p - t.at')+51*t.s.p+t.s.m+1
  unfold bodies
  split
  ·rw[left_eq (t:={ t.readQ (w.get t.pat) with nx:=4 }) hd rfl]
   show 3*(t.s.p - t.at')+51*t.s.p+t.s.m<_;omega
  ·rw[turn36 (t:=t.read (w.get t.pat)) hd]
   show 3*(t.s.p - t.at')+51*t.s.p+t.s.m - 2<_;omega
 ·rw[left_eq hd hn]at P Z ⊢
  show(t.head _).left<3*(t.s.p - t.at')+51*t.s.p+t.s.m
  unfold head
  split
  ·rw[left_eq (t:={ t with nx:=5 }) hd rfl]
   show 3*(t.s.p - t.at')+51*t.s.p+t.s.m - 1<_;omega
  ·rw[turn36 hd];omega
 ·rw[left_eq hd hn]at P Z ⊢
  show(t.turn 3 6).left<3*(t.s.p - t.at')+51*t.s.p+t.s.m - 1
  rw[turn36 hd];omega
 ·rw[left_eq hd hn]at P Z ⊢
  show(t.pages _).left<18*(t.s.p - t.at')+33*t.s.p+t.s.m+1
  unfold pages
  split
  ·rw[left_eq (t:={ t with nx:=7,i:=0,di:=0 }) hd rfl]
   show 18*(t.s.p - t.at')+33*t.s.p+t.s.m - 0<_;omega
  ·rw[turn69 hd];omega
 ·rw[left_eq hd hn]at P Z ⊢
  show t.clear.left<18*(t.s.p - t.at')+33*t.s.p+t.s.m - t.i
  by_cases h16:t.i+1=16
  ·rw[left_eq (t:=t.clear) (n:=8) hd (if_pos h16)]
   show 18*(t.s.p - t.at')+33*t.s.p+t.s.m - 16<_;omega
  ·rw[left_eq (t:=t.clear) (n:=7) hd (if_neg h16)]
   show 18*(t.s.p - t.at')+33*t.s.p+t.s.m - (t.i+1)<_;omega
 ·rw[left_eq hd hn]at P Z ⊢
  show(t.turn 6 9).left<18*(t.s.p - t.at')+33*t.s.p+t.s.m - 16
  rw[turn69 hd];omega
 ·rw[left_eq hd hn]at P Z ⊢
  show t.entry.left<t.s.m - t.i+33*t.s.p+1
  unfold entry
  split
  ·rw[left_eq (t:={ t with i:=0,di:=0,nx:=10 }) hd rfl]
   show 33*(t.s.p - t.at')+1<_;omega
  ·rw[left_eq (t:={ t with i:=t.i+1,di:=t.di+1 }) hd hn]
   show t.s.m - (t.i+1)+33*t.s.p+1<_;omega
 ·rw[left_eq hd hn]at P Z ⊢
  show(t.supers _).left<33*(t.s.p - t.at')+1
  unfold supers
  split
  ·rw[left_eq (t:={ t.readQ (w.get t.pat) with nx:=11,i:=0,di:=0 }) hd rfl]
   have:=slots_bd (pgA t.s t.at' (w.get t.pat))
   show 33*(t.s.p - t.at') - 32+2*(slots (pgA t.s t.at' (w.get t.pat)) - 0)<_;omega
  ·rw[turn1013 (t:=t.read (w.get t.pat)) hd]
   show 33*(t.s.p - t.at') - 32<_;omega
 ·rw[left_eq hd hn]at P Z ⊢
  show(t.slots' _).left<33*(t.s.p - t.at') - 32+2*(slots t.pA - t.i)
  unfold slots'
  split
  ·rw[left_eq (t:={ t with nx:=12 }) hd rfl]
   show 33*(t.s.p - t.at') - 33+2*(slots t.pA - t.i)<_;omega
  ·have:=slot_left (t:=t) hd;omega
 ·rw[left_eq hd hn]at P Z ⊢
  show t.slot.left<33*(t.s.p - t.at') - 33+2*(slots t.pA - t.i)
  have:=slot_left (t:=t) hd;omega
 ·exact Z _ rfl P
end Ad
end Go.Ma
namespace Go.Ma
open Go.Pl

theorem get_swap {w:Wd} {c a x y b:Int} (ha:0≤a) (hb:0≤b):(w.swap c a x y).get b=if b=a then(if w.get a=x then y else w.get a) else w.get b:=by
 show(if b.toNat=a.toNat then(if w.get a == x then y else w.get a) else w.ws b.toNat)=_
 by_cases h:b=a
 ·subst h;rw[if_pos rfl,if_pos rfl];by_cases hx:w.get b=x<;>simp [hx]
 ·rw[if_neg (by omega),if_neg h];rfl
theorem get_store {w:Wd} {c a y b:Int} (ha:0≤a) (hb:0≤b):(w.store c a y).get b=if b=a then y else w.get b:=by
 show(if b.toNat=a.toNat then y else w.ws b.toNat)=_
 by_cases h:b=a
 ·subst h;rw[if_pos rfl,if_pos rfl]
 ·rw[if_neg (by omega),if_neg h];rfl
theorem get_put {w:Wd} {a y b:Int} (ha:0≤a) (hb:0≤b):(w.put a y).get b=if b=a then y else w.get b:=by
 show(if b.toNat=a.toNat then y else w.ws b.toNat)=_
 by_cases h:b=a
 ·subst h;rw[if_pos rfl,if_pos rfl]
 ·rw[if_neg (by omega),if_neg h];rfl

structure PgInv (n:Nat) (s:Sh) (full:Int→Prop) (ts:Nat→Pc) (w:Wd):Prop where
 of:w.of s
 ok:may s.p s.c s.m=true
 nc:(n:Int)≤s.c
 wf:∀ c,c<n→(ts c).wf∧(ts c).s=s∧(ts c).c=c
 fd:∀ c,c<n→(ts c).fd=true→(ts c).dn=true
 own:∀ c,c<n→(ts c).fd=true→0≤(ts c).pg∧(ts c).pg<s.p∧¬ full (ts c).pg∧w.get (s.c+(ts c).pg)=held c
 fl:∀ q,0≤q→q<s.p→full q→w.get (s.c+q)≠0
 em:∀ q,0≤q→q<s.p→¬ full q→w.get (s.c+q)=0∨∃ c,c<n∧(ts c).fd=true∧(ts c).pg=q
 seen:∀ c,c<n→(ts c).fd=false→∀ j,0≤j→j<(ts c).many→w.get (s.c+((ts c).f+j) % s.p)≠0
 fin:∀ c,c<n→(ts c).dn=true→(ts c).fd=false→0≤(ts c).f∧(ts c).f<s.p∧(ts c).many=s.p

def upT {T:Type} (ts:Nat→T) (c:Nat) (t:T):Nat→T:=fun d=>if d=c then t else ts d
namespace PgInv
variable {n:Nat} {s:Sh} {full:Int→Prop} {ts:Nat→Pc} {w:Wd}

end PgInv
end Go.Ma
namespace Go.Ma
open Go.Pl
namespace Ad
variable {s:Sh} {a b t:Ad} {w:Wd} {ca cb d:Int}
theorem st_place {s:Sh} (hm:may s.p s.c s.m=true) {i:Int} (h0:0≤i) (h1:i<s.c):status s.p s.c s.m i=i:=by
 unfold status within;rw[hm];simp;omega
def On (t:Ad):Prop:=t.dn=false∧3≤t.nx∧t.nx≤13
/-! ### Two -/
def Try (t:Ad):Prop:=t.dn=false∧(t.nx=0∨(t.nx=2∧t.was=2))
def Lost (t:Ad) (o:Int):Prop:=(t.dn=false∧(t.nx=0∨(t.nx=2∧t.was=2)∨(t.nx=1∧t.by'=o)))∨(t.dn=true∧(t.err=4∨t.err=5))
def Ahead (x ca:Int) (a b:Ad):Prop:=(x=3+16*ca∧a.On∧b.Lost ca)∨(x=4∧(a.dn=true∧a.err=0)∧b.Lost ca)
structure Two (s:Sh) (ca cb d:Int) (a b:Ad) (w:Wd):Prop where
 of:w.of s
 ok:may s.p s.c s.m=true
 ch:0≤ca∧ca<s.c∧0≤cb∧cb<s.c∧0≤d∧d<s.c∧ca≠d∧cb≠d
 wa:a.wf∧a.s=s∧a.c=ca∧a.d=d
 wb:b.wf∧b.s=s∧b.c=cb∧b.d=d
 va:w.get ca=1
 vb:w.get cb=1
 ph:(w.get d=2∧a.Try∧b.Try)∨Ahead (w.get d) ca a b∨Ahead (w.get d) cb b a
theorem its_all (h:t.wf) (ho:w.of s) (n:Nat):(its Ad.step n t w).1.wf∧(its Ad.step n t w).2.of s∧(its Ad.step n t w).1.s=t.s∧(its Ad.step n t w).1.c=t.c∧(its Ad.step n t w).1.d=t.d:=
 its_inv (P:=fun (x:Ad) (y:Wd)=>x.wf∧y.of s∧x.s=t.s∧x.c=t.c∧x.d=t.d) (fun x y ⟨h1,h2,h3,h4,h5⟩=>by
  have hk:=step_k x y
  exact⟨step_wf h1 h2.u,step_of h2,hk.1.trans h3,hk.2.1.trans h4,hk.2.2.trans h5⟩) ⟨h,ho,rfl,rfl,rfl⟩ n
end Ad
end Go.Ma
namespace Go.Ma
open Go.Pl

section
variable (s:Sh) (ws0:Nat→Int) (d:Int)
def HeldBy (q:Int):Prop:=pgK s q (pgAt s ws0 q)=1∧pgA s q (pgAt s ws0 q)=d
def BodyOf (q:Int):Prop:=pgK s q (pgAt s ws0 q)=4∧HeldBy s ws0 d (pgA s q (pgAt s ws0 q))
structure Pt (ws:Nat→Int):Prop where
 np:∀ q,0≤q→q<s.p→¬ HeldBy s ws0 d q→¬ BodyOf s ws0 d q→pgAt s ws q=pgAt s ws0 q
 bd:∀ q,0≤q→q<s.p→BodyOf s ws0 d q→pgAt s ws q=0∨(pgAt s ws q=pgAt s ws0 q∧pgAt s ws (pgA s q (pgAt s ws0 q))=pgAt s ws0 (pgA s q (pgAt s ws0 q)))
 hd:∀ q,0≤q→q<s.p→HeldBy s ws0 d q→pgAt s ws q=pgAt s ws0 q∨(pgAt s ws q=0∧∀ i,0≤i→i<16→slAt s ws q i=0)
 sb:∀ q,0≤q→q<s.p→¬ HeldBy s ws0 d q→∀ i,0≤i→i<16→slAt s ws q i=slAt s ws0 q i∨(pgK s q (pgAt s ws0 q)=2∧slAt s ws0 q i=way d∧slAt s ws q i=opn (pgA s q (pgAt s ws0 q)))
 mo:∀ c i,0≤c→c<s.c→c≠d→0≤i→i<s.m→mgAt s ws c i=mgAt s ws0 c i
 md:∀ i,0≤i→i<s.m→mgAt s ws d i=mgAt s ws0 d i∨mgAt s ws d i=0
def BD (ws:Nat→Int) (n:Int):Prop:=∀ q,0≤q→q<n→BodyOf s ws0 d q→pgAt s ws q=0
def HD (ws:Nat→Int) (n:Int):Prop:=∀ q,0≤q→q<n→HeldBy s ws0 d q→pgAt s ws q=0
def MD (ws:Nat→Int) (n:Int):Prop:=∀ i,0≤i→i<n→mgAt s ws d i=0
def SD (ws:Nat→Int) (n:Int):Prop:=∀ q,0≤q→q<n→pgK s q (pgAt s ws0 q)=2→∀ i,0≤i→i<16→slAt s ws q i≠way d
end
theorem Pt.self (s:Sh) (ws0:Nat→Int) (d:Int):Pt s ws0 d ws0:=
 ⟨fun _ _ _ _ _=>rfl,fun _ _ _ _=>.inr ⟨rfl,rfl⟩,fun _ _ _ _=>.inl rfl,fun _ _ _ _ _ _ _=>.inl rfl,fun _ _ _ _ _ _ _=>rfl,fun _ _ _=>.inl rfl⟩

section
variable {s:Sh} {ws0 ws:Nat→Int} {d q i n y:Int}
theorem body_bd (h:BodyOf s ws0 d q):0≤pgA s q (pgAt s ws0 q)∧pgA s q (pgAt s ws0 q)<q:=by
 have:=Ad.ok_body (pgK_ne (by rw[h.1];decide)) h.1
 omega
theorem not_both (h:HeldBy s ws0 d q):¬ BodyOf s ws0 d q:=fun h2=>by have:=h.1;rw[h2.1]at this;cases this

section
variable (hm:may s.p s.c s.m=true)
include hm
theorem Pt.cut (h:Pt s ws0 d ws) (h0:0≤q) (h1:q<s.p) (hb:BodyOf s ws0 d q):Pt s ws0 d (upW ws (page s.p s.c s.m q) 0):=by
 refine⟨fun r r0 r1 n1 n2=>?_,fun r r0 r1 hr=>?_,fun r r0 r1 hr=>?_,fun r r0 r1 hr j j0 j1=>?_,fun c j c0 c1 hc j0 j1=>?_,fun j j0 j1=>?_⟩
 ·rw[pg_pg hm h0 h1 r0 r1,if_neg (fun e=>by subst e;exact n2 hb)];exact h.np r r0 r1 n1 n2
 ·have hx:=body_bd hr
  rw[pg_pg hm h0 h1 r0 r1]
  by_cases e:r=q
  ·rw[if_pos e];exact .inl rfl
  ·rw[if_neg e,pg_pg hm h0 h1 hx.1 (by omega),if_neg (fun e2=>by have h2:=hr.2;rw[e2]at h2;exact not_both h2 hb)]
   exact h.bd r r0 r1 hr
 ·rw[pg_pg hm h0 h1 r0 r1,if_neg (fun e=>by subst e;exact not_both hr hb)]
  rcases h.hd r r0 r1 hr with e |⟨e,f⟩
  ·exact .inl e
  ·exact .inr ⟨e,fun j j0 j1=>(sl_pg hm h0 h1 r0 j0).trans (f j j0 j1)⟩
 ·rw[sl_pg hm h0 h1 r0 j0];exact h.sb r r0 r1 hr j j0 j1
 ·rw[mg_pg hm h0 h1 c0 j0];exact h.mo c j c0 c1 hc j0 j1
 ·by_cases hd0:0≤d
  ·rw[mg_pg hm h0 h1 hd0 j0];exact h.md j j0 j1
  ·have hx:=hb.2
   have hk:=hx.2
   have:0≤pgA s (pgA s q (pgAt s ws0 q)) (pgAt s ws0 (pgA s q (pgAt s ws0 q))):=by unfold pgA;split<;>(try (unfold pt;omega))<;>omega
   omega
theorem pgA_nn (s:Sh) (q x:Int):0≤pgA s q x:=by
 unfold pgA
 split
 ·unfold pt;omega
 ·omega
theorem Pt.clr (h:Pt s ws0 d ws) (h0:0≤q) (h1:q<s.p) (hh:HeldBy s ws0 d q) (i0:0≤i) (i1:i<16):Pt s ws0 d (upW ws (slot s.p s.c s.m q i) 0):=by
 have hd0:0≤d:=by have:=hh.2;have:=pgA_nn hm s q (pgAt s ws0 q);omega
 refine⟨fun r r0 r1 n1 n2=>?_,fun r r0 r1 hr=>?_,fun r r0 r1 hr=>?_,fun r r0 r1 hr j j0 j1=>?_,fun c j c0 c1 hc j0 j1=>?_,fun j j0 j1=>?_⟩
 ·rw[pg_sl hm h0 h1 i0 i1 r0 r1];exact h.np r r0 r1 n1 n2
 ·have hx:=body_bd hr
  rw[pg_sl hm h0 h1 i0 i1 r0 r1,pg_sl hm h0 h1 i0 i1 hx.1 (by omega)];exact h.bd r r0 r1 hr
 ·rw[pg_sl hm h0 h1 i0 i1 r0 r1]
  rcases h.hd r r0 r1 hr with e |⟨e,f⟩
  ·exact .inl e
  ·refine .inr ⟨e,fun j j0 j1=>?_⟩
   rw[sl_sl hm h0 h1 i0 i1 r0 j0 j1]
   split
   ·rfl
   ·exact f j j0 j1
 ·rw[sl_sl hm h0 h1 i0 i1 r0 j0 j1,if_neg (fun e=>hr (by rw[e.1];exact hh))];exact h.sb r r0 r1 hr j j0 j1
 ·rw[mg_sl hm h0 h1 i0 i1 c0 j0];exact h.mo c j c0 c1 hc j0 j1
 ·rw[mg_sl hm h0 h1 i0 i1 hd0 j0];exact h.md j j0 j1
theorem Pt.emp (h:Pt s ws0 d ws) (h0:0≤q) (h1:q<s.p) (hh:HeldBy s ws0 d q) (hb:BD s ws0 d ws s.p) (hz:∀ i,0≤i→i<16→slAt s ws q i=0):Pt s ws0 d (upW ws (page s.p s.c s.m q) 0):=by
 have hd0:0≤d:=by have:=hh.2;have:=pgA_nn hm s q (pgAt s ws0 q);omega
 refine⟨fun r r0 r1 n1 n2=>?_,fun r r0 r1 hr=>?_,fun r r0 r1 hr=>?_,fun r r0 r1 hr j j0 j1=>?_,fun c j c0 c1 hc j0 j1=>?_,fun j j0 j1=>?_⟩
 ·rw[pg_pg hm h0 h1 r0 r1,if_neg (fun e=>by subst e;exact n1 hh)];exact h.np r r0 r1 n1 n2
 ·left
  rw[pg_pg hm h0 h1 r0 r1]
  split
  ·rfl
  ·exact hb r r0 r1 hr
 ·rw[pg_pg hm h0 h1 r0 r1]
  by_cases e:r=q
  ·rw[if_pos e];subst e;exact .inr ⟨rfl,fun j j0 j1=>(sl_pg hm h0 h1 r0 j0).trans (hz j j0 j1)⟩
  ·rw[if_neg e]
   rcases h.hd r r0 r1 hr with e |⟨e,f⟩
   ·exact .inl e
   ·exact .inr ⟨e,fun j j0 j1=>(sl_pg hm h0 h1 r0 j0).trans (f j j0 j1)⟩
 ·rw[sl_pg hm h0 h1 r0 j0];exact h.sb r r0 r1 hr j j0 j1
 ·rw[mg_pg hm h0 h1 c0 j0];exact h.mo c j c0 c1 hc j0 j1
 ·rw[mg_pg hm h0 h1 hd0 j0];exact h.md j j0 j1
theorem Pt.mag (h:Pt s ws0 d ws) (d0:0≤d) (d1:d<s.c) (i0:0≤i) (i1:i<s.m):Pt s ws0 d (upW ws (mag s.p s.c s.m d i) 0):=by
 refine⟨fun r r0 r1 n1 n2=>?_,fun r r0 r1 hr=>?_,fun r r0 r1 hr=>?_,fun r r0 r1 hr j j0 j1=>?_,fun c j c0 c1 hc j0 j1=>?_,fun j j0 j1=>?_⟩
 ·rw[pg_mg hm d0 d1 i0 i1 r0 r1];exact h.np r r0 r1 n1 n2
 ·have hx:=body_bd hr
  rw[pg_mg hm d0 d1 i0 i1 r0 r1,pg_mg hm d0 d1 i0 i1 hx.1 (by omega)];exact h.bd r r0 r1 hr
 ·rw[pg_mg hm d0 d1 i0 i1 r0 r1]
  rcases h.hd r r0 r1 hr with e |⟨e,f⟩
  ·exact .inl e
  ·exact .inr ⟨e,fun j j0 j1=>(sl_mg hm d0 d1 i0 i1 r0 r1 j0 j1).trans (f j j0 j1)⟩
 ·rw[sl_mg hm d0 d1 i0 i1 r0 r1 j0 j1];exact h.sb r r0 r1 hr j j0 j1
 ·rw[mg_mg hm d0 d1 i0 i1 c0 j0 j1,if_neg (fun e=>hc e.1)];exact h.mo c j c0 c1 hc j0 j1
 ·rw[mg_mg hm d0 d1 i0 i1 d0 j0 j1]
  split
  ·exact .inr rfl
  ·exact h.md j j0 j1
theorem Pt.opn (h:Pt s ws0 d ws) (d0:0≤d) (h0:0≤q) (h1:q<s.p) (hk:pgK s q (pgAt s ws0 q)=2) (i0:0≤i) (i1:i<16) (hw:slAt s ws q i=way d) (hd1:d≤255) (ha:pgA s q (pgAt s ws0 q)≤255):Pt s ws0 d (upW ws (slot s.p s.c s.m q i) (Ma.opn (pgA s q (pgAt s ws0 q)))):=by
 have nh:¬ HeldBy s ws0 d q:=fun h2=>by have:=h2.1;rw[hk]at this;cases this
 refine⟨fun r r0 r1 n1 n2=>?_,fun r r0 r1 hr=>?_,fun r r0 r1 hr=>?_,fun r r0 r1 hr j j0 j1=>?_,fun c j c0 c1 hc j0 j1=>?_,fun j j0 j1=>?_⟩
 ·rw[pg_sl hm h0 h1 i0 i1 r0 r1];exact h.np r r0 r1 n1 n2
 ·have hx:=body_bd hr
  rw[pg_sl hm h0 h1 i0 i1 r0 r1,pg_sl hm h0 h1 i0 i1 hx.1 (by omega)];exact h.bd r r0 r1 hr
 ·rw[pg_sl hm h0 h1 i0 i1 r0 r1]
  rcases h.hd r r0 r1 hr with e |⟨e,f⟩
  ·exact .inl e
  ·exact .inr ⟨e,fun j j0 j1=>by rw[sl_sl hm h0 h1 i0 i1 r0 j0 j1,if_neg (fun e=>nh (by rw[← e.1];exact hr))];exact f j j0 j1⟩
 ·rw[sl_sl hm h0 h1 i0 i1 r0 j0 j1]
  by_cases e:r=q∧j=i
  ·rw[if_pos e]
   obtain⟨rfl,rfl⟩:=e
   rcases h.sb r r0 r1 hr j j0 j1 with e |⟨-,e,e2⟩
   ·exact .inr ⟨hk,e ▸ hw,rfl⟩
   ·exact .inr ⟨hk,e,rfl⟩
  ·rw[if_neg e];exact h.sb r r0 r1 hr j j0 j1
 ·rw[mg_sl hm h0 h1 i0 i1 c0 j0];exact h.mo c j c0 c1 hc j0 j1
 ·rw[mg_sl hm h0 h1 i0 i1 d0 j0];exact h.md j j0 j1
theorem Pt.sta (h:Pt s ws0 d ws) (d0:0≤d) {c:Int} (h0:0≤c) (h1:c<s.c):Pt s ws0 d (upW ws (status s.p s.c s.m c) y):=by
 refine⟨fun r r0 r1 n1 n2=>?_,fun r r0 r1 hr=>?_,fun r r0 r1 hr=>?_,fun r r0 r1 hr j j0 j1=>?_,fun c j c0 c1 hc j0 j1=>?_,fun j j0 j1=>?_⟩
 ·rw[pg_st hm h0 h1 r0 r1];exact h.np r r0 r1 n1 n2
 ·have hx:=body_bd hr
  rw[pg_st hm h0 h1 r0 r1,pg_st hm h0 h1 hx.1 (by omega)];exact h.bd r r0 r1 hr
 ·rw[pg_st hm h0 h1 r0 r1]
  rcases h.hd r r0 r1 hr with e |⟨e,f⟩
  ·exact .inl e
  ·exact .inr ⟨e,fun j j0 j1=>(sl_st hm h0 h1 r0 j0).trans (f j j0 j1)⟩
 ·rw[sl_st hm h0 h1 r0 j0];exact h.sb r r0 r1 hr j j0 j1
 ·rw[mg_st hm h0 h1 c0 j0];exact h.mo c j c0 c1 hc j0 j1
 ·rw[mg_st hm h0 h1 d0 j0];exact h.md j j0 j1
end
end
end Go.Ma

namespace Go.Ma
open Go.Pl
section
variable {s:Sh} {ws0 ws:Nat→Int} {d q i n y:Int}
theorem Pt.or0 (h:Pt s ws0 d ws) (h0:0≤q) (h1:q<s.p):pgAt s ws q=pgAt s ws0 q∨pgAt s ws q=0:=by
 by_cases hh:HeldBy s ws0 d q
 ·exact(h.hd q h0 h1 hh).imp_right fun e=>e.1
 ·by_cases hb:BodyOf s ws0 d q
  ·rcases h.bd q h0 h1 hb with e | e
   ·exact .inr e
   ·exact .inl e.1
  ·exact .inl (h.np q h0 h1 hh hb)
theorem Pt.cur (h:Pt s ws0 d ws) (h0:0≤q) (h1:q<s.p) (hk:pgK s q (pgAt s ws q)≠0):pgAt s ws q=pgAt s ws0 q:=by
 rcases h.or0 h0 h1 with e | e
 ·exact e
 ·rw[e,pgK_zero]at hk;exact absurd rfl hk
theorem BD.next (h:BD s ws0 d ws n) (hn:BodyOf s ws0 d n→pgAt s ws n=0):BD s ws0 d ws (n+1):=fun q h0 h1 hb=>by
 by_cases e:q=n
 ·subst e;exact hn hb
 ·exact h q h0 (by omega) hb
theorem HD.next (h:HD s ws0 d ws n) (hn:HeldBy s ws0 d n→pgAt s ws n=0):HD s ws0 d ws (n+1):=fun q h0 h1 hb=>by
 by_cases e:q=n
 ·subst e;exact hn hb
 ·exact h q h0 (by omega) hb
theorem SD.next (h:SD s ws0 d ws n) (hn:pgK s n (pgAt s ws0 n)=2→∀ i,0≤i→i<16→slAt s ws n i≠way d):SD s ws0 d ws (n+1):=fun q h0 h1 hb=>by
 by_cases e:q=n
 ·subst e;exact hn hb
 ·exact h q h0 (by omega) hb
theorem Snd.behind (h:Snd s ws0) (h0:0≤q) (h1:q<s.p) (hk:pgK s q (pgAt s ws0 q)=2) (i0:slots (pgA s q (pgAt s ws0 q))≤i) (i1:i<16):slAt s ws0 q i=0:=by
 have hb:=slots_bd (pgA s q (pgAt s ws0 q))
 have e:=(h.pg q.toNat (by omega)).2.sup (by rw[show((q.toNat:Nat):Int)=q by omega];exact beq_iff_eq.2 hk) i.toNat (by omega)
 rw[show((q.toNat:Nat):Int)=q by omega,show((i.toNat:Nat):Int)=i by omega]at e
 unfold slB at e
 rw[decide_eq_false (by omega)]at e
 simpa using e
end

namespace Ad
inductive Pa (s:Sh) (ws0:Nat→Int) (d:Int) (g0:Int→Int) (t:Ad) (w:Wd):Prop
 | p0 (hd:t.dn=false) (hn:t.nx=0) (hx:w.get d=g0 d)
 | p1 (hd:t.dn=false) (hn:t.nx=1) (hx:w.get d=g0 d) (hw:t.was=g0 d) (hk:stK (g0 d)=3) (hb:t.by'=stB (g0 d))
 | p2 (hd:t.dn=false) (hn:t.nx=2) (hx:w.get d=g0 d) (hw:t.was=g0 d)
 | p3 (hd:t.dn=false) (hn:t.nx=3) (b:BD s ws0 d w.ws t.at')
 | p4 (hd:t.dn=false) (hn:t.nx=4) (b:BD s ws0 d w.ws t.at') (hk:pgK s t.at' (pgAt s w.ws t.at')=4) (hA:t.pA=pgA s t.at' (pgAt s w.ws t.at'))
 | p5 (hd:t.dn=false) (hn:t.nx=5) (b:BD s ws0 d w.ws t.at') (ho:BodyOf s ws0 d t.at')
 | p6 (hd:t.dn=false) (hn:t.nx=6) (b:BD s ws0 d w.ws s.p) (h:HD s ws0 d w.ws t.at')
 | p7 (hd:t.dn=false) (hn:t.nx=7) (b:BD s ws0 d w.ws s.p) (h:HD s ws0 d w.ws t.at') (ho:HeldBy s ws0 d t.at') (z:∀ j,0≤j→j<t.i→slAt s w.ws t.at' j=0)
 | p8 (hd:t.dn=false) (hn:t.nx=8) (b:BD s ws0 d w.ws s.p) (h:HD s ws0 d w.ws t.at') (ho:HeldBy s ws0 d t.at') (z:∀ j,0≤j→j<16→slAt s w.ws t.at' j=0)
 | p9 (hd:t.dn=false) (hn:t.nx=9) (b:BD s ws0 d w.ws s.p) (h:HD s ws0 d w.ws s.p) (m:MD s d w.ws t.i) (ha:t.at'=0)
 | p10 (hd:t.dn=false) (hn:t.nx=10) (b:BD s ws0 d w.ws s.p) (h:HD s ws0 d w.ws s.p) (m:MD s d w.ws s.m) (x:SD s ws0 d w.ws t.at')
 | p11 (hd:t.dn=false) (hn:t.nx=11) (b:BD s ws0 d w.ws s.p) (h:HD s ws0 d w.ws s.p) (m:MD s d w.ws s.m) (x:SD s ws0 d w.ws t.at') (hk:pgK s t.at' (pgAt s ws0 t.at')=2) (hA:t.pA=pgA s t.at' (pgAt s ws0 t.at')) (z:∀ j,0≤j→j<t.i→slAt s w.ws t.at' j≠way d)
 | p12 (hd:t.dn=false) (hn:t.nx=12) (b:BD s ws0 d w.ws s.p) (h:HD s ws0 d w.ws s.p) (m:MD s d w.ws s.m) (x:SD s ws0 d w.ws t.at') (hk:pgK s t.at' (pgAt s ws0 t.at')=2) (hA:t.pA=pgA s t.at' (pgAt s ws0 t.at')) (z:∀ j,0≤j→j<t.i→slAt s w.ws t.at' j≠way d) (hw:slAt s w.ws t.at' t.i=way d)
 | p13 (hd:t.dn=false) (hn:t.nx=13) (b:BD s ws0 d w.ws s.p) (h:HD s ws0 d w.ws s.p) (m:MD s d w.ws s.m) (x:SD s ws0 d w.ws s.p)
 | en (hd:t.dn=true) (he:t.err=0) (hx:w.get d=putSt 4 0) (b:BD s ws0 d w.ws s.p) (h:HD s ws0 d w.ws s.p) (m:MD s d w.ws s.m) (x:SD s ws0 d w.ws s.p)
def Win (s:Sh) (g0:Int→Int) (d:Int):Prop:=stK (g0 d)=2∨(stK (g0 d)=3∧0≤stB (g0 d)∧stB (g0 d)<s.c∧stB (g0 d)≠d∧stK (g0 (stB (g0 d)))≠1)
structure Adp (s:Sh) (ws0:Nat→Int) (c d:Int) (g0:Int→Int) (t:Ad) (w:Wd):Prop where
 of:w.of s
 ok:may s.p s.c s.m=true
 wf:t.wf∧t.s=s∧t.c=c∧t.d=d
 cd:0≤d∧d<s.c
 wi:Win s g0 d
 snd:Snd s ws0
 pt:Pt s ws0 d w.ws
 st:∀ x,0≤x→x<s.c→x≠d→w.get x=g0 x
 ph:Pa s ws0 d g0 t w
variable {s:Sh} {ws0:Nat→Int} {c d:Int} {g0:Int→Int} {t:Ad} {w:Wd}
theorem turn_or (t:Ad) (a b:Int):(t.turn a b).dn=t.dn∧(t.turn a b).pA=t.pA∧((t.at'+1=t.s.p∧(t.turn a b).at'=0∧(t.turn a b).i=0∧(t.turn a b).nx=if b=9∧t.s.m=0 then 10 else b)∨(t.at'+1≠t.s.p∧(t.turn a b).at'=t.at'+1∧(t.turn a b).nx=a)):=by
 unfold turn
 by_cases h:t.at'+1=t.s.p
 ·rw[if_pos h];exact⟨rfl,rfl,.inl ⟨h,rfl,rfl,rfl⟩⟩
 ·rw[if_neg h];exact⟨rfl,rfl,.inr ⟨h,rfl,rfl⟩⟩
theorem own_of {q x:Int} (h:pgK s q x=1) (h2:pgA s q x=t.d) (hs:t.s=s):t.own q x=true:=by
 unfold own;rw[hs,pgK_ne (by rw[h];decide),decide_eq_true h,decide_eq_true h2];rfl
theorem own_is {q x:Int} (h:t.own q x=true) (hs:t.s=s):pgK s q x=1∧pgA s q x=t.d:=by
 unfold own at h;rw[hs]at h
 simp only[Bool.and_eq_true,decide_eq_true_eq]at h
 exact h.2
section
variable (hts:t.s=s) (hd:t.dn=false)
include hts hd
theorem to3 {u:Ad} (hu:u=t.turn 3 6) (b:BD s ws0 d w.ws (t.at'+1)) (w':Wd) (hw:w'.ws=w.ws):Pa s ws0 d g0 u w':=by
 subst hu
 obtain⟨e1,e2,⟨h1,e3,e4,e5⟩|⟨h1,e3,e5⟩⟩:=turn_or t 3 6
 ·rw[if_neg (by omega)]at e5
  exact .p6 (e1.trans hd) e5 (by rw[hw];rw[← hts,← h1];rw[hts];exact b) (by rw[e3];intro q h0 h1;omega)
 ·exact .p3 (e1.trans hd) e5 (by rw[e3,hw];exact b)
theorem to6 {u:Ad} (hu:u=t.turn 6 9) (b:BD s ws0 d w.ws s.p) (h:HD s ws0 d w.ws (t.at'+1)) (w':Wd) (hw:w'.ws=w.ws):Pa s ws0 d g0 u w':=by
 subst hu
 obtain⟨e1,e2,⟨h1,e3,e4,e5⟩|⟨h1,e3,e5⟩⟩:=turn_or t 6 9
 ·have h':HD s ws0 d w'.ws s.p:=by rw[hw];rw[← hts,← h1];rw[hts];exact h
  by_cases hm:t.s.m=0
  ·rw[if_pos ⟨rfl,hm⟩]at e5
   exact .p10 (e1.trans hd) e5 (by rw[hw];exact b) h' (by rw[← hts,hm];intro q h0 h1;omega) (by rw[e3];intro q h0 h1;omega)
  ·rw[if_neg (fun x=>hm x.2)]at e5
   exact .p9 (e1.trans hd) e5 (by rw[hw];exact b) h' (by rw[e4];intro q h0 h1;omega) e3
 ·exact .p6 (e1.trans hd) e5 (by rw[hw];exact b) (by rw[e3,hw];exact h)
theorem to10 {u:Ad} (hu:u=t.turn 10 13) (b:BD s ws0 d w.ws s.p) (h:HD s ws0 d w.ws s.p) (m:MD s d w.ws s.m) (x:SD s ws0 d w.ws (t.at'+1)) (w':Wd) (hw:w'.ws=w.ws):Pa s ws0 d g0 u w':=by
 subst hu
 obtain⟨e1,e2,⟨h1,e3,e4,e5⟩|⟨h1,e3,e5⟩⟩:=turn_or t 10 13
 ·rw[if_neg (by omega)]at e5
  exact .p13 (e1.trans hd) e5 (by rw[hw];exact b) (by rw[hw];exact h) (by rw[hw];exact m) (by rw[hw];rw[← hts,← h1];rw[hts];exact x)
 ·exact .p10 (e1.trans hd) e5 (by rw[hw];exact b) (by rw[hw];exact h) (by rw[hw];exact m) (by rw[e3,hw];exact x)
end
theorem slot_to (hts:t.s=s) (hd:t.dn=false) (hsn:Snd s ws0) (hpt:Pt s ws0 d w.ws) (hat:0≤t.at'∧t.at'<s.p) (hdd:0≤d∧d≤255) (b:BD s ws0 d w.ws s.p) (h:HD s ws0 d w.ws s.p) (m:MD s d w.ws s.m) (x:SD s ws0 d w.ws t.at') (hk:pgK s t.at' (pgAt s ws0 t.at')=2)
  (hA:t.pA=pgA s t.at' (pgAt s ws0 t.at')) (z:∀ j,0≤j→j<t.i+1→slAt s w.ws t.at' j≠way d) (w':Wd) (hw:w'.ws=w.ws):Pa s ws0 d g0 t.slot w':=by
 unfold slot
 by_cases e:t.i+1=slots t.pA
 ·rw[if_pos e]
  refine to10 (t:={ t with i:=0,di:=t.di+1,nx:=11 }) hts hd rfl b h m (x.next fun _ j j0 j1=>?_) w' hw
  by_cases hj:j<t.i+1
  ·exact z j j0 hj
  ·have hz:=hsn.behind hat.1 hat.2 hk (i:=j) (by rw[← hA];omega) j1
   have wn:=(way_ne d hdd.1 hdd.2).1
   rcases hpt.sb t.at' hat.1 hat.2 (fun h2=>by have:=h2.1;rw[hk]at this;cases this) j j0 j1 with e2 |⟨-,e2,-⟩
   ·show slAt s w.ws t.at' j≠way d;rw[e2,hz];exact fun e=>wn e.symm
   ·rw[hz]at e2;exact absurd e2.symm wn
 ·rw[if_neg e]
  exact .p11 hd rfl (by rw[hw];exact b) (by rw[hw];exact h) (by rw[hw];exact m) (by rw[hw];exact x) hk hA (by rw[hw];exact z)
end Ad
end Go.Ma

namespace Go.Ma
open Go.Pl
namespace Ad
variable {s:Sh} {ws0:Nat→Int} {c d:Int} {g0:Int→Int} {t:Ad} {w:Wd}
theorem get_far {w:Wd} {c a y x:Int} (h0:0≤x) (h1:x<a):(w.store c a y).get x=w.get x:=by rw[get_store (by omega) h0,if_neg (by omega)]
set_option maxHeartbeats 1000000 in
theorem Adp.step (h:Adp s ws0 c d g0 t w):Adp s ws0 c d g0 (t.step w).1 (t.step w).2:=by
 obtain⟨w1,w2,w3,w4⟩:=h.wf
 have hm:=h.ok
 have hkp:=step_k t w
 have hb:=(may_iff _ _ _).1 hm
 have hcd:=h.cd
 have hpt:=h.pt
 have hdat:t.dat=d:=by unfold dat;rw[w2,w4];exact st_place hm hcd.1 hcd.2
 suffices hh:Pt s ws0 d (t.step w).2.ws∧(∀ x,0≤x→x<s.c→x≠d→(t.step w).2.get x=w.get x)∧Pa s ws0 d g0 (t.step w).1 (t.step w).2 from
  ⟨step_of h.of,hm,⟨step_wf w1 h.of.u,hkp.1.trans w2,hkp.2.1.trans w3,hkp.2.2.trans w4⟩,hcd,h.wi,h.snd,hh.1,fun x x0 x1 x2=>(hh.2.1 x x0 x1 x2).trans (h.st x x0 x1 x2),hh.2.2⟩
 have bnd:t.dn=false→0≤t.at'∧t.at'<s.p∧0≤t.i∧t.i≤16∧(t.nx=7→t.i<16)∧(t.nx=9→t.i<s.m)∧(t.nx=11∨t.nx=12→t.i<slots t.pA)∧(t.nx=4→0≤t.pA∧t.pA<t.at'):=fun hd=>by
  obtain⟨a1,a2,a3,a4⟩:=w1.of hd
  unfold Ar at a4
  rw[w2]at a4
  exact⟨by omega,by omega,by omega,by omega,fun e=>by have:=a4;omega,fun e=>by have:=a4;omega,fun e=>by have:=a4;omega,fun e=>by have:=a4;omega⟩
 have hpat:t.pat=page s.p s.c s.m t.at':=by unfold pat;rw[w2]
 have hgp:w.get t.pat=pgAt s w.ws t.at':=by rw[hpat];rfl
 have hsat:t.sat=Pl.slot s.p s.c s.m t.at' t.i:=by unfold sat;rw[w2]
 cases h.ph with
 |p0 hd hn hx=>
  rw[s0 hd hn]
  refine⟨hpt,fun x _ _ _=>rfl,?_⟩
  show Pa s ws0 d g0 (t.ask (w.get t.dat)) (w.load t.c t.dat)
  rw[hdat,hx]
  unfold ask
  rcases h.wi with h2 |⟨h3,k0,k1,k2,k3⟩
  ·rw[if_pos h2];exact .p2 hd rfl hx rfl
  ·rw[if_neg (by omega),if_pos h3,w2,st_place hm k0 k1,if_neg (by omega)]
   exact .p1 hd rfl hx rfl h3 rfl
 |p1 hd hn hx hw hk hb'=>
  rw[s1 hd hn]
  refine⟨hpt,fun x _ _ _=>rfl,?_⟩
  show Pa s ws0 d g0 (t.other (w.get t.bat)) (w.load t.c t.bat)
  rcases h.wi with h2 |⟨h3,k0,k1,k2,k3⟩
  ·omega
  ·have hbat:t.bat=stB (g0 d):=by unfold bat;rw[w2,hb'];exact st_place hm k0 k1
   rw[hbat,h.st _ k0 k1 k2]
   unfold other
   rw[if_neg k3]
   exact .p2 hd rfl hx hw
 |p2 hd hn hx hw=>
  have hsw:(w.swap t.c t.dat t.was (putSt 3 t.c)).ws=upW w.ws (status s.p s.c s.m d) (putSt 3 t.c):=by
   rw[swap_yes (by rw[hdat,hw];exact hx)];unfold dat;rw[w2,w4]
  rw[s2 hd hn]
  refine⟨?_,fun x x0 x1 x2=>?_,?_⟩
  ·show Pt s ws0 d (w.swap t.c t.dat t.was (putSt 3 t.c)).ws
   rw[hsw];exact hpt.sta hm hcd.1 hcd.1 hcd.2
  ·show(w.swap t.c t.dat t.was (putSt 3 t.c)).get x=_
   rw[hdat,get_swap hcd.1 x0,if_neg x2]
  ·show Pa s ws0 d g0 (t.claim (w.get t.dat)) _
   unfold claim
   rw[if_pos (by rw[hdat,hw];exact hx)]
   refine .p3 hd rfl ?_
   have ha:t.at'=0:=by
    obtain⟨a1,a2,a3,a4⟩:=w1.of hd
    unfold Ar at a4;omega
   show BD s ws0 d _ t.at'
   rw[ha];intro q q0 q1;omega
 |p3 hd hn b=>
  obtain⟨a0,a1,-⟩:=bnd hd
  rw[s3 hd hn]
  refine⟨hpt,fun x _ _ _=>rfl,?_⟩
  show Pa s ws0 d g0 (t.bodies (w.get t.pat)) (w.load t.c t.pat)
  rw[hgp]
  unfold bodies
  by_cases e:t.isB (pgAt s w.ws t.at')=true
  ·rw[if_pos e]
   unfold isB at e
   rw[w2]at e
   simp only[Bool.and_eq_true,decide_eq_true_eq]at e
   exact .p4 hd rfl b e.2 (by show pgA t.s t.at' (pgAt s w.ws t.at')=pgA s t.at' (pgAt s w.ws t.at');rw[w2])
  ·rw[if_neg e]
   refine to3 (t:=t.read (pgAt s w.ws t.at')) w2 hd rfl (b.next fun ho=>?_) _ rfl
   rcases hpt.bd t.at' a0 a1 ho with e2 |⟨e2,-⟩
   ·exact e2
   ·refine absurd ?_ e
    unfold isB
    rw[w2,e2,pgK_ne (by rw[ho.1];decide),decide_eq_true ho.1];rfl
 |p4 hd hn b hk hA=>
  obtain⟨a0,a1,-,-,-,-,-,q4⟩:=bnd hd
  obtain⟨q0,q1⟩:=q4 hn
  have hhat:t.hat=page s.p s.c s.m t.pA:=by unfold hat;rw[w2]
  have hgh:w.get t.hat=pgAt s w.ws t.pA:=by rw[hhat];rfl
  have hcur:=hpt.cur a0 a1 (by rw[hk];decide)
  rw[s4 hd hn]
  refine⟨hpt,fun x _ _ _=>rfl,?_⟩
  show Pa s ws0 d g0 (t.head (w.get t.hat)) (w.load t.c t.hat)
  rw[hgh]
  unfold head
  by_cases e:t.own t.pA (pgAt s w.ws t.pA)=true
  ·rw[if_pos e]
   obtain⟨e1,e2⟩:=own_is e w2
   have hc2:=hpt.cur q0 (by omega) (by rw[e1];decide)
   refine .p5 hd rfl b ⟨by rw[← hcur];exact hk,?_⟩
   show HeldBy s ws0 d (pgA s t.at' (pgAt s ws0 t.at'))
   rw[← hcur,← hA]
   exact⟨by rw[← hc2];exact e1,by rw[← hc2,e2];exact w4⟩
  ·rw[if_neg e]
   refine to3 (t:=t) w2 hd rfl (b.next fun ho=>?_) _ rfl
   rcases hpt.bd t.at' a0 a1 ho with e2 |⟨e2,e3⟩
   ·exact e2
   ·refine absurd ?_ e
    rw[e2]at hA
    rw[← hA]at e3
    have h1:=ho.2
    rw[← hA]at h1
    rw[e3]
    exact own_of h1.1 (h1.2.trans w4.symm) w2
 |p5 hd hn b ho=>
  obtain⟨a0,a1,-⟩:=bnd hd
  rw[s5 hd hn]
  have hc1:=hpt.cut hm a0 a1 ho
  refine⟨?_,fun x x0 x1 x2=>?_,?_⟩
  ·show Pt s ws0 d (upW w.ws t.pat 0);rw[hpat];exact hc1
  ·exact get_far x0 (by rw[hpat,page_yes hm a0 a1];omega)
  ·refine to3 (t:=t) w2 hd rfl ?_ _ rfl
   show BD s ws0 d (upW w.ws t.pat 0) (t.at'+1)
   rw[hpat]
   intro q q0 q1 hq
   rw[pg_pg hm a0 a1 q0 (by omega)]
   split
   ·rfl
   ·exact b q q0 (by omega) hq
 |p6 hd hn b hh=>
  obtain⟨a0,a1,-⟩:=bnd hd
  rw[s6 hd hn]
  refine⟨hpt,fun x _ _ _=>rfl,?_⟩
  show Pa s ws0 d g0 (t.pages (w.get t.pat)) (w.load t.c t.pat)
  rw[hgp]
  unfold pages
  by_cases e:t.own t.at' (pgAt s w.ws t.at')=true
  ·rw[if_pos e]
   obtain⟨e1,e2⟩:=own_is e w2
   have hc2:=hpt.cur a0 a1 (by rw[e1];decide)
   exact .p7 hd rfl b hh ⟨by rw[← hc2];exact e1,by rw[← hc2,e2];exact w4⟩ (fun j j0 j1=>by have j1:j<0:=j1;omega)
  ·rw[if_neg e]
   refine to6 (t:=t) w2 hd rfl b (hh.next fun ho=>?_) _ rfl
   rcases hpt.hd t.at' a0 a1 ho with e2 |⟨e2,-⟩
   ·refine absurd ?_ e
    rw[e2];exact own_of ho.1 (ho.2.trans w4.symm) w2
   ·exact e2
 |p7 hd hn b hh ho z=>
  obtain⟨a0,a1,i0,-,i7,-⟩:=bnd hd
  have i1:=i7 hn
  rw[s7 hd hn]
  have hc1:=hpt.clr hm a0 a1 ho i0 i1
  have tb:∀ n,n≤s.p→BD s ws0 d w.ws n→BD s ws0 d (upW w.ws t.sat 0) n:=fun n hn b q q0 q1 hq=>by
   rw[hsat,pg_sl hm a0 a1 i0 i1 q0 (by omega)];exact b q q0 q1 hq
  have th:∀ n,n≤s.p→HD s ws0 d w.ws n→HD s ws0 d (upW w.ws t.sat 0) n:=fun n hn b q q0 q1 hq=>by
   rw[hsat,pg_sl hm a0 a1 i0 i1 q0 (by omega)];exact b q q0 q1 hq
  have hz:∀ j,0≤j→j<t.i+1→slAt s (upW w.ws t.sat 0) t.at' j=0:=fun j j0 j1=>by
   rw[hsat,sl_sl hm a0 a1 i0 i1 a0 j0 (by omega)]
   split
   ·rfl
   ·exact z j j0 (by omega)
  refine⟨?_,fun x x0 x1 x2=>?_,?_⟩
  ·show Pt s ws0 d (upW w.ws t.sat 0);rw[hsat];exact hc1
  ·exact get_far x0 (by rw[hsat,slot_yes hm a0 a1 i0 i1];omega)
  ·show Pa s ws0 d g0 t.clear _
   by_cases e:t.i+1=16
   ·exact .p8 hd (by show(if t.i+1=16 then(8:Int) else 7)=8;rw[if_pos e]) (tb _ (Int.le_refl _) b) (th _ (by show t.at'≤s.p;omega) hh) ho (fun j j0 j1=>hz j j0 (by omega))
   ·exact .p7 hd (by show(if t.i+1=16 then(8:Int) else 7)=7;rw[if_neg e]) (tb _ (Int.le_refl _) b) (th _ (by show t.at'≤s.p;omega) hh) ho hz
 |p8 hd hn b hh ho z=>
  obtain⟨a0,a1,-⟩:=bnd hd
  rw[s8 hd hn]
  have hc1:=hpt.emp hm a0 a1 ho b z
  refine⟨?_,fun x x0 x1 x2=>?_,?_⟩
  ·show Pt s ws0 d (upW w.ws t.pat 0);rw[hpat];exact hc1
  ·exact get_far x0 (by rw[hpat,page_yes hm a0 a1];omega)
  ·refine to6 (t:=t) w2 hd rfl ?_ ?_ _ rfl
   ·show BD s ws0 d (upW w.ws t.pat 0) s.p
    rw[hpat]
    intro q q0 q1 hq
    rw[pg_pg hm a0 a1 q0 (by omega)]
    split
    ·rfl
    ·exact b q q0 (by omega) hq
   ·show HD s ws0 d (upW w.ws t.pat 0) (t.at'+1)
    rw[hpat]
    intro q q0 q1 hq
    rw[pg_pg hm a0 a1 q0 (by omega)]
    split
    ·rfl
    ·exact hh q q0 (by omega) hq
 |p9 hd hn b hh m ha=>
  obtain⟨a0,a1,i0,-,-,i9,-⟩:=bnd hd
  have i1:=i9 hn
  have hmat:t.mat=mag s.p s.c s.m d t.i:=by unfold mat;rw[w2,w4]
  rw[s9 hd hn]
  have hc1:=hpt.mag hm hcd.1 hcd.2 i0 i1
  have tb:BD s ws0 d (upW w.ws t.mat 0) s.p:=fun q q0 q1 hq=>by
   rw[hmat,pg_mg hm hcd.1 hcd.2 i0 i1 q0 q1];exact b q q0 q1 hq
  have th:HD s ws0 d (upW w.ws t.mat 0) s.p:=fun q q0 q1 hq=>by
   rw[hmat,pg_mg hm hcd.1 hcd.2 i0 i1 q0 q1];exact hh q q0 q1 hq
  have hz:MD s d (upW w.ws t.mat 0) (t.i+1):=fun j j0 j1=>by
   rw[hmat,mg_mg hm hcd.1 hcd.2 i0 i1 hcd.1 j0 (by omega)]
   split
   ·rfl
   ·exact m j j0 (by omega)
  refine⟨?_,fun x x0 x1 x2=>?_,?_⟩
  ·show Pt s ws0 d (upW w.ws t.mat 0);rw[hmat];exact hc1
  ·have:=Int.mul_nonneg hcd.1 (by omega:0≤s.m)
   exact get_far x0 (by rw[hmat,mag_yes hm hcd.1 hcd.2 i0 i1];omega)
  ·show Pa s ws0 d g0 t.entry _
   unfold entry
   by_cases e:t.i+1=t.s.m
   ·rw[if_pos e]
    refine .p10 hd rfl tb th (by rw[← w2,← e];rw[w2];exact hz) ?_
    show SD s ws0 d _ t.at'
    rw[ha];intro q q0 q1;omega
   ·rw[if_neg e]
    exact .p9 hd hn tb th hz ha
 |p10 hd hn b hh m x=>
  obtain⟨a0,a1,-⟩:=bnd hd
  rw[s10 hd hn]
  refine⟨hpt,fun x _ _ _=>rfl,?_⟩
  show Pa s ws0 d g0 (t.supers (w.get t.pat)) (w.load t.c t.pat)
  rw[hgp]
  unfold supers
  by_cases e:t.isS (pgAt s w.ws t.at')=true
  ·rw[if_pos e]
   unfold isS at e
   rw[w2]at e
   simp only[Bool.and_eq_true,decide_eq_true_eq]at e
   have hc2:=hpt.cur a0 a1 (by rw[e.2];decide)
   exact .p11 hd rfl b hh m x (by show pgK s t.at' (pgAt s ws0 t.at')=2;rw[← hc2];exact e.2) (by show pgA t.s t.at' (pgAt s w.ws t.at')=pgA s t.at' (pgAt s ws0 t.at');rw[w2,hc2]) (fun j j0 j1=>by have j1:j<0:=j1;omega)
  ·rw[if_neg e]
   refine to10 (t:=t.read (pgAt s w.ws t.at')) w2 hd rfl b hh m (x.next fun hk=>?_) _ rfl
   exfalso
   have e2:=hpt.np t.at' a0 a1 (fun h2=>by have:=h2.1;rw[hk]at this;cases this) (fun h2=>by have:=h2.1;rw[hk]at this;cases this)
   refine e ?_
   unfold isS
   rw[w2,e2,pgK_ne (by rw[hk];decide),decide_eq_true hk];rfl
 |p11 hd hn b hh m x hk hA z=>
  obtain⟨a0,a1,i0,i16,-,-,i11,-⟩:=bnd hd
  have i1:=i11 (.inl hn)
  have sb:=slots_bd t.pA
  have hgs:w.get t.sat=slAt s w.ws t.at' t.i:=by rw[hsat];exact slot_at hm a0 a1 i0 (by omega)
  rw[s11 hd hn]
  refine⟨hpt,fun x _ _ _=>rfl,?_⟩
  show Pa s ws0 d g0 (t.slots' (w.get t.sat)) (w.load t.c t.sat)
  rw[hgs]
  unfold slots'
  by_cases e:slAt s w.ws t.at' t.i=way t.d
  ·rw[if_pos e]
   exact .p12 hd rfl b hh m x hk hA z (by rw[← w4];exact e)
  ·rw[if_neg e]
   refine slot_to w2 hd h.snd hpt ⟨a0,a1⟩ ⟨hcd.1,by omega⟩ b hh m x hk hA (fun j j0 j1=>?_) _ rfl
   by_cases ej:j=t.i
   ·subst ej;rw[← w4];exact e
   ·exact z j j0 (by omega)
 |p12 hd hn b hh m x hk hA z hw=>
  obtain⟨a0,a1,i0,i16,-,-,i11,-⟩:=bnd hd
  have i1:=i11 (.inr hn)
  have sb:=slots_bd t.pA
  have hAb:=Gv.ok_super (pgK_ne (by rw[hk];decide)) hk
  rw[s12 hd hn]
  have hc1:=hpt.opn hm hcd.1 a0 a1 hk i0 (by omega) hw (by omega) (by omega)
  have hsl:(w.store t.c t.sat (Ma.opn t.pA)).ws=upW w.ws (Pl.slot s.p s.c s.m t.at' t.i) (Ma.opn (pgA s t.at' (pgAt s ws0 t.at'))):=by rw[store_ws,hsat,hA]
  have wn:=way_ne d hcd.1 (by omega)
  have on:=opn_ne (pgA s t.at' (pgAt s ws0 t.at')) hAb.1 (by omega)
  have now:Ma.opn (pgA s t.at' (pgAt s ws0 t.at'))≠way d:=fun e=>by
   have:=congrArg slK e;rw[on.2.1,wn.2.1]at this;cases this
  refine⟨?_,fun x x0 x1 x2=>?_,?_⟩
  ·show Pt s ws0 d (w.store t.c t.sat (Ma.opn t.pA)).ws;rw[hsl];exact hc1
  ·exact get_far x0 (by rw[hsat,slot_yes hm a0 a1 i0 (by omega)];omega)
  ·show Pa s ws0 d g0 t.slot (w.store t.c t.sat (Ma.opn t.pA))
   refine slot_to (w:=w.store t.c t.sat (Ma.opn t.pA)) w2 hd h.snd (by rw[hsl];exact hc1) ⟨a0,a1⟩ ⟨hcd.1,by omega⟩ ?_ ?_ ?_ ?_ hk hA ?_ _ rfl
   ·rw[hsl];intro q q0 q1 hq;rw[pg_sl hm a0 a1 i0 (by omega) q0 q1];exact b q q0 q1 hq
   ·rw[hsl];intro q q0 q1 hq;rw[pg_sl hm a0 a1 i0 (by omega) q0 q1];exact hh q q0 q1 hq
   ·rw[hsl];intro j j0 j1;rw[mg_sl hm a0 a1 i0 (by omega) hcd.1 j0];exact m j j0 j1
   ·rw[hsl];intro q q0 q1 hq j j0 j1
    rw[sl_sl hm a0 a1 i0 (by omega) q0 j0 j1,if_neg (by omega)];exact x q q0 q1 hq j j0 j1
   ·rw[hsl];intro j j0 j1
    rw[sl_sl hm a0 a1 i0 (by omega) a0 j0 (by omega)]
    split
    ·exact now
    ·exact z j j0 (by omega)
 |p13 hd hn b hh m x=>
  obtain⟨a0,a1,-⟩:=bnd hd
  have hst:(w.store t.c t.dat (putSt 4 0)).ws=upW w.ws (status s.p s.c s.m d) (putSt 4 0):=by rw[store_ws];unfold dat;rw[w2,w4]
  have he:=(w1.of hd).2.1
  rw[s13 hd hn]
  refine⟨?_,fun x x0 x1 x2=>?_,?_⟩
  ·show Pt s ws0 d (w.store t.c t.dat (putSt 4 0)).ws;rw[hst];exact hpt.sta hm hcd.1 hcd.1 hcd.2
  ·show(w.store t.c t.dat (putSt 4 0)).get x=_
   rw[hdat,get_store hcd.1 x0,if_neg x2]
  ·refine .en rfl rfl ?_ ?_ ?_ ?_ ?_
   ·show(w.store t.c t.dat (putSt 4 0)).get d=_
    rw[hdat,get_store hcd.1 hcd.1,if_pos rfl]
   ·show BD s ws0 d (w.store t.c t.dat (putSt 4 0)).ws s.p
    rw[hst];intro q q0 q1 hq;rw[pg_st hm hcd.1 hcd.2 q0 q1];exact b q q0 q1 hq
   ·show HD s ws0 d (w.store t.c t.dat (putSt 4 0)).ws s.p
    rw[hst];intro q q0 q1 hq;rw[pg_st hm hcd.1 hcd.2 q0 q1];exact hh q q0 q1 hq
   ·show MD s d (w.store t.c t.dat (putSt 4 0)).ws s.m
    rw[hst];intro j j0 j1;rw[mg_st hm hcd.1 hcd.2 hcd.1 j0];exact m j j0 j1
   ·show SD s ws0 d (w.store t.c t.dat (putSt 4 0)).ws s.p
    rw[hst];intro q q0 q1 hq j j0 j1;rw[sl_st hm hcd.1 hcd.2 q0 j0];exact x q q0 q1 hq j j0 j1
 |en hd he hx b hh m x=>
  rw[step_dn hd]
  exact⟨hpt,fun _ _ _ _=>rfl,.en hd he hx b hh m x⟩
end Ad
end Go.Ma

namespace Go.Ma
open Go.Pl
section
variable {s:Sh} {ws0 ws:Nat→Int} {d q i n y:Int}
structure Gn (s:Sh) (ws0:Nat→Int) (d:Int) (ws:Nat→Int):Prop where
 pt:Pt s ws0 d ws
 b:BD s ws0 d ws s.p
 h:HD s ws0 d ws s.p
 m:MD s d ws s.m
 x:SD s ws0 d ws s.p
section
variable (hm:may s.p s.c s.m=true) (hsn:Snd s ws0) (d0:0≤d) (d1:d<s.c) (g:Gn s ws0 d ws)
include hm hsn d0 d1 g
theorem Gn.page (h0:0≤q) (h1:q<s.p):(¬ HeldBy s ws0 d q∧¬ BodyOf s ws0 d q∧pgAt s ws q=pgAt s ws0 q)∨((HeldBy s ws0 d q∨BodyOf s ws0 d q)∧pgAt s ws q=0∧pgAt s ws0 q≠0):=by
 by_cases hh:HeldBy s ws0 d q
 ·refine .inr ⟨.inl hh,g.h q h0 h1 hh,fun e=>?_⟩
  have:=hh.1;rw[e,pgK_zero]at this;cases this
 ·by_cases hb:BodyOf s ws0 d q
  ·refine .inr ⟨.inr hb,g.b q h0 h1 hb,fun e=>?_⟩
   have:=hb.1;rw[e,pgK_zero]at this;cases this
  ·exact .inl ⟨hh,hb,g.pt.np q h0 h1 hh hb⟩
theorem Gn.slot (h0:0≤q) (h1:q<s.p) (i0:0≤i) (i1:i<16):(¬ HeldBy s ws0 d q∧slAt s ws q i=slAt s ws0 q i∧¬ (pgK s q (pgAt s ws0 q)=2∧slAt s ws0 q i=way d))∨(¬ HeldBy s ws0 d q∧pgK s q (pgAt s ws0 q)=2∧slAt s ws0 q i=way d∧slAt s ws q i=opn (pgA s q (pgAt s ws0 q)))∨(HeldBy s ws0 d q∧slAt s ws q i=0):=by
 by_cases hh:HeldBy s ws0 d q
 ·refine .inr (.inr ⟨hh,?_⟩)
  rcases g.pt.hd q h0 h1 hh with e |⟨-,e⟩
  ·have e2:=g.h q h0 h1 hh
   rw[e]at e2
   have:=hh.1;rw[e2,pgK_zero]at this;cases this
  ·exact e i i0 i1
 ·rcases g.pt.sb q h0 h1 hh i i0 i1 with e |⟨e1,e2,e3⟩
  ·refine .inl ⟨hh,e,fun ⟨e1,e2⟩=>?_⟩
   exact g.x q h0 h1 e1 i i0 i1 (e.trans e2)
  ·exact .inr (.inl ⟨hh,e1,e2,e3⟩)
theorem Gn.snd:Snd s ws:=by
 have hb:=(may_iff _ _ _).1 hm
 have dw:=way_ne d d0 (by omega)
 refine⟨fun p h1=>?_,fun c i h1 h2 hx=>?_,fun c i c' i' h1 h2 h3 ha hx hy=>?_⟩
 ·obtain⟨e1,e2⟩:=hsn.pg p h1
  rcases Gn.page hm hsn d0 d1 g (q:=p) (by omega) h1 with⟨n1,n2,e⟩|⟨hx,e,-⟩
  ·rw[e]
   refine⟨e1,⟨fun k i hi=>?_,fun k k' i hi=>?_,fun k k' k4=>?_,fun k k' k4 k3 i i1 i2=>?_⟩⟩
   ·rcases Gn.slot hm hsn d0 d1 g (q:=p) (i:=i) (by omega) h1 (by omega) (by omega) with⟨-,e3,-⟩|⟨-,-,e4,e3⟩|⟨hh,-⟩
    ·rw[e3];exact e2.sup k i hi
    ·have hA:=Gv.ok_super e1 (beq_iff_eq.1 k)
     have on:=opn_ne (pgA s p (pgAt s ws0 p)) hA.1 (by omega)
     have hs:=e2.sup k i hi
     rw[e4]at hs
     unfold slB at hs ⊢
     rw[e3,on.2.1,on.2.2]
     by_cases hi2:((i:Nat):Int)<slots (pgA s p (pgAt s ws0 p))
     ·rw[decide_eq_true hi2];simp
     ·rw[decide_eq_false hi2]at hs
      have:way d=0:=by simpa using hs
      exact absurd this dw.1
    ·exact absurd hh n1
   ·rcases Gn.slot hm hsn d0 d1 g (q:=p) (i:=i) (by omega) h1 (by omega) (by omega) with⟨-,e3,-⟩|⟨-,e5,-,-⟩|⟨hh,-⟩
    ·rw[e3];exact e2.emp k k' i hi
    ·exact absurd (beq_iff_eq.2 e5) (by rw[k];decide)
    ·exact absurd hh n1
   ·have hbo:=Ad.ok_body e1 (beq_iff_eq.1 k4)
    have hbd:=e2.bod k k' k4
    rcases Gn.page hm hsn d0 d1 g (q:=pgA s p (pgAt s ws0 p)) hbo.1 (by omega) with⟨-,-,e3⟩|⟨hx,-,-⟩
    ·rw[e3];exact hbd
    ·exfalso
     rcases hx with hx | hx
     ·exact n2 ⟨beq_iff_eq.1 k4,hx⟩
     ·rw[hx.1]at hbd;simp at hbd
   ·have hl:=large_bd e1 (beq_iff_eq.1 k3)
    have he:=e2.lar k k' k4 k3 i i1 i2
    rcases Gn.page hm hsn d0 d1 g (q:=p+i) (by omega) (by omega) with⟨-,-,e3⟩|⟨hx,-,-⟩
    ·rw[e3];exact he
    ·exfalso
     rcases hx with hx | hx
     ·have:=hx.1;rw[he.1]at this;cases this
     ·have h5:=hx.2
      rw[he.2]at h5
      have:=h5.1;rw[beq_iff_eq.1 k3]at this;cases this
  ·rw[e,pgK_zero]
   refine⟨okPg_zero hm (by omega) h1,SpB.oth rfl (fun i hi=>?_) rfl rfl⟩
   rcases Gn.slot hm hsn d0 d1 g (q:=p) (i:=i) (by omega) h1 (by omega) (by omega) with⟨n1,e3,-⟩|⟨n1,e5,-,-⟩|⟨-,e3⟩
   ·rw[e3]
    rcases hx with hx | hx
    ·exact absurd hx n1
    ·exact e2.emp (by rw[hx.1];rfl) (by rw[hx.1];rfl) i hi
   ·exfalso
    rcases hx with hx | hx
    ·exact n1 hx
    ·have:=hx.1;rw[e5]at this;cases this
   ·exact e3
 ·by_cases hc:(c:Int)=d
  ·have:=g.m i (by omega) h2
   rw[← hc]at this
   exact absurd this hx
  ·rw[g.pt.mo c i (by omega) h1 hc (by omega) h2]at hx ⊢
   obtain⟨e1,e2,e3,e4⟩:=hsn.en c i h1 h2 hx
   have hE:=en_bd e1
   have hpg:pgAt s ws (enP s (mgAt s ws0 c i))=pgAt s ws0 (enP s (mgAt s ws0 c i)):=by
    rcases Gn.page hm hsn d0 d1 g (q:=enP s (mgAt s ws0 c i)) hE.1 hE.2.1 with⟨-,-,e5⟩|⟨hx,-,-⟩
    ·exact e5
    ·exfalso
     rcases hx with hx | hx
     ·have:=hx.1;rw[e2]at this;cases this
     ·have:=hx.1;rw[e2]at this;cases this
   refine⟨e1,by rw[hpg];exact e2,by rw[hpg];exact e3,?_⟩
   rcases Gn.slot hm hsn d0 d1 g (q:=enP s (mgAt s ws0 c i)) (i:=enS s (mgAt s ws0 c i)) hE.1 hE.2.1 hE.2.2.1 hE.2.2.2 with⟨-,e5,-⟩|⟨-,-,e6,-⟩|⟨hh,-⟩
   ·rw[e5];exact e4
   ·rw[e4]at e6
    exact absurd (way_inj (by omega) (by omega) d0 (by omega) e6) hc
   ·have:=hh.1;rw[e2]at this;cases this
 ·have hc':(c':Int)<s.c:=by unfold ahead at ha;omega
  have n1:(c:Int)≠d:=fun e=>by have:=g.m i (by omega) h2;rw[← e]at this;exact hx this
  have n2:(c':Int)≠d:=fun e=>by have:=g.m i' (by omega) h3;rw[← e]at this;exact hy this
  rw[g.pt.mo c i (by omega) h1 n1 (by omega) h2]at hx ⊢
  rw[g.pt.mo c' i' (by omega) hc' n2 (by omega) h3]at hy ⊢
  exact hsn.dj c i c' i' h1 h2 h3 ha hx hy
end
end
namespace Ad
variable {s:Sh} {ws0:Nat→Int} {c d:Int} {g0:Int→Int} {t:Ad} {w:Wd}
theorem Adp.fin (h:Adp s ws0 c d g0 t w) (hd:t.dn=true):t.err=0∧w.get d=putSt 4 0∧Gn s ws0 d w.ws:=by
 cases h.ph with
 | en _ he hx b hh m x=>exact⟨he,hx,h.pt,b,hh,m,x⟩
 | _ h1=>rw[hd]at h1;cases h1
theorem Adp.init (hm:may s.p s.c s.m=true) (ho:w.of s) (hc0:0≤c) (hc:c<s.c) (hd0:0≤d) (hd:d<s.c) (hcd:c≠d) (hw:Win s w.get d) (hs:Snd s w.ws):Adp s w.ws c d w.get (Ad.new s c d) w:=by
 have B:(new s c d).dn=false:=by
  show(decide (status s.p s.c s.m c<0) || (decide (status s.p s.c s.m d<0) || decide (c=d)))=false
  rw[st_place hm hc0 hc,st_place hm hd0 hd,decide_eq_false (by omega),decide_eq_false (by omega),decide_eq_false hcd]
  rfl
 exact⟨ho,hm,⟨new_wf ..,rfl,rfl,rfl⟩,⟨hd0,hd⟩,hw,hs,Pt.self ..,fun _ _ _ _=>rfl,.p0 B rfl rfl⟩
end Ad
end Go.Ma

namespace Go.Ma
open Go.Pl
section
variable {s:Sh} {ws0 ws:Nat→Int} {d q i n y:Int}
variable (hm:may s.p s.c s.m=true) (hsn:Snd s ws0) (d0:0≤d) (d1:d<s.c) (g:Gn s ws0 d ws)
include hm hsn d0 d1 g
end
end Go.Ma
namespace Go.Ma
open Go.Pl
structure Cn where
 fr:Int
 ta:Int
 li:Int
 lo:Int
namespace Cn
def z:Cn:=⟨0,0,0,0⟩
def slot (liv:Int→Bool) (A y:Int) (n:Cn):Cn:=
 if slK y=1 then { n with fr:=n.fr+size A } else if slK y=3 then { n with ta:=n.ta+size A } else if slK y=2∧liv (slA y)=true then { n with li:=n.li+size A } else { n with lo:=n.lo+size A }
def slots (liv:Int→Bool) (s:Sh) (ws:Nat→Int) (q A:Int) (n:Cn):Nat→Cn
 | 0=>n
 | i+1=>slot liv A (slAt s ws q i) (slots liv s ws q A n i)
def at' (s:Sh) (ws:Nat→Int) (q:Int):Int:=if pgK s q (pgAt s ws q)=4 then pgA s q (pgAt s ws q) else q
def who (s:Sh) (ws:Nat→Int) (q:Int):Int:=pgA s (at' s ws q) (pgAt s ws (at' s ws q))
def held (s:Sh) (ws:Nat→Int) (q:Int):Bool:=pgK s (at' s ws q) (pgAt s ws (at' s ws q)) == 1
def page (liv:Int→Bool) (s:Sh) (ws:Nat→Int) (q:Int) (n:Cn):Cn:=
 if okPg s q (pgAt s ws q)=true∧pgK s q (pgAt s ws q)=0 then { n with fr:=n.fr+64 }
 else if held s ws q=true∧liv (who s ws q)=true then { n with li:=n.li+64 }
 else if held s ws q=true∨okPg s q (pgAt s ws q)=false then { n with lo:=n.lo+64 }
 else if pgK s q (pgAt s ws q)=2 then slots liv s ws q (pgA s q (pgAt s ws q)) n (Pl.slots (pgA s q (pgAt s ws q))).toNat
 else { n with ta:=n.ta+64 }
def all (liv:Int→Bool) (s:Sh) (ws:Nat→Int):Nat→Cn
 | 0=>z
 | q+1=>page liv s ws q (all liv s ws q)
def Bd (b:Int) (n:Cn):Prop:=0≤n.fr∧n.fr≤b∧0≤n.ta∧n.ta≤b∧0≤n.li∧n.li≤b∧0≤n.lo∧n.lo≤b
theorem size_bd (A:Int):0≤size A∧size A≤32:=by
 unfold size;repeat' split
 all_goals omega
theorem Bd.slot {liv:Int→Bool} {b A y:Int} {n:Cn} (h:Bd b n):Bd (b+32) (n.slot liv A y):=by
 have:=size_bd A
 unfold Bd at h
 unfold Cn.slot Bd
 repeat' split
 all_goals
  dsimp only
  omega
theorem Bd.slots {liv:Int→Bool} {s:Sh} {ws:Nat→Int} {q A b:Int} {n:Cn} (h:Bd b n):∀ i:Nat,Bd (b+32*i) (Cn.slots liv s ws q A n i)
 | 0=>by show Bd (b+32*((0:Nat):Int)) n;rw[show b+32*((0:Nat):Int)=b by omega];exact h
 |i+1=>by
  have:=(Bd.slots (liv:=liv) (s:=s) (ws:=ws) (q:=q) (A:=A) h i).slot (liv:=liv) (A:=A) (y:=slAt s ws q i)
  rw[show b+32*((i+1:Nat):Int)=b+32*(i:Int)+32 by omega];exact this
theorem Bd.mono {b b':Int} {n:Cn} (h:Bd b n) (hb:b≤b'):Bd b' n:=by unfold Bd at h ⊢;omega
theorem Bd.page {liv:Int→Bool} {s:Sh} {ws:Nat→Int} {q b:Int} {n:Cn} (h:Bd b n):Bd (b+512) (n.page liv s ws q):=by
 have hs:=slots_bd (pgA s q (pgAt s ws q))
 have hl:=(h.slots (liv:=liv) (s:=s) (ws:=ws) (q:=q) (A:=pgA s q (pgAt s ws q)) (Pl.slots (pgA s q (pgAt s ws q))).toNat).mono (b':=b+512) (by omega)
 unfold Bd at h
 unfold Cn.page
 split
 ·unfold Bd;dsimp only;omega
 ·split
  ·unfold Bd;dsimp only;omega
  ·split
   ·unfold Bd;dsimp only;omega
   ·split
    ·exact hl
    ·unfold Bd;dsimp only;omega
theorem all_bd {liv:Int→Bool} {s:Sh} {ws:Nat→Int}:∀ q:Nat,Bd (512*q) (all liv s ws q)
 | 0=>by unfold all z Bd;dsimp only;omega
 |q+1=>by
  have:=(all_bd (liv:=liv) (s:=s) (ws:=ws) q).page (liv:=liv) (s:=s) (ws:=ws) (q:=q)
  rw[show(512:Int)*((q+1:Nat):Int)=512*(q:Int)+512 by omega];exact this
end Cn
end Go.Ma
namespace Go.Ma
open Go.Pl
namespace Kt
def sm (f:Nat→Int):Nat→Int
 | 0=>0
 | n+1=>sm f n+f n
theorem sm_const {f:Nat→Int} {b:Nat} {c:Int}:∀ {n:Nat},(∀ j,j<n→f (b+j)=c)→sm f (b+n)=sm f b+n*c
 | 0,_=>by simp
 |n+1,h=>by
  have h1:=sm_const (n:=n) fun j hj=>h j (by omega)
  have h2:=h n (by omega)
  show sm f (b+n)+f (b+n)=_
  rw[h1,h2,Int.natCast_add,Int.add_mul]
  omega
def hl (s:Sh) (ws:Nat→Int) (ad:Int):Int×Bool:=
 if Cn.held s ws (ad / 64)=true then(Cn.who s ws (ad / 64),true)
 else if pgK s (ad / 64) (pgAt s ws (ad / 64))=2 then
  if slK (slAt s ws (ad / 64) (ad % 64 / size (pgA s (ad / 64) (pgAt s ws (ad / 64)))))=2 then(slA (slAt s ws (ad / 64) (ad % 64 / size (pgA s (ad / 64) (pgAt s ws (ad / 64))))),true) else(0,false)
 else(0,false)
def one (d:Int) (s:Sh) (ws:Nat→Int) (x:Nat):Int:=if(hl s ws x).2=true∧(hl s ws x).1=d then 1 else 0
def wayS (d:Int) (s:Sh) (ws:Nat→Int) (q A:Int):Nat→Int
 | 0=>0
 | i+1=>wayS d s ws q A i+if slK (slAt s ws q i)=2∧slA (slAt s ws q i)=d then size A else 0
def mineP (d:Int) (s:Sh) (ws:Nat→Int) (q:Int):Int:=
 if Cn.held s ws q=true then(if Cn.who s ws q=d then 64 else 0)
 else if pgK s q (pgAt s ws q)=2 then wayS d s ws q (pgA s q (pgAt s ws q)) (slots (pgA s q (pgAt s ws q))).toNat else 0
section
variable {s:Sh} {ws ws0:Nat→Int} {d:Int}
theorem one_held {q:Nat} {j:Nat} (hj:j<64) (h:Cn.held s ws q=true):one d s ws (64*q+j)=if Cn.who s ws q=d then 1 else 0:=by
 have e:(((64*q+j:Nat):Int)) / 64=q:=by omega
 unfold one hl
 rw[e,if_pos h]
 simp
theorem one_no {q:Nat} {j:Nat} (hj:j<64) (h:¬ Cn.held s ws q=true) (k:pgK s q (pgAt s ws q)≠2):one d s ws (64*q+j)=0:=by
 have e:(((64*q+j:Nat):Int)) / 64=q:=by omega
 unfold one hl
 rw[e,if_neg h,if_neg k]
 simp
theorem one_slot {q:Nat} {A:Int} {i j:Nat} (h:¬ Cn.held s ws q=true) (k:pgK s q (pgAt s ws q)=2) (hA:pgA s q (pgAt s ws q)=A) (hz:4≤size A) (hi:(i:Int)*size A+j<64) (hj:(j:Int)<size A) :
  one d s ws (64*q+(i*(size A).toNat+j))=if slK (slAt s ws q i)=2∧slA (slAt s ws q i)=d then 1 else 0:=by
 have hzn:((size A).toNat:Int)=size A:=by omega
 have hx:(((i*(size A).toNat+j:Nat):Int))=i*size A+j:=by rw[Int.natCast_add,Int.natCast_mul,hzn]
 have h0:0≤(i:Int)*size A:=Int.mul_nonneg (by omega) (by omega)
 have e:(((64*q+(i*(size A).toNat+j):Nat):Int)) / 64=q:=by rw[Int.natCast_add,hx];omega
 have e2:(((64*q+(i*(size A).toNat+j):Nat):Int)) % 64=i*size A+j:=by rw[Int.natCast_add,hx];omega
 have e3:((i:Int)*size A+j) / size A=i:=by
  rw[Int.add_comm,Int.add_mul_ediv_right _ _ (by omega),Int.ediv_eq_zero_of_lt (by omega) hj];omega
 unfold one hl
 rw[e,e2,if_neg h,if_pos k,hA,e3]
 by_cases k2:slK (slAt s ws q i)=2
 ·rw[if_pos k2];simp [k2]
 ·rw[if_neg k2];simp [k2]
theorem sm_page {q:Nat} (hok:okPg s q (pgAt s ws q)=true):sm (one d s ws) (64*(q+1))=sm (one d s ws) (64*q)+mineP d s ws q:=by
 have e64:64*(q+1)=64*q+64:=by omega
 rw[e64]
 clear e64
 unfold mineP
 by_cases h:Cn.held s ws q=true
 ·rw[if_pos h,sm_const (c:=if Cn.who s ws q=d then 1 else 0) fun j hj=>one_held hj h]
  split<;>omega
 rw[if_neg h]
 by_cases k:pgK s q (pgAt s ws q)=2
 rotate_left
 ·rw[if_neg k,sm_const (c:=0) fun j hj=>one_no hj h k];omega
 rw[if_pos k]
 obtain⟨A,hA⟩:∃ A,pgA s q (pgAt s ws q)=A:=⟨_,rfl⟩
 have hs:=Gv.ok_super hok k
 rw[hA]at hs ⊢
 obtain⟨b1,b2,b3,b4,b5⟩:=slots_four hs.1 hs.2.1
 have hzn:((size A).toNat:Int)=size A:=by omega
 obtain⟨B,hB⟩:∃ B,64*q=B:=⟨_,rfl⟩
 have key:∀ i:Nat,(i:Int)≤slots A→sm (one d s ws) (64*q+i*(size A).toNat)=sm (one d s ws) (64*q)+wayS d s ws q A i:=fun i=>by
  induction i with
  | zero=>intro _;show sm _ (64*q+0*_)=_+0;rw[Nat.zero_mul,Nat.add_zero,Int.add_zero]
  |succ i ih=>
   intro hi
   have h1:=ih (by omega)
   have hlt:=Int.mul_le_mul_of_nonneg_right (show(i:Int)+1≤slots A by omega) (show 0≤size A by omega)
   rw[b3,Int.add_mul]at hlt
   have h2:=sm_const (f:=one d s ws) (b:=64*q+i*(size A).toNat) (n:=(size A).toNat) (c:=if slK (slAt s ws q i)=2∧slA (slAt s ws q i)=d then 1 else 0) fun j hj=>by
    rw[Nat.add_assoc];exact one_slot h k hA b4 (by omega) (by omega)
   rw[hB]at h1 h2 ⊢
   rw[Nat.succ_mul,← Nat.add_assoc,h2,h1]
   show _=_+(wayS d s ws q A i+_)
   split<;>omega
 have h3:=key (slots A).toNat (by omega)
 have h4:(slots A).toNat*(size A).toNat=64:=by
  have:(((slots A).toNat*(size A).toNat:Nat):Int)=64:=by rw[Int.natCast_mul,hzn,show((slots A).toNat:Int)=slots A by omega,b3]
  omega
 rw[h4]at h3
 exact h3
def mineN (d:Int) (s:Sh) (ws:Nat→Int):Nat→Int
 | 0=>0
 | q+1=>mineN d s ws q+mineP d s ws q
theorem sm_all (hs:Snd s ws):∀ q:Nat,(q:Int)≤s.p→sm (one d s ws) (64*q)=mineN d s ws q
 | 0,_=>rfl
 |q+1,h=>by
  have h1:=sm_all hs q (by omega)
  rw[sm_page (hs.pg q (by omega)).1,h1];rfl
theorem slots_gn {liv liv':Int→Bool} {q A:Int} {n n':Cn} {M:Int} (h1:n'.fr=n.fr+M) (h2:n'.ta=n.ta):∀ i:Nat,
  (∀ j:Nat,j<i→(slAt s ws q j=slAt s ws0 q j∧¬ (slK (slAt s ws0 q j)=2∧slA (slAt s ws0 q j)=d))∨(slK (slAt s ws0 q j)=2∧slA (slAt s ws0 q j)=d∧slK (slAt s ws q j)=1)) →
  (Cn.slots liv' s ws q A n' i).fr=(Cn.slots liv s ws0 q A n i).fr+M+wayS d s ws0 q A i∧(Cn.slots liv' s ws q A n' i).ta=(Cn.slots liv s ws0 q A n i).ta
 | 0,_=>⟨by show n'.fr=n.fr+M+0;omega,h2⟩
 |i+1,h=>by
  obtain⟨g1,g2⟩:=slots_gn h1 h2 i fun j hj=>h j (by omega)
  show(Cn.slot liv' A (slAt s ws q i) (Cn.slots liv' s ws q A n' i)).fr=(Cn.slot liv A (slAt s ws0 q i) (Cn.slots liv s ws0 q A n i)).fr+M+(wayS d s ws0 q A i+_)∧(Cn.slot liv' A (slAt s ws q i) (Cn.slots liv' s ws q A n' i)).ta=(Cn.slot liv A (slAt s ws0 q i) (Cn.slots liv s ws0 q A n i)).ta
  generalize Cn.slots liv' s ws q A n' i=m' at g1 g2 ⊢
  generalize Cn.slots liv s ws0 q A n i=m at g1 g2 ⊢
  rcases h i (by omega) with⟨e,ne⟩|⟨k1,k2,k3⟩
  ·rw[e,if_neg ne]
   unfold Cn.slot
   by_cases y1:slK (slAt s ws0 q i)=1
   ·rw[if_pos y1,if_pos y1];exact⟨by show m'.fr+_=m.fr+_+M+(_+0);omega,g2⟩
   ·rw[if_neg y1,if_neg y1]
    by_cases y3:slK (slAt s ws0 q i)=3
    ·rw[if_pos y3,if_pos y3];exact⟨by show m'.fr=m.fr+M+(_+0);omega,by show m'.ta+_=m.ta+_;omega⟩
    ·rw[if_neg y3,if_neg y3]
     split<;>split<;>exact⟨by show m'.fr=m.fr+M+(_+0);omega,g2⟩
  ·rw[if_pos ⟨k1,k2⟩]
   unfold Cn.slot
   rw[if_pos k3,k1,if_neg (by decide),if_neg (by decide)]
   split<;>exact⟨by show m'.fr+_=m.fr+M+(_+_);omega,g2⟩
theorem page_gn {liv liv':Int→Bool} {q:Int} {n n':Cn} {M:Int} (hm:may s.p s.c s.m=true) (hsn:Snd s ws0) (d0:0≤d) (d1:d<s.c) (g:Gn s ws0 d ws) (h0:0≤q) (h1:q<s.p) (e1:n'.fr=n.fr+M) (e2:n'.ta=n.ta) :
  (Cn.page liv' s ws q n').fr=(Cn.page liv s ws0 q n).fr+M+mineP d s ws0 q∧(Cn.page liv' s ws q n').ta=(Cn.page liv s ws0 q n).ta:=by
 have hb:=(may_iff _ _ _).1 hm
 have hpg:=hsn.pg q.toNat (by omega)
 rw[show((q.toNat:Nat):Int)=q by omega]at hpg
 obtain⟨hok,hsb⟩:=hpg
 rcases g.page hm hsn d0 d1 h0 h1 with⟨n1,n2,e⟩|⟨hx,e,f⟩
 ·
  have hAt:Cn.at' s ws q=Cn.at' s ws0 q:=by unfold Cn.at';rw[e]
  have hw:pgAt s ws (Cn.at' s ws0 q)=pgAt s ws0 (Cn.at' s ws0 q):=by
   unfold Cn.at'
   by_cases k4:pgK s q (pgAt s ws0 q)=4
   ·rw[if_pos k4]
    have hbo:=hsb.bod (by rw[k4];rfl) (by rw[k4];rfl) (by rw[k4];rfl)
    obtain⟨a0,a1⟩:0≤pgA s q (pgAt s ws0 q)∧pgA s q (pgAt s ws0 q)<s.p:=by have:=Ad.ok_body hok k4;omega
    rcases g.page hm hsn d0 d1 a0 a1 with⟨-,-,e'⟩|⟨hx,-,-⟩
    ·exact e'
    ·exfalso
     rcases hx with hx | hx
     ·exact n2 ⟨k4,hx⟩
     ·rw[hx.1]at hbo;cases hbo
   ·rw[if_neg k4];exact e
  have hheld:Cn.held s ws q=Cn.held s ws0 q:=by unfold Cn.held;rw[hAt,hw]
  have hnm:Cn.held s ws0 q=true→Cn.who s ws0 q≠d:=fun hh hwd=>by
   unfold Cn.held Cn.at' at hh
   unfold Cn.who Cn.at' at hwd
   by_cases k4:pgK s q (pgAt s ws0 q)=4
   ·rw[if_pos k4]at hh hwd
    exact n2 ⟨k4,beq_iff_eq.1 hh,hwd⟩
   ·rw[if_neg k4]at hh hwd
    exact n1 ⟨beq_iff_eq.1 hh,hwd⟩
  unfold Cn.page mineP
  rw[hheld,e,hok]
  by_cases k0:pgK s q (pgAt s ws0 q)=0
  ·have hh:Cn.held s ws0 q=false:=by
    unfold Cn.held Cn.at'
    rw[if_neg (by omega),k0];rfl
   rw[if_pos ⟨rfl,k0⟩,if_pos ⟨rfl,k0⟩,hh,if_neg (by decide),if_neg (by omega)]
   exact⟨by show n'.fr+64=n.fr+64+M+0;omega,e2⟩
  ·rw[if_neg (fun h:true=true∧pgK s q (pgAt s ws0 q)=0=>k0 h.2),if_neg (fun h:true=true∧pgK s q (pgAt s ws0 q)=0=>k0 h.2)]
   cases hh:Cn.held s ws0 q
   ·simp only[Bool.false_eq_true,false_and,false_or,if_false,Bool.true_eq_false]
    by_cases k2:pgK s q (pgAt s ws0 q)=2
    ·rw[if_pos k2,if_pos k2,if_pos k2]
     have hA:=Gv.ok_super hok k2
     have sb:=slots_four hA.1 hA.2.1
     refine slots_gn e1 e2 _ fun j hj=>?_
     have hj16:(j:Int)<16:=by omega
     have wd:=way_ne d d0 (by omega)
     rcases g.slot hm hsn d0 d1 h0 h1 (i:=j) (by omega) hj16 with⟨-,x1,x2⟩|⟨-,x1,x2,x3⟩|⟨hx,-⟩
     ·refine .inl ⟨x1,fun y=>x2 ⟨k2,?_⟩⟩
      rw[is_way y.1,y.2]
     ·exact .inr ⟨by rw[x2];exact wd.2.1,by rw[x2];exact wd.2.2,by rw[x3];exact(opn_ne _ hA.1 (by omega)).2.1⟩
     ·exact absurd hx n1
    ·rw[if_neg k2,if_neg k2,if_neg k2]
     exact⟨by show n'.fr=n.fr+M+0;omega,by show n'.ta+64=n.ta+64;omega⟩
   ·rw[if_pos rfl,if_neg (hnm hh)]
    simp only[true_and,true_or,if_true]
    have hwho:∀ (b b':Bool),(if b'=true then({ n' with li:=n'.li+64 }:Cn) else { n' with lo:=n'.lo+64 }).fr=(if b=true then({ n with li:=n.li+64 }:Cn) else { n with lo:=n.lo+64 }).fr+M+0∧(if b'=true then({ n' with li:=n'.li+64 }:Cn) else { n' with lo:=n'.lo+64 }).ta=(if b=true then({ n with li:=n.li+64 }:Cn) else { n with lo:=n.lo+64 }).ta:=fun b b'=>by
     cases b<;>cases b'<;>exact⟨by show n'.fr=n.fr+M+0;omega,e2⟩
    exact hwho _ _
 ·
  have hK:pgK s q (pgAt s ws0 q)≠0:=by
   rcases hx with hx | hx
   ·rw[hx.1];decide
   ·rw[hx.1];decide
  have hhw:Cn.held s ws0 q=true∧Cn.who s ws0 q=d:=by
   unfold Cn.held Cn.who Cn.at'
   rcases hx with hx | hx
   ·rw[if_neg (by rw[hx.1];decide),hx.1];exact⟨rfl,hx.2⟩
   ·rw[if_pos hx.1];exact⟨by rw[hx.2.1];rfl,hx.2.2⟩
  unfold Cn.page mineP
  rw[e,okPg_zero hm h0 h1,pgK_zero,if_pos ⟨rfl,rfl⟩,if_neg (fun h:okPg s q (pgAt s ws0 q)=true∧pgK s q (pgAt s ws0 q)=0=>hK h.2),hhw.1,if_pos rfl,if_pos hhw.2]
  simp only[true_and,true_or,if_true]
  split<;>exact⟨by show n'.fr+64=n.fr+M+64;omega,e2⟩
theorem all_gn {liv liv':Int→Bool} (hm:may s.p s.c s.m=true) (hsn:Snd s ws0) (d0:0≤d) (d1:d<s.c) (g:Gn s ws0 d ws):∀ q:Nat,(q:Int)≤s.p →
  (Cn.all liv' s ws q).fr=(Cn.all liv s ws0 q).fr+mineN d s ws0 q∧(Cn.all liv' s ws q).ta=(Cn.all liv s ws0 q).ta
 | 0,_=>⟨rfl,rfl⟩
 |q+1,h=>by
  obtain⟨h1,h2⟩:=all_gn (liv:=liv) (liv':=liv') hm hsn d0 d1 g q (by omega)
  obtain⟨h3,h4⟩:=page_gn (liv:=liv) (liv':=liv') hm hsn d0 d1 g (q:=q) (by omega) (by omega) h1 h2
  exact⟨by show(Cn.page liv' s ws q _).fr=(Cn.page liv s ws0 q _).fr+(_+_);omega,h4⟩
end
end Kt
end Go.Ma
namespace Go.Ma
open Go.Pl
theorem Uo.Al.sound {s:Sh} {ws1:Nat→Int} {c:Int} {b:Bk} {t:Uo} {w:Wd} (hm:may s.p s.c s.m=true) (hs:Snd s ws1) (hr:Res s ws1 c b) (h:Uo.Al s ws1 c b t w):Snd s w.ws:=by
 cases h with
 | s hd l hw=>rw[hw];exact hs
 | e hd h=>exact Und.snd hm hs hr h
 |l hd l i0 i1 pg sl mg=>
  obtain⟨r1,r2,r3,r4⟩:=hr.l l
  have F:=hr.f
  have p0:=F.p0
  have p1:=F.p1
  have hl:=F.l l
  have bod:∀ q,b.p<q→q<b.p+b.n→pgK s q (pgAt s ws1 q)=4∧pgA s q (pgAt s ws1 q)=b.p:=fun q q0 q1=>by
   have hbo:=body_ok (s:=s) (q:=q) hm p0 (by omega) (by omega) (by omega)
   rw[← r3 q q0 q1]at hbo
   exact⟨hbo.2.1,hbo.2.2⟩
  have same:∀ q,0≤q→q<s.p→¬ (b.p<q∧q≤b.p+t.i)→pgAt s w.ws q=pgAt s ws1 q:=fun q q0 q1 hn=>by rw[pg q q0 q1,if_neg hn]
  refine⟨fun p h1=>?_,fun c i h1 h2 hx=>?_,fun c i c' i' h1 h2 h3 ha hx hy=>?_⟩
  ·obtain⟨e1,e2⟩:=hs.pg p h1
   by_cases hp:b.p<(p:Int)∧(p:Int)≤b.p+t.i
   ·have e0:pgAt s w.ws p=0:=by rw[pg p (by omega) h1,if_pos hp]
    have k4:=bod p (by omega) (by omega)
    rw[e0,pgK_zero]
    refine⟨okPg_zero hm (by omega) h1,⟨fun k=>(by cases k),fun _ _ i hi=>?_,fun _ _ k=>(by cases k),fun _ _ _ k=>(by cases k)⟩⟩
    rw[sl p i (by omega) h1 (by omega) (by omega)]
    exact e2.emp (by rw[k4.1];rfl) (by rw[k4.1];rfl) i hi
   ·have e0:=same p (by omega) h1 hp
    rw[e0]
    refine⟨e1,⟨fun k i hi=>?_,fun k k' i hi=>?_,fun k k' k4=>?_,fun k k' k4 k3 i i1' i2=>?_⟩⟩
    ·rw[sl p i (by omega) h1 (by omega) (by omega)];exact e2.sup k i hi
    ·rw[sl p i (by omega) h1 (by omega) (by omega)];exact e2.emp k k' i hi
    ·have h5:=e2.bod k k' k4
     have hb5:=Ad.ok_body e1 (beq_iff_eq.1 k4)
     rw[same _ hb5.1 (by omega) fun g=>?_]
     ·exact h5
     ·have:=(bod _ g.1 (by omega)).1
      rw[this]at h5;cases h5
    ·have h5:=e2.lar k k' k4 k3 i i1' i2
     have hlr:=large_bd e1 (beq_iff_eq.1 k3)
     rw[same _ (by omega) (by omega) fun g=>?_]
     ·exact h5
     ·have h6:=(bod _ g.1 (by omega)).2
      have h7:(p:Int)=b.p:=by rw[← h5.2,h6]
      have ho:=held_ok hm p0 p1 F.c0 F.c1
      rw[h7,r1,ho.2.1]at k3;cases k3
  ·rw[mg c i (by omega) h1 (by omega) h2]at hx ⊢
   have h5:=hs.en c i h1 h2 hx
   obtain⟨z1,z2,z3,z4⟩:=en_bd h5.ok
   have e0:=same _ z1 z2 fun g=>by
    have:=(bod _ g.1 (by omega)).1
    rw[h5.k]at this;cases this
   exact⟨h5.ok,by rw[e0];exact h5.k,by rw[e0];exact h5.a,by rw[sl _ _ z1 z2 z3 z4];exact h5.w⟩
  ·rw[mg c i (by omega) h1 (by omega) h2]at hx ⊢
   obtain⟨g1,g2⟩:(c':Int)<s.c∧True:=⟨by rcases ha with g |⟨g,-⟩<;>omega,trivial⟩
   rw[mg c' i' (by omega) g1 (by omega) h3]at hy ⊢
   exact hs.dj c i c' i' h1 h2 h3 ha hx hy
theorem Rv.nfd {v:Rv} (h:v.wf) (hd:v.dn=false):v.fd=false:=by
 cases v with
 | sk t=>exact Sk.wf.fd h hd
 | rn t=>exact(Rn.wf.of h hd).2.1
 | no=>rfl
theorem Rv.bk00 (v:Rv):(v.bk.lg=true→v.bk.i=0∧v.bk.k=0)∧(v.bk.lg=false→v.bk.n=0):=by
 cases v with
 |sk t=>
  cases hf:t.fd
  ·have e:(Rv.sk t).bk=Bk.zero:=if_neg (by rw[hf];decide)
   rw[e];exact⟨fun g=>(by cases g),fun _=>rfl⟩
  ·have e:(Rv.sk t).bk=⟨false,t.pg,t.sl,t.k,0⟩:=if_pos hf
   rw[e];exact⟨fun g=>(by cases g),fun _=>rfl⟩
 |rn t=>
  cases hf:t.fd
  ·have e:(Rv.rn t).bk=Bk.zero:=if_neg (by rw[hf];decide)
   rw[e];exact⟨fun g=>(by cases g),fun _=>rfl⟩
  ·have e:(Rv.rn t).bk=⟨true,t.hd,0,0,t.n⟩:=if_pos hf
   rw[e];exact⟨fun _=>⟨rfl,rfl⟩,fun g=>(by cases g)⟩
 | no=>exact⟨fun g=>(by cases g),fun _=>rfl⟩
inductive Jb
 | off
 | tk (v:Rv)
 | cm (t:Cm)
 | gv (t:Gv)
 | re (t:Re)
namespace Jb
def step (s:Sh) (c:Int) (j:Jb) (w:Wd):Jb×Wd:=match j with
 | .off=>(.off,w)
 | .tk v=>(if(v.step w).1.fd then .cm (Cm.new s c (v.step w).1.bk) else if(v.step w).1.dn then .off else .tk (v.step w).1,(v.step w).2)
 | .cm t=>(.off,(t.step w).2)
 | .gv t=>(if(t.step w).1.dn then .off else .gv (t.step w).1,(t.step w).2)
 | .re t=>(if(t.step w).1.dn then .off else .re (t.step w).1,(t.step w).2)
inductive KI (s:Sh) (ws0:Nat→Int) (c a n f:Int) (w:Wd):Jb→Prop
 | off (h:Snd s w.ws):KI s ws0 c a n f w .off
 | tk {v:Rv} (wf:v.wf) (ofs:v.of s c) (hd:v.dn=false) (h:v.Al s ws0 c n f w):KI s ws0 c a n f w (.tk v)
 | cm {b:Bk} (hb:b.Fit s c) (hz:(b.lg=true→b.i=0∧b.k=0)∧(b.lg=false→b.n=0)) (h:Snd s w.ws) (hr:Res s w.ws c b):KI s ws0 c a n f w (.cm (Cm.new s c b))
 | gv {t:Gv} (hd:t.dn=false) (h:t.Al s ws0 c a w):KI s ws0 c a n f w (.gv t)
 | re {t:Re} (hd:t.dn=false) (h:t.Al s ws0 c a n f w):KI s ws0 c a n f w (.re t)
variable {s:Sh} {ws0:Nat→Int} {c a n f:Int} {w:Wd} {j:Jb}
theorem KI.snd (hm:may s.p s.c s.m=true) (h:KI s ws0 c a n f w j):Snd s w.ws:=by
 cases h with
 | off h=>exact h
 | tk _ _ _ h=>exact h.sound
 | cm _ _ h=>exact h
 | gv _ h=>exact h.sound
 |re hd h=>
  cases h.ph with
  | rv _ _ _ h=>exact h.sound
  | gv _ _ _ _ _ _ _ _ h=>exact h.sound
  | cm _ _ _ _ _ _ _ h=>exact h.snd
  | uo _ _ _ _ _ _ _ _ _ h _ hu=>exact hu.sound hm h.snd h.res
  | won hd'=>rw[hd]at hd';cases hd'
  | lost hd'=>rw[hd]at hd';cases hd'
  | none hd'=>rw[hd]at hd';cases hd'
theorem KI.step (hm:may s.p s.c s.m=true) (hw:w.of s) (h:KI s ws0 c a n f w j):KI s ws0 c a n f (j.step s c w).2 (j.step s c w).1∧(j.step s c w).2.of s:=by
 cases h with
 | off h=>exact⟨.off h,hw⟩
 | @tk v wf ofs hd h=>
  have h2:=h.step
  have w2:=Rv.step_of wf hw
  refine⟨?_,w2⟩
  show KI s ws0 c a n f (v.step w).2 (if(v.step w).1.fd=true then _ else _)
  split
  ·rename_i hf
   have hd2:(v.step w).1.dn=true:=by
    cases hd2:(v.step w).1.dn
    ·have:=Rv.nfd (Rv.step_wf (w:=w) wf) hd2;rw[this]at hf;cases hf
    ·rfl
   obtain⟨g,-⟩:=h2.got hd2 hf
   exact .cm g.res.f (Rv.bk00 _) g.snd g.res
  ·split
   ·exact .off h2.sound
   ·rename_i hd2
    exact .tk (Rv.step_wf wf) (Rv.step_ofs wf ofs) (by simpa using hd2) h2
 | @cm b hb hz h hr=>
  obtain⟨c1,c2,c3⟩:=Cm.one hr
  refine⟨.off ?_,Cm.step_of hw⟩
  show Snd s ((Cm.new s c b).step w).2.ws
  rw[c3];exact hr.cm_snd hm h
 | @gv t hd h=>
  have h2:=h.step
  refine⟨?_,h2.of⟩
  show KI s ws0 c a n f (t.step w).2 (if(t.step w).1.dn=true then _ else _)
  split
  ·exact .off h2.sound
  ·rename_i hd2;exact .gv (by simpa using hd2) h2
 | @re t hd h=>
  have h2:=h.step
  refine⟨?_,h2.of⟩
  show KI s ws0 c a n f (t.step w).2 (if(t.step w).1.dn=true then _ else _)
  split
  ·rename_i hd2;exact .off (h2.ends hd2).1
  ·rename_i hd2;exact .re (by simpa using hd2) h2
theorem st1 {x:Int} (h0:0≤x) (h1:x≤1000000000):0≤w64 (x+1)∧w64 (x+1)≤x+1:=by
 rw[w64_eq (by omega) (by omega)];omega
theorem cm_st {t:Cm} (h0:0≤w.st) (h1:w.st≤1000000000):0≤(t.step w).2.st∧(t.step w).2.st≤w.st+1:=by
 unfold Cm.step
 split
 ·exact⟨h0,by show w.st≤_;omega⟩
 ·split<;>exact st1 h0 h1
theorem uo_st {t:Uo} (h0:0≤w.st) (h1:w.st≤1000000000):0≤(t.step w).2.st∧(t.step w).2.st≤w.st+1:=by
 unfold Uo.step
 split
 ·exact⟨h0,by show w.st≤_;omega⟩
 ·split
  ·split<;>exact st1 h0 h1
  ·exact st1 h0 h1
theorem rv_st {v:Rv} (hw:v.wf) (hd:v.dn=false) (h0:0≤w.st) (h1:w.st≤1000000000):0≤(v.step w).2.st∧(v.step w).2.st≤w.st+1:=by
 rw[Rv.step_stx hw hd];exact st1 h0 h1
theorem KI.st (h:KI s ws0 c a n f w j) (h0:0≤w.st) (h1:w.st≤1000000000):0≤(j.step s c w).2.st∧(j.step s c w).2.st≤w.st+1:=by
 cases h with
 | off h=>exact⟨h0,by show w.st≤_;omega⟩
 | @tk v wf ofs hd h=>exact rv_st wf hd h0 h1
 | @cm b hb hz h hr=>exact cm_st h0 h1
 | @gv t hd h=>have:=Gv.step_st (w:=w) h.wf.1 h0 h1;exact⟨by show 0≤(t.step w).2.st;omega,this.2⟩
 | @re t hd h=>
  show 0≤(t.step w).2.st∧(t.step w).2.st≤w.st+1
  have e:(t.step w).2=(t.acc w).2:=by unfold Re.step;rw[if_neg (by rw[hd];decide)]
  rw[e]
  unfold Re.acc
  cases rd:t.rv.dn
  ·rw[if_neg (by decide)];exact rv_st h.wf.rw rd h0 h1
  ·rw[if_pos rfl]
   cases gd:t.gv.dn
   ·rw[if_neg (by decide)];have:=Gv.step_st (w:=w) h.wf.gw h0 h1;exact⟨by show 0≤(t.gv.step w).2.st;omega,this.2⟩
   ·rw[if_pos rfl]
    cases hm:t.md with
    | no=>exact⟨h0,by show w.st≤_;omega⟩
    | uo u=>exact uo_st h0 h1
    | cm m=>exact cm_st h0 h1
theorem rv_new_dn (hm:may s.p s.c s.m=true) (c0:0≤c) (c1:c<s.c) (f0:0≤f) (f1:f<s.p) (h:fine n=true) (hl:large n=true→pages n≤s.p):(Rv.new s c n f).dn=false:=by
 unfold Rv.new
 cases e1:small n
 ·simp only[Bool.false_eq_true,if_false]
  have e2:large n=true:=by unfold fine at h;rw[e1]at h;exact h
  have hp:=Rv.pages_bd e2
  have hl':=hl e2
  rw[e2]
  have hok:Rn.ok s c (pages n)=true:=by
   unfold Rn.ok
   rw[status_yes hm c0 c1,decide_eq_true c0,decide_eq_true hp.1,decide_eq_true hp.2,decide_eq_true hl'];rfl
  show(!Rn.ok s c (pages n))=false
  rw[hok];rfl
 ·simp only[if_true]
  have hk:=Rv.cls_bd n
  have hsl:=slots_four hk.1 hk.2
  have hg:(good s c (cls n) && decide (0≤page s.p s.c s.m f))=true:=by
   have hb:=(may_iff _ _ _).1 hm
   unfold good
   rw[status_yes hm c0 c1,page_yes hm f0 f1,decide_eq_true c0,decide_eq_true (by omega:0<slots (cls n)),decide_eq_true (by omega:0≤s.c+f)];rfl
  show(Sk.new s c (cls n) f).dn=false
  unfold Sk.new
  rw[if_pos hg]
  cases hd:(Tk.new s c (cls n)).dn
  ·rw[Sa.set_go _ (by exact hd)]
  ·rw[Sa.set_af _ (by exact hd)];rfl
theorem KI.tk0 (hm:may s.p s.c s.m=true) (hw:w.of s) (c0:0≤c) (c1:c<s.c) (f0:0≤f) (f1:f<s.p) (hs:Snd s w.ws) (h:fine n=true) (hl:large n=true→pages n≤s.p):KI s w.ws c a n f w (.tk (Rv.new s c n f)):=
 .tk (Rv.new_wf ..) (Rv.new_of ..) (rv_new_dn hm c0 c1 f0 f1 h hl) (Rv.Al.init hm hw c0 c1 f0 f1 hs)
theorem KI.gv0 (hm:may s.p s.c s.m=true) (hw:w.of s) (c0:0≤c) (c1:c<s.c) (hs:Snd s w.ws) (h:there s.p s.c s.m a=true):KI s w.ws c a n f w (.gv (Gv.new s c a)):=
 .gv (by
  show(!there s.p s.c s.m a || decide (status s.p s.c s.m c<0))=false
  rw[h,status_yes hm c0 c1,decide_eq_false (by omega)];rfl) (Gv.Al.init hm hw c0 c1 hs)
theorem KI.re0 (hm:may s.p s.c s.m=true) (hw:w.of s) (c0:0≤c) (c1:c<s.c) (f0:0≤f) (f1:f<s.p) (hs:Snd s w.ws) (h:Re.ok s c a n=true) (hl:large n=true→pages n≤s.p):KI s w.ws c a n f w (.re (Re.new s c a n f)):=by
 have hf:fine n=true:=by unfold Re.ok at h;simp only[Bool.and_eq_true]at h;exact h.1.2
 have rd:=rv_new_dn hm c0 c1 f0 f1 hf hl
 refine .re ?_ (Re.Al.init hm hw c0 c1 f0 f1 hs h)
 have e:Re.new s c a n f=(Re.raw s c a n f).go:=if_pos h
 rw[e]
 unfold Re.go Re.raw
 simp only[rd,Bool.false_eq_true,if_false]
end Jb
end Go.Ma
