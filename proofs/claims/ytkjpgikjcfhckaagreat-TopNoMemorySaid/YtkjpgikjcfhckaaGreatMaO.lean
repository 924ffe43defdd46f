/-
Who has what, of many: the words of a heap in which each page is whose it says; a step of one, as the others see it. Conditions: none.
-/
import Derived.Test.YtkjpgikjcfhckaaGreatMaB
set_option linter.unusedVariables false
set_option linter.unusedSectionVars false
set_option linter.unusedSimpArgs false
namespace Go.Ma
open Go.Pl
namespace Ow

def Sup (s:Sh) (k x:Int):Prop:=0≤k∧k≤3∧∃ b,0≤b∧b<s.c∧x=2+16*k+4096*b
def Sl (s:Sh) (k i y:Int):Prop:=(i<slots k∧(y=1+16*k∨y=3+16*k∨∃ c,0≤c∧c<s.c∧y=2+16*c))∨(slots k≤i∧y=0)
section
variable (s:Sh) (ws:Nat→Int)
inductive Pg (q:Int):Prop
 | e (h:pgAt s ws q=0) (z:∀ i,0≤i→i<16→slAt s ws q i=0)
 | h (c:Int) (c0:0≤c) (c1:c<s.c) (h:pgAt s ws q=1+16*c) (z:∀ i,0≤i→i<16→slAt s ws q i=0∨slAt s ws q i=2+16*c)
 | s (k:Int) (h:Sup s k (pgAt s ws q)) (z:∀ i,0≤i→i<16→Sl s k i (slAt s ws q i))
 | l (n:Int) (n1:1≤n) (n8:n≤8) (nq:q+n≤s.p) (h:pgAt s ws q=3+16*n) (z:∀ i,0≤i→i<16→slAt s ws q i=0) (b:∀ j,1≤j→j<n→pgAt s ws (q+j)=4+16*q)
 | b (h:Int) (h0:0≤h) (h1:h<q) (h2:q<h+8) (e:pgAt s ws q=4+16*h) (z:∀ i,0≤i→i<16→slAt s ws q i=0)
   (w:(∃ c,0≤c∧c<s.c∧pgAt s ws h=1+16*c)∨∃ n,1≤n∧n≤8∧q<h+n∧pgAt s ws h=3+16*n)
def En (c x p i k:Int):Prop:=0≤p∧p<s.p∧0≤i∧i<slots k∧x=1+16*p+4096*i+1048576*k∧Sup s k (pgAt s ws p)∧slAt s ws p i=2+16*c
structure Bs:Prop where
 pg:∀ q,0≤q→q<s.p→Pg s ws q
 mg:∀ c j,0≤c→c<s.c→0≤j→j<s.m→mgAt s ws c j≠0→∃ p i k,En s ws c (mgAt s ws c j) p i k
 uq:∀ c j j',0≤c→c<s.c→0≤j→j<s.m→0≤j'→j'<s.m→mgAt s ws c j≠0→mgAt s ws c j=mgAt s ws c j'→j=j'
def InM (c q i:Int):Prop:=∃ j k,0≤j∧j<s.m∧0≤k∧k≤3∧mgAt s ws c j=1+16*q+4096*i+1048576*k
end

section
variable {s:Sh} {ws ws':Nat→Int}
theorem Sup.bd {k x:Int} (h:Sup s k x):0≤k∧k≤3:=⟨h.1,h.2.1⟩
theorem Sup.mod {k x:Int} (h:Sup s k x):x % 16=2:=by
 obtain⟨h0,h1,b,b0,b1,e⟩:=h;omega
theorem Sup.inj {k k' x:Int} (hc:s.c≤12) (h:Sup s k x) (h':Sup s k' x):k=k':=by
 obtain⟨h0,h1,b,b0,b1,e⟩:=h
 obtain⟨h0',h1',b',b0',b1',e'⟩:=h'
 omega
theorem Pg.tr {q:Int} (h:Pg s ws q) (hp:pgAt s ws' q=pgAt s ws q) (hs:∀ i,0≤i→i<16→slAt s ws' q i=slAt s ws q i)
  (hl:∀ n j,1≤n→n≤8→q+n≤s.p→pgAt s ws q=3+16*n→1≤j→j<n→pgAt s ws' (q+j)=pgAt s ws (q+j))
  (hb:∀ h,0≤h→h<q→q<h+8→pgAt s ws q=4+16*h→pgAt s ws' h=pgAt s ws h∨(∃ c,0≤c∧c<s.c∧pgAt s ws' h=1+16*c)∨∃ n,1≤n∧n≤8∧q<h+n∧pgAt s ws' h=3+16*n):Pg s ws' q:=by
 cases h with
 | e h z=>exact .e (hp.trans h) fun i i0 i1=>(hs i i0 i1).trans (z i i0 i1)
 | h c c0 c1 h z=>exact .h c c0 c1 (hp.trans h) fun i i0 i1=>by rw[hs i i0 i1];exact z i i0 i1
 | s k h z=>exact .s k (by rw[hp];exact h) fun i i0 i1=>by rw[hs i i0 i1];exact z i i0 i1
 | l n n1 n8 nq h z b=>exact .l n n1 n8 nq (hp.trans h) (fun i i0 i1=>(hs i i0 i1).trans (z i i0 i1)) fun j j1 jn=>(hl n j n1 n8 nq h j1 jn).trans (b j j1 jn)
 |b h h0 h1 h2 e z w=>
  refine .b h h0 h1 h2 (hp.trans e) (fun i i0 i1=>(hs i i0 i1).trans (z i i0 i1)) ?_
  rcases hb h h0 h1 h2 e with g | g | g
  ·rw[g];exact w
  ·exact .inl g
  ·exact .inr g
theorem Pg.word {q:Int} (hc:s.c≤12) (h:Pg s ws q):pgAt s ws q=0∨(∃ c,0≤c∧c<s.c∧pgAt s ws q=1+16*c)∨(∃ k,Sup s k (pgAt s ws q))∨(∃ n,1≤n∧n≤8∧q+n≤s.p∧pgAt s ws q=3+16*n)∨∃ h,0≤h∧h<q∧q<h+8∧pgAt s ws q=4+16*h:=by
 cases h with
 | e h z=>exact .inl h
 | h c c0 c1 h z=>exact .inr (.inl ⟨c,c0,c1,h⟩)
 | s k h z=>exact .inr (.inr (.inl ⟨k,h⟩))
 | l n n1 n8 nq h z b=>exact .inr (.inr (.inr (.inl ⟨n,n1,n8,nq,h⟩)))
 | b h h0 h1 h2 e z w=>exact .inr (.inr (.inr (.inr ⟨h,h0,h1,h2,e⟩)))
theorem Pg.sup {q k:Int} (hc:s.c≤12) (h:Pg s ws q) (hk:Sup s k (pgAt s ws q)):∀ i,0≤i→i<16→Sl s k i (slAt s ws q i):=by
 have hm:=hk.mod
 cases h with
 | e h z=>omega
 | h c c0 c1 h z=>omega
 | s k' h z=>have:=Sup.inj hc h hk;subst this;exact z
 | l n n1 n8 nq h z b=>omega
 | b h h0 h1 h2 e z w=>omega
theorem Pg.open {q i k:Int} (hc:s.c≤12) (k0:0≤k) (k3:k≤3) (h:Pg s ws q) (i0:0≤i) (i1:i<16) (hk:slAt s ws q i=1+16*k∨slAt s ws q i=3+16*k):Sup s k (pgAt s ws q)∧i<slots k:=by
 cases h with
 | e h z=>have:=z i i0 i1;omega
 | h c c0 c1 h z=>have:=z i i0 i1;omega
 |s k' h z=>
  have hb:=h.bd
  rcases z i i0 i1 with⟨g,g1 | g1 |⟨c,c0,c1,g1⟩⟩|⟨g,g1⟩
  ·have:k=k':=by omega
   subst this;exact⟨h,g⟩
  ·have:k=k':=by omega
   subst this;exact⟨h,g⟩
  ·omega
  ·omega
 | l n n1 n8 nq h z b=>have:=z i i0 i1;omega
 | b h h0 h1 h2 e z w=>have:=z i i0 i1;omega

/-! ### A page's word is written -/
theorem Bs.page (hm:may s.p s.c s.m=true) (h:Bs s ws) {q y:Int} (q0:0≤q) (q1:q<s.p) (hn:Pg s (upW ws (page s.p s.c s.m q) y) q)
  (hb:∀ q',0≤q'→q'<s.p→q<q'→q'<q+8→pgAt s ws q'=4+16*q→(∃ c,0≤c∧c<s.c∧y=1+16*c)∨∃ n,1≤n∧n≤8∧q'<q+n∧y=3+16*n)
  (hl:∀ h,0≤h→h<q→q<h+8→pgAt s ws q=4+16*h→y=4+16*h∨∃ c,pgAt s ws h=1+16*c)
  (hs:∀ c j i k,0≤c→c<s.c→0≤j→j<s.m→En s ws c (mgAt s ws c j) q i k→Sup s k y):Bs s (upW ws (page s.p s.c s.m q) y):=by
 have hB:=(may_iff _ _ _).1 hm
 have hP:∀ q',0≤q'→q'<s.p→pgAt s (upW ws (Go.Pl.page s.p s.c s.m q) y) q'=if q'=q then y else pgAt s ws q':=fun q' a b=>pg_pg hm q0 q1 a b
 have hS:∀ q' i,0≤q'→0≤i→slAt s (upW ws (Go.Pl.page s.p s.c s.m q) y) q' i=slAt s ws q' i:=fun q' i a b=>sl_pg hm q0 q1 a b
 have hM:∀ c j,0≤c→0≤j→mgAt s (upW ws (Go.Pl.page s.p s.c s.m q) y) c j=mgAt s ws c j:=fun c j a b=>mg_pg hm q0 q1 a b
 refine⟨fun q' a b=>?_,fun c j c0 c1 j0 j1 hx=>?_,fun c j j' c0 c1 j0 j1 j0' j1' hx he=>?_⟩
 ·by_cases e:q'=q
  ·rw[e];exact hn
  have hq:=h.pg q' a b
  refine hq.tr (by rw[hP q' a b,if_neg e]) (fun i i0 i1=>hS q' i a i0) (fun n j n1 n8 nq hw j1 jn=>?_) fun h' h0 h1 h2 hw=>?_
  ·rw[hP _ (by omega) (by omega)]
   split
   ·rename_i e2
    have hbd:pgAt s ws q=4+16*q':=by
     rw[← e2]
     cases hq with
     | l n' n1' n8' nq' h' z b'=>exact b' j j1 (by omega)
     | e h' z=>omega
     | h c c0 c1 h' z=>omega
     | s k h' z=>have:=h'.mod;omega
     | b h' h0 h1 h2 e' z w=>omega
    rcases hl q' a (by omega) (by omega) hbd with g |⟨c,g⟩
    ·rw[e2,hbd];exact g
    ·omega
   ·rfl
  ·rw[hP h' h0 (by omega)]
   split
   ·rename_i e2
    subst e2
    exact .inr (hb q' a b (by omega) (by omega) hw)
   ·exact .inl rfl
 ·rw[hM c j c0 j0]at hx ⊢
  obtain⟨p,i,k,g1,g2,g3,g4,g5,g6,g7⟩:=h.mg c j c0 c1 j0 j1 hx
  refine⟨p,i,k,g1,g2,g3,g4,g5,?_,by rw[hS p i g1 g3];exact g7⟩
  rw[hP p g1 g2]
  split
  ·rename_i e2;subst e2;exact hs c j i k c0 c1 j0 j1 ⟨g1,g2,g3,g4,g5,g6,g7⟩
  ·exact g6
 ·rw[hM c j c0 j0]at hx he
  rw[hM c j' c0 j0']at he
  exact h.uq c j j' c0 c1 j0 j1 j0' j1' hx he
theorem Bs.slot (hm:may s.p s.c s.m=true) (h:Bs s ws) {q i y:Int} (q0:0≤q) (q1:q<s.p) (i0:0≤i) (i1:i<16)
  (hh:∀ c,pgAt s ws q=1+16*c→y=0∨y=2+16*c) (hk:∀ k,Sup s k (pgAt s ws q)→Sl s k i y) (hz:(∃ c,0≤c∧c<s.c∧pgAt s ws q=1+16*c)∨∃ k,Sup s k (pgAt s ws q))
  (hs:∀ c j k,0≤c→c<s.c→0≤j→j<s.m→mgAt s ws c j=1+16*q+4096*i+1048576*k→Sup s k (pgAt s ws q)→slAt s ws q i=2+16*c→False):Bs s (upW ws (slot s.p s.c s.m q i) y):=by
 have hB:=(may_iff _ _ _).1 hm
 have hP:∀ q',0≤q'→q'<s.p→pgAt s (upW ws (Go.Pl.slot s.p s.c s.m q i) y) q'=pgAt s ws q':=fun q' a b=>pg_sl hm q0 q1 i0 i1 a b
 have hS:∀ q' i',0≤q'→0≤i'→i'<16→slAt s (upW ws (Go.Pl.slot s.p s.c s.m q i) y) q' i'=if q'=q∧i'=i then y else slAt s ws q' i':=fun q' i' a b c=>sl_sl hm q0 q1 i0 i1 a b c
 have hM:∀ c j,0≤c→0≤j→mgAt s (upW ws (Go.Pl.slot s.p s.c s.m q i) y) c j=mgAt s ws c j:=fun c j a b=>mg_sl hm q0 q1 i0 i1 a b
 refine⟨fun q' a b=>?_,fun c j c0 c1 j0 j1 hx=>?_,fun c j j' c0 c1 j0 j1 j0' j1' hx he=>?_⟩
 ·have hq:=h.pg q' a b
  by_cases e:q'=q
  ·subst e
   cases hq with
   |e h z=>
    rcases hz with⟨c,-,-,g⟩|⟨k,g⟩
    ·omega
    ·have:=g.mod;omega
   |h c c0 c1 h z=>
    refine .h c c0 c1 ((hP q' a b).trans h) fun j j0 j1=>?_
    rw[hS q' j a j0 j1]
    split
    ·exact hh c h
    ·exact z j j0 j1
   |s k h z=>
    refine .s k (by rw[hP q' a b];exact h) fun j j0 j1=>?_
    rw[hS q' j a j0 j1]
    split
    ·rename_i e2;rw[e2.2];exact hk k h
    ·exact z j j0 j1
   |l n n1 n8 nq h z b'=>
    rcases hz with⟨c,-,-,g⟩|⟨k,g⟩
    ·omega
    ·have:=g.mod;omega
   |b h' h0 h1 h2 e z w=>
    rcases hz with⟨c,-,-,g⟩|⟨k,g⟩
    ·omega
    ·have:=g.mod;omega
  ·exact hq.tr (hP q' a b) (fun j j0 j1=>by rw[hS q' j a j0 j1,if_neg fun g=>e g.1]) (fun n j n1 n8 nq hw j1 jn=>hP _ (by omega) (by omega)) fun h' h0 h1 h2 hw=>.inl (hP h' h0 (by omega))
 ·rw[hM c j c0 j0]at hx ⊢
  obtain⟨p,i',k,g1,g2,g3,g4,g5,g6,g7⟩:=h.mg c j c0 c1 j0 j1 hx
  have h16:i'<16:=by have:=slots_bd k;omega
  refine⟨p,i',k,g1,g2,g3,g4,g5,by rw[hP p g1 g2];exact g6,?_⟩
  rw[hS p i' g1 g3 h16]
  split
  ·rename_i e2;obtain⟨rfl,rfl⟩:=e2;exact absurd g7 (fun g=>hs c j k c0 c1 j0 j1 g5 g6 g)
  ·exact g7
 ·rw[hM c j c0 j0]at hx he
  rw[hM c j' c0 j0']at he
  exact h.uq c j j' c0 c1 j0 j1 j0' j1' hx he
theorem Bs.mag (hm:may s.p s.c s.m=true) (h:Bs s ws) {c j y:Int} (c0:0≤c) (c1:c<s.c) (j0:0≤j) (j1:j<s.m)
  (hy:y=0∨((∃ p i k,En s ws c y p i k)∧∀ j',0≤j'→j'<s.m→mgAt s ws c j'≠y)):Bs s (upW ws (mag s.p s.c s.m c j) y):=by
 have hP:∀ q',0≤q'→q'<s.p→pgAt s (upW ws (Go.Pl.mag s.p s.c s.m c j) y) q'=pgAt s ws q':=fun q' a b=>pg_mg hm c0 c1 j0 j1 a b
 have hS:∀ q' i',0≤q'→q'<s.p→0≤i'→i'<16→slAt s (upW ws (Go.Pl.mag s.p s.c s.m c j) y) q' i'=slAt s ws q' i':=fun q' i' a b d e=>sl_mg hm c0 c1 j0 j1 a b d e
 have hM:∀ c' j',0≤c'→0≤j'→j'<s.m→mgAt s (upW ws (Go.Pl.mag s.p s.c s.m c j) y) c' j'=if c'=c∧j'=j then y else mgAt s ws c' j':=fun c' j' a b d=>mg_mg hm c0 c1 j0 j1 a b d
 have tr:∀ c' x p i k,En s ws c' x p i k→En s (upW ws (Go.Pl.mag s.p s.c s.m c j) y) c' x p i k:=fun c' x p i k ⟨g1,g2,g3,g4,g5,g6,g7⟩=>
  ⟨g1,g2,g3,g4,g5,by rw[hP p g1 g2];exact g6,by rw[hS p i g1 g2 g3 (by have:=slots_bd k;omega)];exact g7⟩
 refine⟨fun q' a b=>?_,fun c' j' a0 a1 b0 b1 hx=>?_,fun c' j' j'' a0 a1 b0 b1 d0 d1 hx he=>?_⟩
 ·exact(h.pg q' a b).tr (hP q' a b) (fun i i0 i1=>hS q' i a b i0 i1) (fun n j' n1 n8 nq hw j1' jn=>hP _ (by omega) (by omega)) fun h' h0 h1 h2 hw=>.inl (hP h' h0 (by omega))
 ·rw[hM c' j' a0 b0 b1]at hx ⊢
  by_cases e:c'=c∧j'=j
  ·rw[if_pos e]at hx ⊢
   rcases hy with g |⟨⟨p,i,k,g⟩,-⟩
   ·exact absurd g hx
   ·rw[e.1];exact⟨p,i,k,tr _ _ _ _ _ g⟩
  ·rw[if_neg e]at hx ⊢
   obtain⟨p,i,k,g⟩:=h.mg c' j' a0 a1 b0 b1 hx
   exact⟨p,i,k,tr _ _ _ _ _ g⟩
 ·rw[hM c' j' a0 b0 b1]at hx he
  rw[hM c' j'' a0 d0 d1]at he
  by_cases e:c'=c∧j'=j<;>by_cases e2:c'=c∧j''=j
  ·omega
  ·rw[if_pos e,if_neg e2]at he
   rw[if_pos e]at hx
   rcases hy with g |⟨-,g⟩
   ·exact absurd g hx
   ·exact absurd (by rw[← e.1];exact he.symm) (g j'' d0 d1)
  ·rw[if_neg e,if_pos e2]at he
   rw[if_neg e]at hx
   rcases hy with g |⟨-,g⟩
   ·rw[g]at he;exact absurd he hx
   ·exact absurd (by rw[← e2.1];exact he) (g j' b0 b1)
  ·rw[if_neg e,if_neg e2]at he
   rw[if_neg e]at hx
   exact h.uq c' j' j'' a0 a1 b0 b1 d0 d1 hx he
theorem Bs.zero (hz:∀ j,ws j=0):Bs s ws:=
 ⟨fun q _ _=>.e (hz _) fun i _ _=>hz _,fun c j _ _ _ _ hx=>absurd (hz _) hx,fun c j j' _ _ _ _ _ _ hx _=>absurd (hz _) hx⟩
end

/-! ### Who has what -/
structure Ho where
 hp:Int→Prop
 hb:Int→Int→Prop
 hs:Int→Int→Prop
structure Own (s:Sh) (ws:Nat→Int) (c:Int) (o:Ho):Prop where
 pg:∀ q,0≤q→q<s.p→(pgAt s ws q=1+16*c↔o.hp q)
 bd:∀ q h,0≤q→q<s.p→0≤h→h<s.p→((pgAt s ws q=4+16*h∧pgAt s ws h=1+16*c)↔o.hb q h)
 sl:∀ q i,0≤q→q<s.p→0≤i→i<16→(((∃ k,Sup s k (pgAt s ws q))∧slAt s ws q i=2+16*c)↔(o.hs q i∨InM s ws c q i))
 dj:∀ q i,0≤q→q<s.p→0≤i→i<16→o.hs q i→¬ InM s ws c q i
structure Rel (s:Sh) (c:Int) (ws ws':Nat→Int):Prop where
 pg:∀ q,0≤q→q<s.p→(pgAt s ws' q=1+16*c↔pgAt s ws q=1+16*c)
 hs:∀ q i,0≤q→q<s.p→0≤i→i<16→pgAt s ws q=1+16*c→slAt s ws' q i=slAt s ws q i
 bd:∀ q h,0≤q→q<s.p→0≤h→h<s.p→pgAt s ws h=1+16*c→(pgAt s ws' q=4+16*h↔pgAt s ws q=4+16*h)
 sl:∀ q i,0≤q→q<s.p→0≤i→i<16→(((∃ k,Sup s k (pgAt s ws' q))∧slAt s ws' q i=2+16*c)↔((∃ k,Sup s k (pgAt s ws q))∧slAt s ws q i=2+16*c))
 sp:∀ q i,0≤q→q<s.p→0≤i→i<16→(∃ k,Sup s k (pgAt s ws q))→slAt s ws q i=2+16*c→pgAt s ws' q=pgAt s ws q
 mg:∀ j,0≤j→j<s.m→mgAt s ws' c j=mgAt s ws c j
theorem InM.congr {s:Sh} {ws ws':Nat→Int} {c q i:Int} (h:∀ j,0≤j→j<s.m→mgAt s ws' c j=mgAt s ws c j):InM s ws' c q i↔InM s ws c q i:=by
 constructor
 ·rintro⟨j,k,j0,j1,k0,k1,e⟩;exact⟨j,k,j0,j1,k0,k1,by rw[← h j j0 j1];exact e⟩
 ·rintro⟨j,k,j0,j1,k0,k1,e⟩;exact⟨j,k,j0,j1,k0,k1,by rw[h j j0 j1];exact e⟩
theorem Rel.refl (s:Sh) (c:Int) (ws:Nat→Int):Rel s c ws ws:=
 ⟨fun _ _ _=>Iff.rfl,fun _ _ _ _ _ _ _=>rfl,fun _ _ _ _ _ _ _=>Iff.rfl,fun _ _ _ _ _ _=>Iff.rfl,fun _ _ _ _ _ _ _ _=>rfl,fun _ _ _=>rfl⟩
theorem Own.rel {s:Sh} {ws ws':Nat→Int} {c:Int} {o:Ho} (h:Own s ws c o) (r:Rel s c ws ws'):Own s ws' c o:=by
 refine⟨fun q a b=>(r.pg q a b).trans (h.pg q a b),fun q h' a b a' b'=>?_,fun q i a b i0 i1=>?_,fun q i a b i0 i1 hx=>?_⟩
 ·rw[← h.bd q h' a b a' b',r.pg h' a' b']
  constructor
  ·rintro⟨x,y⟩;exact⟨(r.bd q h' a b a' b' y).1 x,y⟩
  ·rintro⟨x,y⟩;exact⟨(r.bd q h' a b a' b' y).2 x,y⟩
 ·rw[InM.congr r.mg,← h.sl q i a b i0 i1];exact r.sl q i a b i0 i1
 ·rw[InM.congr r.mg];exact h.dj q i a b i0 i1 hx
structure Mw (s:Sh) (c:Int) (ws ws':Nat→Int):Prop where
 pg:∀ q,0≤q→q<s.p→pgAt s ws' q≠pgAt s ws q→pgAt s ws q=1+16*c∨(pgAt s ws' q=0∧∃ h,0≤h∧h<s.p∧pgAt s ws q=4+16*h∧pgAt s ws h=1+16*c) ∨
  (pgAt s ws' q=1+16*c∧(pgAt s ws q=0∨(∃ n,pgAt s ws q=3+16*n)∨∃ k,Sup s k (pgAt s ws q)∧∀ i,0≤i→i<slots k→slAt s ws q i=2+16*c))
 sl:∀ q i,0≤q→q<s.p→0≤i→i<16→slAt s ws' q i≠slAt s ws q i→pgAt s ws q=1+16*c∨∃ k,Sup s k (pgAt s ws q) ∧
  ((slAt s ws q i=2+16*c∧(slAt s ws' q i=1+16*k∨slAt s ws' q i=3+16*k))∨(slAt s ws' q i=2+16*c∧(slAt s ws q i=1+16*k∨slAt s ws q i=3+16*k)))
 mg:∀ c' j,0≤c'→c'<s.c→0≤j→j<s.m→mgAt s ws' c' j≠mgAt s ws c' j→c'=c
 st:∀ d,0≤d→d<s.c→ws' d.toNat=ws d.toNat
theorem Mw.refl (s:Sh) (c:Int) (ws:Nat→Int):Mw s c ws ws:=⟨fun _ _ _ g=>absurd rfl g,fun _ _ _ _ _ _ g=>absurd rfl g,fun _ _ _ _ _ _ g=>absurd rfl g,fun _ _ _=>rfl⟩
section
variable {s:Sh} {ws:Nat→Int} {c q y:Int}
theorem Mw.page (hm:may s.p s.c s.m=true) (q0:0≤q) (q1:q<s.p) (hy:pgAt s ws q=1+16*c∨(y=0∧∃ h,0≤h∧h<s.p∧pgAt s ws q=4+16*h∧pgAt s ws h=1+16*c) ∨
  (y=1+16*c∧(pgAt s ws q=0∨(∃ n,pgAt s ws q=3+16*n)∨∃ k,Sup s k (pgAt s ws q)∧∀ i,0≤i→i<slots k→slAt s ws q i=2+16*c))):Mw s c ws (upW ws (page s.p s.c s.m q) y):=by
 refine⟨fun x a b g=>?_,fun x i a b i0 i1 g=>absurd (sl_pg hm q0 q1 a i0) g,fun c' j a b j0 j1 g=>absurd (mg_pg hm q0 q1 a j0) g,fun d d0 d1=>st_far hm d0 d1 ?_⟩
 ·rw[pg_pg hm q0 q1 a b]at g ⊢
  by_cases e:x=q
  ·rw[if_pos e];subst e;exact hy
  ·rw[if_neg e]at g;exact absurd rfl g
 ·rw[page_yes hm q0 q1];omega
theorem Mw.slot (hm:may s.p s.c s.m=true) (q0:0≤q) (q1:q<s.p) {i:Int} (i0:0≤i) (i1:i<16) (hy:pgAt s ws q=1+16*c∨∃ k,Sup s k (pgAt s ws q) ∧
  ((slAt s ws q i=2+16*c∧(y=1+16*k∨y=3+16*k))∨(y=2+16*c∧(slAt s ws q i=1+16*k∨slAt s ws q i=3+16*k)))):Mw s c ws (upW ws (slot s.p s.c s.m q i) y):=by
 refine⟨fun x a b g=>absurd (pg_sl hm q0 q1 i0 i1 a b) g,fun x j a b j0 j1 g=>?_,fun c' j a b j0 j1 g=>absurd (mg_sl hm q0 q1 i0 i1 a j0) g,fun d d0 d1=>st_far hm d0 d1 ?_⟩
 ·rw[sl_sl hm q0 q1 i0 i1 a j0 j1]at g ⊢
  by_cases e:x=q∧j=i
  ·rw[if_pos e];obtain⟨rfl,rfl⟩:=e;exact hy
  ·rw[if_neg e]at g;exact absurd rfl g
 ·have hb:=(may_iff _ _ _).1 hm
  rw[slot_yes hm q0 q1 i0 i1];omega
theorem Mw.mag (hm:may s.p s.c s.m=true) (c0:0≤c) (c1:c<s.c) {j:Int} (j0:0≤j) (j1:j<s.m):Mw s c ws (upW ws (mag s.p s.c s.m c j) y):=by
 refine⟨fun x a b g=>absurd (pg_mg hm c0 c1 j0 j1 a b) g,fun x i a b i0 i1 g=>absurd (sl_mg hm c0 c1 j0 j1 a b i0 i1) g,fun c' i a b i0 i1 g=>?_,fun d d0 d1=>st_far hm d0 d1 ?_⟩
 ·rw[mg_mg hm c0 c1 j0 j1 a i0 i1]at g
  by_cases e:c'=c∧i=j
  ·exact e.1
  ·rw[if_neg e]at g;exact absurd rfl g
 ·have hb:=(may_iff _ _ _).1 hm
  have:=Int.mul_nonneg c0 (by omega:0≤s.m)
  rw[mag_yes hm c0 c1 j0 j1];omega
end
structure Nx0 (s:Sh) (c:Int) (ws ws':Nat→Int) (o:Ho):Prop where
 bs:Bs s ws'
 ow:Own s ws' c o
 re:∀ c',0≤c'→c'<s.c→c'≠c→Rel s c' ws ws'
structure Nx (s:Sh) (c:Int) (ws ws':Nat→Int) (o:Ho):Prop extends Nx0 s c ws ws' o where
 mw:Mw s c ws ws'
section
variable {s:Sh} {ws:Nat→Int} {c q y:Int} {o o':Ho}
theorem Nx.id (h:Bs s ws) (ho:Own s ws c o):Nx s c ws ws o:=⟨⟨h,ho,fun c' _ _ _=>Rel.refl s c' ws⟩,Mw.refl s c ws⟩
theorem Rel.page (hm:may s.p s.c s.m=true) (q0:0≤q) (q1:q<s.p) {c':Int} (c0:0≤c') (h1:pgAt s ws q≠1+16*c') (h2:y≠1+16*c')
  (h3:∀ i,0≤i→i<16→slAt s ws q i=2+16*c'→(∀ k,¬ Sup s k (pgAt s ws q))∧∀ k,¬ Sup s k y)
  (h4:∀ h,0≤h→h<s.p→pgAt s ws h=1+16*c'→(y=4+16*h↔pgAt s ws q=4+16*h)):Rel s c' ws (upW ws (page s.p s.c s.m q) y):=by
 have hP:∀ q',0≤q'→q'<s.p→pgAt s (upW ws (Go.Pl.page s.p s.c s.m q) y) q'=if q'=q then y else pgAt s ws q':=fun q' a b=>pg_pg hm q0 q1 a b
 have hS:∀ q' i,0≤q'→0≤i→slAt s (upW ws (Go.Pl.page s.p s.c s.m q) y) q' i=slAt s ws q' i:=fun q' i a b=>sl_pg hm q0 q1 a b
 have hM:∀ c j,0≤c→0≤j→mgAt s (upW ws (Go.Pl.page s.p s.c s.m q) y) c j=mgAt s ws c j:=fun c j a b=>mg_pg hm q0 q1 a b
 refine⟨fun q' a b=>?_,fun q' i a b i0 i1 _=>hS q' i a i0,fun q' h a b a' b' hh=>?_,fun q' i a b i0 i1=>?_,fun q' i a b i0 i1 hk hw=>?_,fun j j0 j1=>hM c' j c0 j0⟩
 ·rw[hP q' a b];split
  ·rename_i e;rw[e];exact⟨fun g=>absurd g h2,fun g=>absurd g h1⟩
  ·exact Iff.rfl
 ·rw[hP q' a b];split
  ·rename_i e;rw[e];exact h4 h a' b' hh
  ·exact Iff.rfl
 ·rw[hP q' a b,hS q' i a i0];split
  ·rename_i e
   rw[e]
   constructor
   ·rintro⟨⟨k,g⟩,g2⟩;exact absurd g ((h3 i i0 i1 g2).2 k)
   ·rintro⟨⟨k,g⟩,g2⟩;exact absurd g ((h3 i i0 i1 g2).1 k)
  ·exact Iff.rfl
 ·rw[hP q' a b];split
  ·rename_i e;rw[e]at hw hk;obtain⟨k,hk⟩:=hk;exact absurd hk ((h3 i i0 i1 hw).1 k)
  ·rfl
theorem Rel.slot (hm:may s.p s.c s.m=true) (q0:0≤q) (q1:q<s.p) {c' i:Int} (i0:0≤i) (i1:i<16) (c0:0≤c') (h1:pgAt s ws q≠1+16*c')
  (h2:(∃ k,Sup s k (pgAt s ws q))→slAt s ws q i≠2+16*c'∧y≠2+16*c'):Rel s c' ws (upW ws (slot s.p s.c s.m q i) y):=by
 have hP:∀ q',0≤q'→q'<s.p→pgAt s (upW ws (Go.Pl.slot s.p s.c s.m q i) y) q'=pgAt s ws q':=fun q' a b=>pg_sl hm q0 q1 i0 i1 a b
 have hS:∀ q' i',0≤q'→0≤i'→i'<16→slAt s (upW ws (Go.Pl.slot s.p s.c s.m q i) y) q' i'=if q'=q∧i'=i then y else slAt s ws q' i':=fun q' i' a b c=>sl_sl hm q0 q1 i0 i1 a b c
 have hM:∀ c j,0≤c→0≤j→mgAt s (upW ws (Go.Pl.slot s.p s.c s.m q i) y) c j=mgAt s ws c j:=fun c j a b=>mg_sl hm q0 q1 i0 i1 a b
 refine⟨fun q' a b=>by rw[hP q' a b],fun q' i' a b a0 a1 hh=>?_,fun q' h a b a' b' hh=>by rw[hP q' a b],fun q' i' a b a0 a1=>?_,fun q' i' a b a0 a1 hk hw=>hP q' a b,fun j j0 j1=>hM c' j c0 j0⟩
 ·rw[hS q' i' a a0 a1,if_neg];rintro⟨rfl,-⟩;exact h1 hh
 ·rw[hP q' a b,hS q' i' a a0 a1];split
  ·rename_i e
   obtain⟨rfl,rfl⟩:=e
   constructor
   ·rintro⟨g,g2⟩;exact absurd g2 (h2 g).2
   ·rintro⟨g,g2⟩;exact absurd g2 (h2 g).1
  ·exact Iff.rfl
theorem Rel.mag (hm:may s.p s.c s.m=true) {c' j:Int} (c0:0≤c) (c1:c<s.c) (j0:0≤j) (j1:j<s.m) (a0:0≤c') (hc:c'≠c):Rel s c' ws (upW ws (mag s.p s.c s.m c j) y):=by
 have hP:∀ q',0≤q'→q'<s.p→pgAt s (upW ws (Go.Pl.mag s.p s.c s.m c j) y) q'=pgAt s ws q':=fun q' a b=>pg_mg hm c0 c1 j0 j1 a b
 have hS:∀ q' i',0≤q'→q'<s.p→0≤i'→i'<16→slAt s (upW ws (Go.Pl.mag s.p s.c s.m c j) y) q' i'=slAt s ws q' i':=fun q' i' a b d e=>sl_mg hm c0 c1 j0 j1 a b d e
 refine⟨fun q' a b=>by rw[hP q' a b],fun q' i a b i0 i1 _=>hS q' i a b i0 i1,fun q' h a b a' b' hh=>by rw[hP q' a b],fun q' i a b i0 i1=>by rw[hP q' a b,hS q' i a b i0 i1],fun q' i a b i0 i1 _ _=>hP q' a b,fun j' d0 d1=>?_⟩
 rw[mg_mg hm c0 c1 j0 j1 a0 d0 d1,if_neg fun e=>hc e.1]

/-! ### The steps -/
variable (hm:may s.p s.c s.m=true) (h:Bs s ws) (ho:Own s ws c o) (c0:0≤c) (c1:c<s.c) (q0:0≤q) (q1:q<s.p)
include hm h ho c0 c1 q0 q1
theorem own_page (hp:∀ x,0≤x→x<s.p→(o'.hp x↔if x=q then y=1+16*c else o.hp x))
  (hb:∀ x h',0≤x→x<s.p→0≤h'→h'<s.p→(o'.hb x h'↔(if x=q then y=4+16*h' else pgAt s ws x=4+16*h')∧(if h'=q then y=1+16*c else pgAt s ws h'=1+16*c)))
  (hs:∀ x i,0≤x→x<s.p→0≤i→i<16→(if x=q then((o'.hs x i∨InM s ws c x i)↔((∃ k,Sup s k y)∧slAt s ws x i=2+16*c))∧(o'.hs x i→¬ InM s ws c x i) else(o'.hs x i↔o.hs x i))):Own s (upW ws (page s.p s.c s.m q) y) c o':=by
 have hP:∀ q',0≤q'→q'<s.p→pgAt s (upW ws (Go.Pl.page s.p s.c s.m q) y) q'=if q'=q then y else pgAt s ws q':=fun q' a b=>pg_pg hm q0 q1 a b
 have hS:∀ q' i,0≤q'→0≤i→slAt s (upW ws (Go.Pl.page s.p s.c s.m q) y) q' i=slAt s ws q' i:=fun q' i a b=>sl_pg hm q0 q1 a b
 have hM:∀ q' i',InM s (upW ws (Go.Pl.page s.p s.c s.m q) y) c q' i'↔InM s ws c q' i':=fun q' i'=>InM.congr fun j j0 j1=>mg_pg hm q0 q1 c0 j0
 refine⟨fun x a b=>?_,fun x h' a b a' b'=>?_,fun x i a b i0 i1=>?_,fun x i a b i0 i1=>?_⟩
 ·rw[hP x a b,hp x a b];split
  ·exact Iff.rfl
  ·exact ho.pg x a b
 ·rw[hP x a b,hP h' a' b',hb x h' a b a' b']
  split<;>split<;>exact Iff.rfl
 ·have g:=hs x i a b i0 i1
  rw[hP x a b,hS x i a i0,hM x i]
  split at g
  ·rename_i e;rw[if_pos e];exact g.1.symm
  ·rename_i e;rw[if_neg e,g];exact ho.sl x i a b i0 i1
 ·have g:=hs x i a b i0 i1
  rw[hM x i]
  split at g
  ·exact g.2
  ·rw[g];exact ho.dj x i a b i0 i1
theorem claimE0 (he:pgAt s ws q=0) (hp:∀ x,o'.hp x↔o.hp x∨x=q) (hb:o'.hb=o.hb) (hs:o'.hs=o.hs):Nx0 s c ws (upW ws (page s.p s.c s.m q) (1+16*c)) o':=by
 have hB:=(may_iff _ _ _).1 hm
 have hq:=h.pg q q0 q1
 have hz:∀ i,0≤i→i<16→slAt s ws q i=0:=by
  cases hq with
  | e h z=>exact z
  | h c c0 c1 h z=>omega
  | s k h z=>have:=h.mod;omega
  | l n n1 n8 nq h z b=>omega
  | b h h0 h1 h2 e z w=>omega
 have nb:∀ x,0≤x→x<s.p→pgAt s ws x≠4+16*q:=fun x a b e=>by
  cases h.pg x a b with
  | e h z=>omega
  | h c c0 c1 h z=>omega
  | s k h z=>have:=h.mod;omega
  | l n n1 n8 nq h z b=>omega
  |b h h0 h1 h2 e' z w=>
   have:h=q:=by omega
   subst this
   rcases w with⟨c,-,-,w⟩|⟨n,-,-,-,w⟩<;>omega
 refine⟨h.page hm q0 q1 (.h c c0 c1 (by rw[pg_pg hm q0 q1 q0 q1,if_pos rfl]) fun i i0 i1=>.inl (by rw[sl_pg hm q0 q1 q0 i0];exact hz i i0 i1)) (fun q' a b _ _ e=>absurd e (nb q' a b)) (fun h' _ _ _ e=>by omega)
   (fun c' j i k _ _ _ _ g=>by have:=g.2.2.2.2.2.1.mod;omega),?_,fun c' a b hne=>?_⟩
 ·refine own_page hm h ho c0 c1 q0 q1 (fun x a b=>?_) (fun x h' a b a' b'=>?_) fun x i a b i0 i1=>?_
  ·rw[hp x];split
   ·rename_i e;exact⟨fun _=>rfl,fun _=>.inr e⟩
   ·rename_i e;exact⟨fun g=>g.resolve_right e,.inl⟩
  ·rw[hb,← ho.bd x h' a b a' b']
   by_cases e:x=q<;>by_cases e2:h'=q
   ·subst e;subst e2;simp;omega
   ·subst e;simp only[if_true,if_neg e2];constructor<;>rintro⟨g,-⟩<;>omega
   ·subst e2;simp only[if_neg e,if_true];constructor<;>rintro⟨g,g2⟩
    ·omega
    ·exact absurd g (nb x a b)
   ·simp only[if_neg e,if_neg e2]
  ·split
   ·rename_i e
    subst e
    have g:=ho.sl x i a b i0 i1
    have e1:¬ ((∃ k,Sup s k (pgAt s ws x))∧slAt s ws x i=2+16*c):=by rintro⟨⟨k,g⟩,-⟩;have:=g.mod;omega
    have e2:¬ (o.hs x i∨InM s ws c x i):=fun g2=>e1 (g.2 g2)
    rw[hs]
    exact⟨⟨fun g=>absurd g e2,fun ⟨⟨k,g⟩,_⟩=>by have:=g.mod;omega⟩,fun g=>absurd (.inl g) e2⟩
   ·rw[hs]
 ·exact Rel.page hm q0 q1 a (by omega) (by omega) (fun i i0 i1 g=>by have:=hz i i0 i1;omega) fun h' _ _ _=>by omega
theorem claimE (he:pgAt s ws q=0) (hp:∀ x,o'.hp x↔o.hp x∨x=q) (hb:o'.hb=o.hb) (hs:o'.hs=o.hs):Nx s c ws (upW ws (page s.p s.c s.m q) (1+16*c)) o':=
 ⟨claimE0 (o':=o') hm h ho c0 c1 q0 q1 he hp hb hs,Mw.page hm q0 q1 (.inr (.inr ⟨rfl,.inl he⟩))⟩
theorem claimL0 {n:Int} (he:pgAt s ws q=3+16*n) (hp:∀ x,o'.hp x↔o.hp x∨x=q) (hb:∀ x h',o'.hb x h'↔o.hb x h'∨(h'=q∧q<x∧x<q+n)) (hs:o'.hs=o.hs):Nx0 s c ws (upW ws (page s.p s.c s.m q) (1+16*c)) o':=by
  have hB:=(may_iff _ _ _).1 hm
  have hq:=h.pg q q0 q1
  have hz:(∀ i,0≤i→i<16→slAt s ws q i=0)∧1≤n∧n≤8∧q+n≤s.p∧∀ j,1≤j→j<n→pgAt s ws (q+j)=4+16*q:=by
    cases hq with
    | e h z=>omega
    | h c c0 c1 h z=>omega
    | s k h z=>have:=h.mod;omega
    | l n' n1 n8 nq h z b => have : n' = n := by omega
                             subst this;exact⟨z,n1,n8,nq,b⟩
    | b h h0 h1 h2 e z w=>omega
  obtain⟨hz,n1,n8,nq,hr⟩:=hz
  have nb:∀ x,0≤x→x<s.p→(pgAt s ws x=4+16*q↔q<x∧x<q+n):=fun x a b=>by
    constructor
    · intro e
      cases h.pg x a b with
      | e h z=>omega
      | h c c0 c1 h z=>omega
      | s k h z=>have:=h.mod;omega
      | l n n1 n8 nq h z b=>omega
      | b h h0 h1 h2 e' z w=>
        have:h=q:=by omega
        subst this
        rcases w with⟨c,-,-,w⟩|⟨n',-,-,g,w⟩<;>omega
    · rintro⟨g1,g2⟩
      have:=hr (x - q) (by omega) (by omega)
      rwa [show q+(x - q)=x by omega]at this
  refine⟨h.page hm q0 q1 (.h c c0 c1 (by rw[pg_pg hm q0 q1 q0 q1,if_pos rfl]) fun i i0 i1=>.inl (by rw[sl_pg hm q0 q1 q0 i0];exact hz i i0 i1)) (fun q' a b _ _ e=>.inl ⟨c,c0,c1,rfl⟩) (fun h' _ _ _ e=>by omega)
      (fun c' j i k _ _ _ _ g=>by have:=g.2.2.2.2.2.1.mod;omega),?_,fun c' a b hne=>?_⟩
  · refine own_page hm h ho c0 c1 q0 q1 (fun x a b=>?_) (fun x h' a b a' b'=>?_) fun x i a b i0 i1=>?_
    · rw[hp x];split
      · rename_i e;exact⟨fun _=>rfl,fun _=>.inr e⟩
      · rename_i e;exact⟨fun g=>g.resolve_right e,.inl⟩
    · rw[hb x h',← ho.bd x h' a b a' b']
      have:=nb x a b
      by_cases e:x=q<;>by_cases e2:h'=q
      · subst e;subst e2;simp;omega
      · subst e;simp only[if_true,if_neg e2];constructor
        · rintro(⟨g,-⟩|⟨g,-⟩)<;>omega
        · rintro⟨g,-⟩;omega
      · subst e2;simp only[if_neg e,if_true,true_and];constructor
        · rintro(⟨g,g2⟩| g)
          · omega
          · exact⟨this.2 g,trivial⟩
        · rintro⟨g,-⟩;exact .inr (this.1 g)
      · simp only[if_neg e,if_neg e2];constructor
        · rintro(g |⟨g,-⟩)
          · exact g
          · exact absurd g e2
        · exact .inl
    · split
      · rename_i e
        subst e
        have g:=ho.sl x i a b i0 i1
        have e1:¬ ((∃ k,Sup s k (pgAt s ws x))∧slAt s ws x i=2+16*c):=by rintro⟨⟨k,g⟩,-⟩;have:=g.mod;omega
        have e2:¬ (o.hs x i∨InM s ws c x i):=fun g2=>e1 (g.2 g2)
        rw[hs]
        exact⟨⟨fun g=>absurd g e2,fun ⟨⟨k,g⟩,_⟩=>by have:=g.mod;omega⟩,fun g=>absurd (.inl g) e2⟩
      · rw[hs]
  · exact Rel.page hm q0 q1 a (by omega) (by omega) (fun i i0 i1 g=>by have:=hz i i0 i1;omega) fun h' _ _ _=>by omega
theorem claimL {n:Int} (he:pgAt s ws q=3+16*n) (hp:∀ x,o'.hp x↔o.hp x∨x=q) (hb:∀ x h',o'.hb x h'↔o.hb x h'∨(h'=q∧q<x∧x<q+n)) (hs:o'.hs=o.hs):Nx s c ws (upW ws (page s.p s.c s.m q) (1+16*c)) o':=
 ⟨claimL0 (o':=o') hm h ho c0 c1 q0 q1 he hp hb hs,Mw.page hm q0 q1 (.inr (.inr ⟨rfl,.inr (.inl ⟨n,he⟩)⟩))⟩
theorem claimS0 {k:Int} (hk:Sup s k (pgAt s ws q)) (hall:∀ i,0≤i→i<slots k→o.hs q i) (hp:∀ x,o'.hp x↔o.hp x∨x=q) (hb:o'.hb=o.hb) (hs:∀ x i,o'.hs x i↔o.hs x i∧x≠q):Nx0 s c ws (upW ws (page s.p s.c s.m q) (1+16*c)) o':=by
 have hB:=(may_iff _ _ _).1 hm
 have hmo:=hk.mod
 have hsl:=slots_bd k
 have h2:0<slots k:=by have:=hk.bd;have:=slots_four this.1 this.2;omega
 have hz:=(h.pg q q0 q1).sup (by omega) hk
 have hw:∀ i,0≤i→i<slots k→slAt s ws q i=2+16*c:=fun i i0 i1=>((ho.sl q i q0 q1 i0 (by omega)).2 (.inl (hall i i0 i1))).2
 have hz':∀ i,0≤i→i<16→slAt s ws q i=0∨slAt s ws q i=2+16*c:=fun i i0 i1=>by
  by_cases g:i<slots k
  ·exact .inr (hw i i0 g)
  ·rcases hz i i0 i1 with⟨g2,-⟩|⟨-,g2⟩
   ·omega
   ·exact .inl g2
 have nb:∀ x,0≤x→x<s.p→pgAt s ws x≠4+16*q:=fun x a b e=>by
  cases h.pg x a b with
  | e h z=>omega
  | h c c0 c1 h z=>omega
  | s k h z=>have:=h.mod;omega
  | l n n1 n8 nq h z b=>omega
  |b h h0 h1 h2 e' z w=>
   have:h=q:=by omega
   subst this
   rcases w with⟨c,-,-,w⟩|⟨n,-,-,-,w⟩<;>omega
 have nm:∀ i,0≤i→i<16→¬ InM s ws c q i:=fun i i0 i1 g=>by
  have hi:i<slots k:=by
   have:=((ho.sl q i q0 q1 i0 i1).2 (.inr g)).2
   rcases hz i i0 i1 with⟨g2,-⟩|⟨-,g2⟩<;>omega
  exact ho.dj q i q0 q1 i0 i1 (hall i i0 hi) g
 refine⟨h.page hm q0 q1 (.h c c0 c1 (by rw[pg_pg hm q0 q1 q0 q1,if_pos rfl]) fun i i0 i1=>by rw[sl_pg hm q0 q1 q0 i0];exact hz' i i0 i1) (fun q' a b _ _ e=>absurd e (nb q' a b)) (fun h' _ _ _ e=>by omega)
   (fun c' j i k' a b d e g=>?_),?_,fun c' a b hne=>?_⟩
 ·exfalso
  obtain⟨g1,g2,g3,g4,g5,g6,g7⟩:=g
  have hk2:=Sup.inj (by omega) g6 hk
  subst hk2
  have:=hw i g3 g4
  have hc:c'=c:=by omega
  subst hc
  exact nm i g3 (by omega) ⟨j,k',d,e,hk.1,hk.2.1,g5⟩
 ·refine own_page hm h ho c0 c1 q0 q1 (fun x a b=>?_) (fun x h' a b a' b'=>?_) fun x i a b i0 i1=>?_
  ·rw[hp x];split
   ·rename_i e;exact⟨fun _=>rfl,fun _=>.inr e⟩
   ·rename_i e;exact⟨fun g=>g.resolve_right e,.inl⟩
  ·rw[hb,← ho.bd x h' a b a' b']
   by_cases e:x=q<;>by_cases e2:h'=q
   ·subst e;subst e2;simp;omega
   ·subst e;simp only[if_true,if_neg e2];constructor<;>rintro⟨g,-⟩<;>omega
   ·subst e2;simp only[if_neg e,if_true];constructor<;>rintro⟨g,g2⟩
    ·omega
    ·exact absurd g (nb x a b)
   ·simp only[if_neg e,if_neg e2]
  ·split
   ·rename_i e
    subst e
    have e1:¬ o'.hs x i:=fun g=>((hs x i).1 g).2 rfl
    exact⟨⟨fun g=>by rcases g with g | g;exact absurd g e1;exact absurd g (nm i i0 i1),fun ⟨⟨k,g⟩,_⟩=>by have:=g.mod;omega⟩,fun g=>absurd g e1⟩
   ·rename_i e
    rw[hs x i];exact⟨fun g=>g.1,fun g=>⟨g,e⟩⟩
 ·refine Rel.page hm q0 q1 a (by omega) (by omega) (fun i i0 i1 g=>by have:=hz' i i0 i1;omega) fun h' _ _ _=>by omega
theorem claimS {k:Int} (hk:Sup s k (pgAt s ws q)) (hall:∀ i,0≤i→i<slots k→o.hs q i) (hp:∀ x,o'.hp x↔o.hp x∨x=q) (hb:o'.hb=o.hb) (hs:∀ x i,o'.hs x i↔o.hs x i∧x≠q):Nx s c ws (upW ws (page s.p s.c s.m q) (1+16*c)) o':=
 ⟨claimS0 (o':=o') hm h ho c0 c1 q0 q1 hk hall hp hb hs,Mw.page hm q0 q1 (.inr (.inr ⟨rfl,.inr (.inr ⟨k,hk,fun i i0 i1=>((ho.sl q i q0 q1 i0 (by have:=slots_bd k;omega)).2 (.inl (hall i i0 i1))).2⟩)⟩))⟩
theorem free0 (he:o.hp q) (hz:∀ i,0≤i→i<16→slAt s ws q i=0) (hnb:∀ x,0≤x→x<s.p→¬ o.hb x q) (hp:∀ x,o'.hp x↔o.hp x∧x≠q) (hb:o'.hb=o.hb) (hs:o'.hs=o.hs):Nx0 s c ws (upW ws (page s.p s.c s.m q) 0) o':=by
 have hB:=(may_iff _ _ _).1 hm
 have he:=(ho.pg q q0 q1).2 he
 have nb:∀ x,0≤x→x<s.p→pgAt s ws x≠4+16*q:=fun x a b e=>hnb x a b ((ho.bd x q a b q0 q1).1 ⟨e,he⟩)
 refine⟨h.page hm q0 q1 (.e (by rw[pg_pg hm q0 q1 q0 q1,if_pos rfl]) fun i i0 i1=>by rw[sl_pg hm q0 q1 q0 i0];exact hz i i0 i1) (fun q' a b _ _ e=>absurd e (nb q' a b)) (fun h' _ _ _ e=>by omega)
   (fun c' j i k _ _ _ _ g=>by have:=g.2.2.2.2.2.1.mod;omega),?_,fun c' a b hne=>?_⟩
 ·refine own_page hm h ho c0 c1 q0 q1 (fun x a b=>?_) (fun x h' a b a' b'=>?_) fun x i a b i0 i1=>?_
  ·rw[hp x];split
   ·rename_i e;exact⟨fun g=>absurd e g.2,fun g=>by omega⟩
   ·rename_i e;exact⟨fun g=>g.1,fun g=>⟨g,e⟩⟩
  ·rw[hb,← ho.bd x h' a b a' b']
   by_cases e:x=q<;>by_cases e2:h'=q
   ·subst e;subst e2;simp;omega
   ·subst e;simp only[if_true,if_neg e2];constructor<;>rintro⟨g,-⟩<;>omega
   ·subst e2;simp only[if_neg e,if_true];constructor<;>rintro⟨g,g2⟩
    ·exact absurd g (nb x a b)
    ·exact absurd g (nb x a b)
   ·simp only[if_neg e,if_neg e2]
  ·split
   ·rename_i e
    subst e
    have g:=ho.sl x i a b i0 i1
    have e1:¬ ((∃ k,Sup s k (pgAt s ws x))∧slAt s ws x i=2+16*c):=by rintro⟨⟨k,g⟩,-⟩;have:=g.mod;omega
    have e2:¬ (o.hs x i∨InM s ws c x i):=fun g2=>e1 (g.2 g2)
    rw[hs]
    exact⟨⟨fun g=>absurd g e2,fun ⟨⟨k,g⟩,_⟩=>by have:=g.mod;omega⟩,fun g=>absurd (.inl g) e2⟩
   ·rw[hs]
 ·refine Rel.page hm q0 q1 a (by omega) (by omega) (fun i i0 i1 g=>by have:=hz i i0 i1;omega) fun h' _ _ _=>by omega
theorem free (he:o.hp q) (hz:∀ i,0≤i→i<16→slAt s ws q i=0) (hnb:∀ x,0≤x→x<s.p→¬ o.hb x q) (hp:∀ x,o'.hp x↔o.hp x∧x≠q) (hb:o'.hb=o.hb) (hs:o'.hs=o.hs):Nx s c ws (upW ws (page s.p s.c s.m q) 0) o':=
 ⟨free0 (o':=o') hm h ho c0 c1 q0 q1 he hz hnb hp hb hs,Mw.page hm q0 q1 (.inl ((ho.pg q q0 q1).2 he))⟩
theorem bind0 {k:Int} (k0:0≤k) (k3:k≤3) (he:o.hp q) (hz:∀ i,0≤i→i<16→slAt s ws q i=if i<slots k then 2+16*c else 0) (hnb:∀ x,0≤x→x<s.p→¬ o.hb x q) (hp:∀ x,o'.hp x↔o.hp x∧x≠q) (hb:o'.hb=o.hb)
  (hs:∀ x i,o'.hs x i↔o.hs x i∨(x=q∧0≤i∧i<slots k)):Nx0 s c ws (upW ws (page s.p s.c s.m q) (2+16*k+4096*c)) o':=by
 have hB:=(may_iff _ _ _).1 hm
 have hsb:=slots_bd k
 have he:=(ho.pg q q0 q1).2 he
 have nb:∀ x,0≤x→x<s.p→pgAt s ws x≠4+16*q:=fun x a b e=>hnb x a b ((ho.bd x q a b q0 q1).1 ⟨e,he⟩)
 have hsup:Sup s k (2+16*k+4096*c):=⟨k0,k3,c,c0,c1,rfl⟩
 have e2:∀ i,0≤i→i<16→¬ (o.hs q i∨InM s ws c q i):=fun i i0 i1 g2=>by
  obtain⟨⟨k,g⟩,-⟩:=(ho.sl q i q0 q1 i0 i1).2 g2
  have:=g.mod;omega
 refine⟨h.page hm q0 q1 (.s k (by rw[pg_pg hm q0 q1 q0 q1,if_pos rfl];exact hsup) fun i i0 i1=>?_) (fun q' a b _ _ e=>absurd e (nb q' a b)) (fun h' _ _ _ e=>by omega)
   (fun c' j i k _ _ _ _ g=>by have:=g.2.2.2.2.2.1.mod;omega),?_,fun c' a b hne=>?_⟩
 ·rw[sl_pg hm q0 q1 q0 i0,hz i i0 i1]
  split
  ·rename_i e;exact .inl ⟨e,.inr (.inr ⟨c,c0,c1,rfl⟩)⟩
  ·rename_i e;exact .inr ⟨by omega,rfl⟩
 ·refine own_page hm h ho c0 c1 q0 q1 (fun x a b=>?_) (fun x h' a b a' b'=>?_) fun x i a b i0 i1=>?_
  ·rw[hp x];split
   ·rename_i e;exact⟨fun g=>absurd e g.2,fun g=>by omega⟩
   ·rename_i e;exact⟨fun g=>g.1,fun g=>⟨g,e⟩⟩
  ·rw[hb,← ho.bd x h' a b a' b']
   by_cases e:x=q<;>by_cases e2:h'=q
   ·subst e;subst e2;simp;omega
   ·subst e;simp only[if_true,if_neg e2];constructor<;>rintro⟨g,-⟩<;>omega
   ·subst e2;simp only[if_neg e,if_true];constructor<;>rintro⟨g,g2⟩
    ·exact absurd g (nb x a b)
    ·exact absurd g (nb x a b)
   ·simp only[if_neg e,if_neg e2]
  ·split
   ·rename_i e
    subst e
    have e2:=e2 i i0 i1
    have hz:=hz i i0 i1
    rw[hs]
    refine⟨⟨fun g=>⟨⟨k,hsup⟩,?_⟩,fun ⟨_,g⟩=>.inl (.inr ⟨rfl,i0,?_⟩)⟩,fun g=>?_⟩
    ·rcases g with(g |⟨-,-,g⟩) | g
     ·exact absurd (.inl g) e2
     ·rw[hz,if_pos g]
     ·exact absurd (.inr g) e2
    ·rw[hz]at g;split at g
     ·assumption
     ·omega
    ·exact fun g=>e2 (.inr g)
   ·rename_i e
    rw[hs];exact⟨fun g=>g.resolve_right fun g=>e g.1,.inl⟩
 ·refine Rel.page hm q0 q1 a (by omega) (by omega) (fun i i0 i1 g=>?_) fun h' _ _ _=>by omega
  rw[hz i i0 i1]at g;split at g<;>omega
theorem bind {k:Int} (k0:0≤k) (k3:k≤3) (he:o.hp q) (hz:∀ i,0≤i→i<16→slAt s ws q i=if i<slots k then 2+16*c else 0) (hnb:∀ x,0≤x→x<s.p→¬ o.hb x q) (hp:∀ x,o'.hp x↔o.hp x∧x≠q) (hb:o'.hb=o.hb)
  (hs:∀ x i,o'.hs x i↔o.hs x i∨(x=q∧0≤i∧i<slots k)):Nx s c ws (upW ws (page s.p s.c s.m q) (2+16*k+4096*c)) o':=
 ⟨bind0 (o':=o') hm h ho c0 c1 q0 q1 k0 k3 he hz hnb hp hb hs,Mw.page hm q0 q1 (.inl ((ho.pg q q0 q1).2 he))⟩
theorem body0 {d:Int} (he:o.hp q) (hd:o.hp d) (d0:0≤d) (d1:d<q) (d8:q<d+8) (hz:∀ i,0≤i→i<16→slAt s ws q i=0) (hnb:∀ x,0≤x→x<s.p→¬ o.hb x q) (hp:∀ x,o'.hp x↔o.hp x∧x≠q)
  (hb:∀ x h',o'.hb x h'↔o.hb x h'∨(x=q∧h'=d)) (hs:o'.hs=o.hs):Nx0 s c ws (upW ws (page s.p s.c s.m q) (4+16*d)) o':=by
 have hB:=(may_iff _ _ _).1 hm
 have he:=(ho.pg q q0 q1).2 he
 have hd:=(ho.pg d d0 (by omega)).2 hd
 have nb:∀ x,0≤x→x<s.p→pgAt s ws x≠4+16*q:=fun x a b e=>hnb x a b ((ho.bd x q a b q0 q1).1 ⟨e,he⟩)
 refine⟨h.page hm q0 q1 (.b d d0 d1 d8 (by rw[pg_pg hm q0 q1 q0 q1,if_pos rfl]) (fun i i0 i1=>by rw[sl_pg hm q0 q1 q0 i0];exact hz i i0 i1) (.inl ⟨c,c0,c1,by rw[pg_pg hm q0 q1 d0 (by omega),if_neg (by omega)];exact hd⟩)) (fun q' a b _ _ e=>absurd e (nb q' a b)) (fun h' _ _ _ e=>by omega)
   (fun c' j i k _ _ _ _ g=>by have:=g.2.2.2.2.2.1.mod;omega),?_,fun c' a b hne=>?_⟩
 ·refine own_page hm h ho c0 c1 q0 q1 (fun x a b=>?_) (fun x h' a b a' b'=>?_) fun x i a b i0 i1=>?_
  ·rw[hp x];split
   ·rename_i e;exact⟨fun g=>absurd e g.2,fun g=>by omega⟩
   ·rename_i e;exact⟨fun g=>g.1,fun g=>⟨g,e⟩⟩
  ·rw[hb,← ho.bd x h' a b a' b']
   by_cases e:x=q<;>by_cases e2:h'=q
   ·subst e;subst e2;simp;omega
   ·subst e;simp only[if_true,if_neg e2,true_and];constructor
    ·rintro(⟨g,-⟩| g)
     ·omega
     ·subst g;exact⟨rfl,hd⟩
    ·rintro⟨g,-⟩;exact .inr (by omega)
   ·subst e2;simp only[if_neg e,if_true];constructor
    ·rintro(⟨g,-⟩|⟨g,-⟩)
     ·exact absurd g (nb x a b)
     ·exact absurd g e
    ·rintro⟨g,-⟩;exact absurd g (nb x a b)
   ·simp only[if_neg e,if_neg e2];constructor
    ·rintro(g |⟨g,-⟩)
     ·exact g
     ·exact absurd g e
    ·exact .inl
  ·split
   ·rename_i e
    subst e
    have g:=ho.sl x i a b i0 i1
    have e1:¬ ((∃ k,Sup s k (pgAt s ws x))∧slAt s ws x i=2+16*c):=by rintro⟨⟨k,g⟩,-⟩;have:=g.mod;omega
    have e2:¬ (o.hs x i∨InM s ws c x i):=fun g2=>e1 (g.2 g2)
    rw[hs]
    exact⟨⟨fun g=>absurd g e2,fun ⟨⟨k,g⟩,_⟩=>by have:=g.mod;omega⟩,fun g=>absurd (.inl g) e2⟩
   ·rw[hs]
 ·refine Rel.page hm q0 q1 a (by omega) (by omega) (fun i i0 i1 g=>by have:=hz i i0 i1;omega) fun h' a' b' e'=>⟨fun g=>?_,fun g=>by omega⟩
  have:h'=d:=by omega
  subst this;omega
theorem body {d:Int} (he:o.hp q) (hd:o.hp d) (d0:0≤d) (d1:d<q) (d8:q<d+8) (hz:∀ i,0≤i→i<16→slAt s ws q i=0) (hnb:∀ x,0≤x→x<s.p→¬ o.hb x q) (hp:∀ x,o'.hp x↔o.hp x∧x≠q)
  (hb:∀ x h',o'.hb x h'↔o.hb x h'∨(x=q∧h'=d)) (hs:o'.hs=o.hs):Nx s c ws (upW ws (page s.p s.c s.m q) (4+16*d)) o':=
 ⟨body0 (o':=o') hm h ho c0 c1 q0 q1 he hd d0 d1 d8 hz hnb hp hb hs,Mw.page hm q0 q1 (.inl ((ho.pg q q0 q1).2 he))⟩
theorem large0 {n:Int} (he:o.hp q) (n1:1≤n) (n8:n≤8) (nq:q+n≤s.p) (hz:∀ i,0≤i→i<16→slAt s ws q i=0) (hr:∀ x,0≤x→x<s.p→(o.hb x q↔q<x∧x<q+n)) (hp:∀ x,o'.hp x↔o.hp x∧x≠q)
  (hb:∀ x h',o'.hb x h'↔o.hb x h'∧h'≠q) (hs:o'.hs=o.hs):Nx0 s c ws (upW ws (page s.p s.c s.m q) (3+16*n)) o':=by
 have hB:=(may_iff _ _ _).1 hm
 have he:=(ho.pg q q0 q1).2 he
 have nb:∀ x,0≤x→x<s.p→(pgAt s ws x=4+16*q↔q<x∧x<q+n):=fun x a b=>by
  rw[← hr x a b,← ho.bd x q a b q0 q1];exact⟨fun e=>⟨e,he⟩,fun e=>e.1⟩
 refine⟨h.page hm q0 q1 (.l n n1 n8 nq (by rw[pg_pg hm q0 q1 q0 q1,if_pos rfl]) (fun i i0 i1=>by rw[sl_pg hm q0 q1 q0 i0];exact hz i i0 i1) fun j j0 j1=>by rw[pg_pg hm q0 q1 (by omega) (by omega),if_neg (by omega)];exact(nb _ (by omega) (by omega)).2 (by omega))
   (fun q' a b _ _ e=>.inr ⟨n,n1,n8,((nb q' a b).1 e).2,rfl⟩) (fun h' _ _ _ e=>by omega)
   (fun c' j i k _ _ _ _ g=>by have:=g.2.2.2.2.2.1.mod;omega),?_,fun c' a b hne=>?_⟩
 ·refine own_page hm h ho c0 c1 q0 q1 (fun x a b=>?_) (fun x h' a b a' b'=>?_) fun x i a b i0 i1=>?_
  ·rw[hp x];split
   ·rename_i e;exact⟨fun g=>absurd e g.2,fun g=>by omega⟩
   ·rename_i e;exact⟨fun g=>g.1,fun g=>⟨g,e⟩⟩
  ·rw[hb,← ho.bd x h' a b a' b']
   by_cases e:x=q<;>by_cases e2:h'=q
   ·subst e;subst e2;simp;omega
   ·subst e;simp only[if_true,if_neg e2];constructor
    ·rintro⟨⟨g,-⟩,-⟩;omega
    ·rintro⟨g,-⟩;omega
   ·subst e2;simp only[if_neg e,if_true];constructor
    ·rintro⟨-,g⟩;exact absurd rfl g
    ·rintro⟨-,g⟩;omega
   ·simp only[if_neg e,if_neg e2];exact⟨fun g=>g.1,fun g=>⟨g,e2⟩⟩
  ·split
   ·rename_i e
    subst e
    have g:=ho.sl x i a b i0 i1
    have e1:¬ ((∃ k,Sup s k (pgAt s ws x))∧slAt s ws x i=2+16*c):=by rintro⟨⟨k,g⟩,-⟩;have:=g.mod;omega
    have e2:¬ (o.hs x i∨InM s ws c x i):=fun g2=>e1 (g.2 g2)
    rw[hs]
    exact⟨⟨fun g=>absurd g e2,fun ⟨⟨k,g⟩,_⟩=>by have:=g.mod;omega⟩,fun g=>absurd (.inl g) e2⟩
   ·rw[hs]
 ·refine Rel.page hm q0 q1 a (by omega) (by omega) (fun i i0 i1 g=>by have:=hz i i0 i1;omega) fun h' a' b' e'=>by omega
theorem large {n:Int} (he:o.hp q) (n1:1≤n) (n8:n≤8) (nq:q+n≤s.p) (hz:∀ i,0≤i→i<16→slAt s ws q i=0) (hr:∀ x,0≤x→x<s.p→(o.hb x q↔q<x∧x<q+n)) (hp:∀ x,o'.hp x↔o.hp x∧x≠q)
  (hb:∀ x h',o'.hb x h'↔o.hb x h'∧h'≠q) (hs:o'.hs=o.hs):Nx s c ws (upW ws (page s.p s.c s.m q) (3+16*n)) o':=
 ⟨large0 (o':=o') hm h ho c0 c1 q0 q1 he n1 n8 nq hz hr hp hb hs,Mw.page hm q0 q1 (.inl ((ho.pg q q0 q1).2 he))⟩
theorem unbody0 {d:Int} (he:o.hb q d) (d0:0≤d) (d1:d<s.p) (hp:o'.hp=o.hp) (hb:∀ x h',o'.hb x h'↔o.hb x h'∧x≠q) (hs:o'.hs=o.hs):Nx0 s c ws (upW ws (page s.p s.c s.m q) 0) o':=by
 have hB:=(may_iff _ _ _).1 hm
 obtain⟨he,hd⟩:=(ho.bd q d q0 q1 d0 d1).2 he
 have hz:(∀ i,0≤i→i<16→slAt s ws q i=0)∧d<q:=by
  cases h.pg q q0 q1 with
  | e h z=>omega
  | h c c0 c1 h z=>omega
  | s k h z=>have:=h.mod;omega
  | l n' n1 n8 nq h z b=>omega
  | b h h0 h1 h2 e z w=>exact⟨z,by omega⟩
 obtain⟨hz,hdq⟩:=hz
 have nb:∀ x,0≤x→x<s.p→pgAt s ws x≠4+16*q:=fun x a b e=>by
  cases h.pg x a b with
  | e h z=>omega
  | h c c0 c1 h z=>omega
  | s k h z=>have:=h.mod;omega
  | l n n1 n8 nq h z b=>omega
  |b h h0 h1 h2 e' z w=>
   have:h=q:=by omega
   subst this
   rcases w with⟨c,-,-,w⟩|⟨n,-,-,-,w⟩<;>omega
 refine⟨h.page hm q0 q1 (.e (by rw[pg_pg hm q0 q1 q0 q1,if_pos rfl]) fun i i0 i1=>by rw[sl_pg hm q0 q1 q0 i0];exact hz i i0 i1) (fun q' a b _ _ e=>absurd e (nb q' a b)) (fun h' _ _ _ e=>.inr ⟨c,by rw[show h'=d by omega];exact hd⟩)
   (fun c' j i k _ _ _ _ g=>by have:=g.2.2.2.2.2.1.mod;omega),?_,fun c' a b hne=>?_⟩
 ·refine own_page hm h ho c0 c1 q0 q1 (fun x a b=>?_) (fun x h' a b a' b'=>?_) fun x i a b i0 i1=>?_
  ·rw[hp];split
   ·rename_i e;rw[e,← ho.pg q q0 q1];constructor<;>intro g<;>omega
   ·exact Iff.rfl
  ·rw[hb,← ho.bd x h' a b a' b']
   by_cases e:x=q<;>by_cases e2:h'=q
   ·subst e;subst e2;simp;omega
   ·subst e;simp only[if_true,if_neg e2];constructor
    ·rintro⟨-,g⟩;exact absurd rfl g
    ·rintro⟨g,-⟩;omega
   ·subst e2;simp only[if_neg e,if_true];constructor
    ·rintro⟨⟨g,-⟩,-⟩;exact absurd g (nb x a b)
    ·rintro⟨g,-⟩;exact absurd g (nb x a b)
   ·simp only[if_neg e,if_neg e2];exact⟨fun g=>g.1,fun g=>⟨g,e⟩⟩
  ·split
   ·rename_i e
    subst e
    have g:=ho.sl x i a b i0 i1
    have e1:¬ ((∃ k,Sup s k (pgAt s ws x))∧slAt s ws x i=2+16*c):=by rintro⟨⟨k,g⟩,-⟩;have:=g.mod;omega
    have e2:¬ (o.hs x i∨InM s ws c x i):=fun g2=>e1 (g.2 g2)
    rw[hs]
    exact⟨⟨fun g=>absurd g e2,fun ⟨⟨k,g⟩,_⟩=>by have:=g.mod;omega⟩,fun g=>absurd (.inl g) e2⟩
   ·rw[hs]
 ·refine Rel.page hm q0 q1 a (by omega) (by omega) (fun i i0 i1 g=>by have:=hz i i0 i1;omega) fun h' a' b' e'=>⟨fun g=>by omega,fun g=>?_⟩
  have:h'=d:=by omega
  subst this;omega
theorem unbody {d:Int} (he:o.hb q d) (d0:0≤d) (d1:d<s.p) (hp:o'.hp=o.hp) (hb:∀ x h',o'.hb x h'↔o.hb x h'∧x≠q) (hs:o'.hs=o.hs):Nx s c ws (upW ws (page s.p s.c s.m q) 0) o':=
 ⟨unbody0 (o':=o') hm h ho c0 c1 q0 q1 he d0 d1 hp hb hs,Mw.page hm q0 q1 (.inr (.inl ⟨rfl,d,d0,d1,(ho.bd q d q0 q1 d0 d1).2 he⟩))⟩
theorem hslot0 {i:Int} (i0:0≤i) (i1:i<16) (he:o.hp q) (hy:y=0∨y=2+16*c):Nx0 s c ws (upW ws (slot s.p s.c s.m q i) y) o:=by
  have hB:=(may_iff _ _ _).1 hm
  have he:=(ho.pg q q0 q1).2 he
  have hP:∀ q',0≤q'→q'<s.p→pgAt s (upW ws (Go.Pl.slot s.p s.c s.m q i) y) q'=pgAt s ws q':=fun q' a b=>pg_sl hm q0 q1 i0 i1 a b
  have hS:∀ q' i',0≤q'→0≤i'→i'<16→slAt s (upW ws (Go.Pl.slot s.p s.c s.m q i) y) q' i'=if q'=q∧i'=i then y else slAt s ws q' i':=fun q' i' a b c=>sl_sl hm q0 q1 i0 i1 a b c
  have hM:∀ q' i',InM s (upW ws (Go.Pl.slot s.p s.c s.m q i) y) c q' i'↔InM s ws c q' i':=fun q' i'=>InM.congr fun j j0 j1=>mg_sl hm q0 q1 i0 i1 c0 j0
  refine ⟨h.slot hm q0 q1 i0 i1 (fun c' g => by have : c' = c := by omega
                                                subst this;exact hy) (fun k g=>by have:=g.mod;omega) (.inl ⟨c,c0,c1,he⟩) (fun c' j k _ _ _ _ _ g=>by have:=g.mod;omega),
    ⟨fun x a b=>by rw[hP x a b];exact ho.pg x a b,fun x h' a b a' b'=>by rw[hP x a b,hP h' a' b'];exact ho.bd x h' a b a' b',fun x j a b j0 j1=>?_,fun x j a b j0 j1 g=>by rw[hM];exact ho.dj x j a b j0 j1 g⟩,
    fun c' a b hne=>Rel.slot hm q0 q1 i0 i1 a (by omega) fun ⟨k,g⟩=>by have:=g.mod;omega⟩
  rw[hP x a b,hS x j a j0 j1,hM,← ho.sl x j a b j0 j1]
  split
  · rename_i e
    obtain⟨rfl,rfl⟩:=e
    constructor<;>rintro⟨⟨k,g⟩,-⟩<;>have:=g.mod<;>omega
  · exact Iff.rfl
theorem hslot {i:Int} (i0:0≤i) (i1:i<16) (he:o.hp q) (hy:y=0∨y=2+16*c):Nx s c ws (upW ws (slot s.p s.c s.m q i) y) o:=
 ⟨hslot0 (o:=o) hm h ho c0 c1 q0 q1 i0 i1 he hy,Mw.slot hm q0 q1 i0 i1 (.inl ((ho.pg q q0 q1).2 he))⟩
theorem claimO0 {i k:Int} (i0:0≤i) (i1:i<16) (k0:0≤k) (k3:k≤3) (hy:slAt s ws q i=1+16*k∨slAt s ws q i=3+16*k) (hp:o'.hp=o.hp) (hb:o'.hb=o.hb) (hs:∀ x j,o'.hs x j↔o.hs x j∨(x=q∧j=i)) :
  Nx0 s c ws (upW ws (slot s.p s.c s.m q i) (2+16*c)) o':=by
 have hB:=(may_iff _ _ _).1 hm
 obtain⟨hsup,hik⟩:=(h.pg q q0 q1).open (by omega) k0 k3 i0 i1 hy
 have hmo:=hsup.mod
 have hP:∀ q',0≤q'→q'<s.p→pgAt s (upW ws (Go.Pl.slot s.p s.c s.m q i) (2+16*c)) q'=pgAt s ws q':=fun q' a b=>pg_sl hm q0 q1 i0 i1 a b
 have hS:∀ q' i',0≤q'→0≤i'→i'<16→slAt s (upW ws (Go.Pl.slot s.p s.c s.m q i) (2+16*c)) q' i'=if q'=q∧i'=i then(2+16*c) else slAt s ws q' i':=fun q' i' a b c=>sl_sl hm q0 q1 i0 i1 a b c
 have hM:∀ q' i',InM s (upW ws (Go.Pl.slot s.p s.c s.m q i) (2+16*c)) c q' i'↔InM s ws c q' i':=fun q' i'=>InM.congr fun j j0 j1=>mg_sl hm q0 q1 i0 i1 c0 j0
 have nm:¬ InM s ws c q i:=fun g=>by
  have:=((ho.sl q i q0 q1 i0 i1).2 (.inr g)).2;omega
 have hsl:∀ k',Sup s k' (pgAt s ws q)→Sl s k' i (2+16*c):=fun k' g=>by
  rw[Sup.inj (by omega) g hsup];exact .inl ⟨hik,.inr (.inr ⟨c,c0,c1,rfl⟩)⟩
 refine⟨h.slot hm q0 q1 i0 i1 (fun c' g=>by omega) hsl (.inr ⟨k,hsup⟩) (fun c' j k _ _ _ _ _ _ g=>by omega),
  ⟨fun x a b=>by rw[hP x a b,hp];exact ho.pg x a b,fun x h' a b a' b'=>by rw[hP x a b,hP h' a' b',hb];exact ho.bd x h' a b a' b',fun x j a b j0 j1=>?_,fun x j a b j0 j1 g=>?_⟩,
  fun c' a b hne=>Rel.slot hm q0 q1 i0 i1 a (by omega) fun _=>by omega⟩
 ·rw[hP x a b,hS x j a j0 j1,hM,hs]
  have g:=ho.sl x j a b j0 j1
  split
  ·rename_i e
   obtain⟨rfl,rfl⟩:=e
   exact⟨fun _=>.inl (.inr ⟨rfl,rfl⟩),fun _=>⟨⟨k,hsup⟩,rfl⟩⟩
  ·rename_i e
   rw[g]
   constructor
   ·rintro(g | g)
    ·exact .inl (.inl g)
    ·exact .inr g
   ·rintro((g | g) | g)
    ·exact .inl g
    ·exact absurd g e
    ·exact .inr g
 ·rw[hM]
  rcases (hs x j).1 g with g |⟨rfl,rfl⟩
  ·exact ho.dj x j a b j0 j1 g
  ·exact nm
theorem claimO {i k:Int} (i0:0≤i) (i1:i<16) (k0:0≤k) (k3:k≤3) (hy:slAt s ws q i=1+16*k∨slAt s ws q i=3+16*k) (hp:o'.hp=o.hp) (hb:o'.hb=o.hb) (hs:∀ x j,o'.hs x j↔o.hs x j∨(x=q∧j=i)) :
  Nx s c ws (upW ws (slot s.p s.c s.m q i) (2+16*c)) o':=
 ⟨claimO0 (o':=o') hm h ho c0 c1 q0 q1 i0 i1 k0 k3 hy hp hb hs,Mw.slot hm q0 q1 i0 i1 (.inr ⟨k,((h.pg q q0 q1).open (by have:=((may_iff _ _ _).1 hm);omega) k0 k3 i0 i1 hy).1,.inr ⟨rfl,hy⟩⟩)⟩
theorem freeO0 {i k:Int} (i0:0≤i) (i1:i<16) (hk:Sup s k (pgAt s ws q)) (he:o.hs q i) (hy:y=1+16*k∨y=3+16*k) (hp:o'.hp=o.hp) (hb:o'.hb=o.hb) (hs:∀ x j,o'.hs x j↔o.hs x j∧¬ (x=q∧j=i)) :
  Nx0 s c ws (upW ws (slot s.p s.c s.m q i) y) o':=by
 have hB:=(may_iff _ _ _).1 hm
 have hmo:=hk.mod
 have hkb:=hk.bd
 have hw:=((ho.sl q i q0 q1 i0 i1).2 (.inl he)).2
 have nm:=ho.dj q i q0 q1 i0 i1 he
 have hik:i<slots k:=by
  rcases (h.pg q q0 q1).sup (by omega) hk i i0 i1 with⟨g,-⟩|⟨-,g⟩
  ·exact g
  ·omega
 have hP:∀ q',0≤q'→q'<s.p→pgAt s (upW ws (Go.Pl.slot s.p s.c s.m q i) y) q'=pgAt s ws q':=fun q' a b=>pg_sl hm q0 q1 i0 i1 a b
 have hS:∀ q' i',0≤q'→0≤i'→i'<16→slAt s (upW ws (Go.Pl.slot s.p s.c s.m q i) y) q' i'=if q'=q∧i'=i then y else slAt s ws q' i':=fun q' i' a b c=>sl_sl hm q0 q1 i0 i1 a b c
 have hM:∀ q' i',InM s (upW ws (Go.Pl.slot s.p s.c s.m q i) y) c q' i'↔InM s ws c q' i':=fun q' i'=>InM.congr fun j j0 j1=>mg_sl hm q0 q1 i0 i1 c0 j0
 have hsl:∀ k',Sup s k' (pgAt s ws q)→Sl s k' i y:=fun k' g=>by
  rw[Sup.inj (by omega) g hk];exact .inl ⟨hik,hy.elim .inl fun g=>.inr (.inl g)⟩
 refine⟨h.slot hm q0 q1 i0 i1 (fun c' g=>by omega) hsl (.inr ⟨k,hk⟩) (fun c' j k' a b d e g1 g2 g3=>?_),
  ⟨fun x a b=>by rw[hP x a b,hp];exact ho.pg x a b,fun x h' a b a' b'=>by rw[hP x a b,hP h' a' b',hb];exact ho.bd x h' a b a' b',fun x j a b j0 j1=>?_,fun x j a b j0 j1 g=>?_⟩,
  fun c' a b hne=>Rel.slot hm q0 q1 i0 i1 a (by omega) fun _=>by omega⟩
 ·have hc:c'=c:=by omega
  subst hc
  exact nm ⟨j,k',d,e,g2.1,g2.2.1,g1⟩
 ·rw[hP x a b,hS x j a j0 j1,hM,hs]
  have g:=ho.sl x j a b j0 j1
  split
  ·rename_i e
   obtain⟨rfl,rfl⟩:=e
   constructor
   ·rintro⟨-,g⟩;omega
   ·rintro(⟨-,g⟩| g)
    ·exact absurd ⟨rfl,rfl⟩ g
    ·exact absurd g nm
  ·rename_i e
   rw[g]
   constructor
   ·rintro(g | g)
    ·exact .inl ⟨g,e⟩
    ·exact .inr g
   ·rintro(⟨g,-⟩| g)
    ·exact .inl g
    ·exact .inr g
 ·rw[hM];exact ho.dj x j a b j0 j1 ((hs x j).1 g).1
theorem freeO {i k:Int} (i0:0≤i) (i1:i<16) (hk:Sup s k (pgAt s ws q)) (he:o.hs q i) (hy:y=1+16*k∨y=3+16*k) (hp:o'.hp=o.hp) (hb:o'.hb=o.hb) (hs:∀ x j,o'.hs x j↔o.hs x j∧¬ (x=q∧j=i)) :
  Nx s c ws (upW ws (slot s.p s.c s.m q i) y) o':=
 ⟨freeO0 (o':=o') hm h ho c0 c1 q0 q1 i0 i1 hk he hy hp hb hs,Mw.slot hm q0 q1 i0 i1 (.inr ⟨k,hk,.inl ⟨((ho.sl q i q0 q1 i0 i1).2 (.inl he)).2,hy⟩⟩)⟩
omit q0 q1
theorem take0 {j i k:Int} (j0:0≤j) (j1:j<s.m) (i0:0≤i) (i1:i<16) (q0:0≤q) (q1:q<64) (k0:0≤k) (k3:k≤3) (he:mgAt s ws c j=1+16*q+4096*i+1048576*k) (hp:o'.hp=o.hp) (hb:o'.hb=o.hb) (hs:∀ x i',o'.hs x i'↔o.hs x i'∨(x=q∧i'=i)) :
  Nx0 s c ws (upW ws (mag s.p s.c s.m c j) 0) o':=by
 have hB:=(may_iff _ _ _).1 hm
 have hP:∀ q',0≤q'→q'<s.p→pgAt s (upW ws (Go.Pl.mag s.p s.c s.m c j) 0) q'=pgAt s ws q':=fun q' a b=>pg_mg hm c0 c1 j0 j1 a b
 have hS:∀ q' i',0≤q'→q'<s.p→0≤i'→i'<16→slAt s (upW ws (Go.Pl.mag s.p s.c s.m c j) 0) q' i'=slAt s ws q' i':=fun q' i' a b d e=>sl_mg hm c0 c1 j0 j1 a b d e
 have hM:∀ x i',0≤x→x<s.p→0≤i'→i'<16→(InM s (upW ws (Go.Pl.mag s.p s.c s.m c j) 0) c x i'↔InM s ws c x i'∧¬ (x=q∧i'=i)):=fun x i' a b a' b'=>by
  constructor
  ·rintro⟨j',k',d0,d1,e0,e1,g⟩
   rw[mg_mg hm c0 c1 j0 j1 c0 d0 d1]at g
   split at g
   ·omega
   ·rename_i e2
    refine⟨⟨j',k',d0,d1,e0,e1,g⟩,fun e3=>e2 ⟨rfl,?_⟩⟩
    obtain⟨rfl,rfl⟩:=e3
    have hx:mgAt s ws c j'≠0:=by omega
    have hx2:mgAt s ws c j≠0:=by omega
    obtain⟨p1,i1',k1,g1,g2,g3,g4,g5,g6,g7⟩:=h.mg c j' c0 c1 d0 d1 hx
    obtain⟨p2,i2',k2,g1',g2',g3',g4',g5',g6',g7'⟩:=h.mg c j c0 c1 j0 j1 hx2
    have:=slots_bd k1
    have:=slots_bd k2
    have hp1:p1=x:=by have:=g6.bd;omega
    have hp2:p2=x:=by have:=g6'.bd;omega
    subst hp1
    subst hp2
    have:=Sup.inj (by omega) g6 g6'
    subst this
    have:=g6.bd
    exact h.uq c j' j c0 c1 d0 d1 j0 j1 hx (by omega)
  ·rintro⟨⟨j',k',d0,d1,e0,e1,g⟩,e2⟩
   refine⟨j',k',d0,d1,e0,e1,?_⟩
   rw[mg_mg hm c0 c1 j0 j1 c0 d0 d1,if_neg]
   ·exact g
   ·rintro⟨-,rfl⟩
    exact e2 (by omega)
 refine⟨h.mag hm c0 c1 j0 j1 (.inl rfl),⟨fun x a b=>by rw[hP x a b,hp];exact ho.pg x a b,fun x h' a b a' b'=>by rw[hP x a b,hP h' a' b',hb];exact ho.bd x h' a b a' b',fun x i' a b a' b'=>?_,fun x i' a b a' b' g=>?_⟩,fun c' a b hne=>Rel.mag hm c0 c1 j0 j1 a hne⟩
 ·rw[hP x a b,hS x i' a b a' b',hM x i' a b a' b',hs,ho.sl x i' a b a' b']
  constructor
  ·rintro(g | g)
   ·exact .inl (.inl g)
   ·by_cases e:x=q∧i'=i
    ·exact .inl (.inr e)
    ·exact .inr ⟨g,e⟩
  ·rintro((g |⟨rfl,rfl⟩) | g)
   ·exact .inl g
   ·exact .inr ⟨j,k,j0,j1,k0,k3,he⟩
   ·exact .inr g.1
 ·rw[hM x i' a b a' b']
  rintro⟨g2,g3⟩
  rcases (hs x i').1 g with g | g
  ·exact ho.dj x i' a b a' b' g g2
  ·exact g3 g
theorem take {j i k:Int} (j0:0≤j) (j1:j<s.m) (i0:0≤i) (i1:i<16) (q0:0≤q) (q1:q<64) (k0:0≤k) (k3:k≤3) (he:mgAt s ws c j=1+16*q+4096*i+1048576*k) (hp:o'.hp=o.hp) (hb:o'.hb=o.hb) (hs:∀ x i',o'.hs x i'↔o.hs x i'∨(x=q∧i'=i)) :
  Nx s c ws (upW ws (mag s.p s.c s.m c j) 0) o':=
 ⟨take0 (o':=o') hm h ho c0 c1 j0 j1 i0 i1 q0 q1 k0 k3 he hp hb hs,Mw.mag hm c0 c1 j0 j1⟩
theorem put0 {j i k:Int} (j0:0≤j) (j1:j<s.m) (q0:0≤q) (q1:q<s.p) (i0:0≤i) (i1:i<16) (he:mgAt s ws c j=0) (hk:Sup s k (pgAt s ws q)) (hq:o.hs q i) (hp:o'.hp=o.hp) (hb:o'.hb=o.hb) (hs:∀ x i',o'.hs x i'↔o.hs x i'∧¬ (x=q∧i'=i)) :
  Nx0 s c ws (upW ws (mag s.p s.c s.m c j) (1+16*q+4096*i+1048576*k)) o':=by
 have hB:=(may_iff _ _ _).1 hm
 have hkb:=hk.bd
 have hw:=((ho.sl q i q0 q1 i0 i1).2 (.inl hq)).2
 have nm:=ho.dj q i q0 q1 i0 i1 hq
 have hik:i<slots k:=by
  rcases (h.pg q q0 q1).sup (by omega) hk i i0 i1 with⟨g,-⟩|⟨-,g⟩
  ·exact g
  ·omega
 have hP:∀ q',0≤q'→q'<s.p→pgAt s (upW ws (Go.Pl.mag s.p s.c s.m c j) (1+16*q+4096*i+1048576*k)) q'=pgAt s ws q':=fun q' a b=>pg_mg hm c0 c1 j0 j1 a b
 have hS:∀ q' i',0≤q'→q'<s.p→0≤i'→i'<16→slAt s (upW ws (Go.Pl.mag s.p s.c s.m c j) (1+16*q+4096*i+1048576*k)) q' i'=slAt s ws q' i':=fun q' i' a b d e=>sl_mg hm c0 c1 j0 j1 a b d e
 have hM:∀ x i',0≤x→x<s.p→0≤i'→i'<16→(InM s (upW ws (Go.Pl.mag s.p s.c s.m c j) (1+16*q+4096*i+1048576*k)) c x i'↔InM s ws c x i'∨(x=q∧i'=i)):=fun x i' a b a' b'=>by
  constructor
  ·rintro⟨j',k',d0,d1,e0,e1,g⟩
   rw[mg_mg hm c0 c1 j0 j1 c0 d0 d1]at g
   split at g
   ·exact .inr (by omega)
   ·exact .inl ⟨j',k',d0,d1,e0,e1,g⟩
  ·rintro(⟨j',k',d0,d1,e0,e1,g⟩|⟨rfl,rfl⟩)
   ·refine⟨j',k',d0,d1,e0,e1,?_⟩
    rw[mg_mg hm c0 c1 j0 j1 c0 d0 d1,if_neg]
    ·exact g
    ·rintro⟨-,rfl⟩;omega
   ·exact⟨j,k,j0,j1,hkb.1,hkb.2,by rw[mg_mg hm c0 c1 j0 j1 c0 j0 j1,if_pos ⟨rfl,rfl⟩]⟩
 refine⟨h.mag hm c0 c1 j0 j1 (.inr ⟨⟨q,i,k,q0,q1,i0,hik,rfl,hk,hw⟩,fun j' a b g=>nm ⟨j',k,a,b,hkb.1,hkb.2,g⟩⟩),
  ⟨fun x a b=>by rw[hP x a b,hp];exact ho.pg x a b,fun x h' a b a' b'=>by rw[hP x a b,hP h' a' b',hb];exact ho.bd x h' a b a' b',fun x i' a b a' b'=>?_,fun x i' a b a' b' g=>?_⟩,fun c' a b hne=>Rel.mag hm c0 c1 j0 j1 a hne⟩
 ·rw[hP x a b,hS x i' a b a' b',hM x i' a b a' b',hs,ho.sl x i' a b a' b']
  constructor
  ·rintro(g | g)
   ·by_cases e:x=q∧i'=i
    ·exact .inr (.inr e)
    ·exact .inl ⟨g,e⟩
   ·exact .inr (.inl g)
  ·rintro(g | g |⟨rfl,rfl⟩)
   ·exact .inl g.1
   ·exact .inr g
   ·exact .inl hq
 ·obtain⟨g,g3⟩:=(hs x i').1 g
  rw[hM x i' a b a' b']
  rintro(g2 | g2)
  ·exact ho.dj x i' a b a' b' g g2
  ·exact g3 g2
theorem put {j i k:Int} (j0:0≤j) (j1:j<s.m) (q0:0≤q) (q1:q<s.p) (i0:0≤i) (i1:i<16) (he:mgAt s ws c j=0) (hk:Sup s k (pgAt s ws q)) (hq:o.hs q i) (hp:o'.hp=o.hp) (hb:o'.hb=o.hb) (hs:∀ x i',o'.hs x i'↔o.hs x i'∧¬ (x=q∧i'=i)) :
  Nx s c ws (upW ws (mag s.p s.c s.m c j) (1+16*q+4096*i+1048576*k)) o':=
 ⟨put0 (o':=o') hm h ho c0 c1 j0 j1 q0 q1 i0 i1 he hk hq hp hb hs,Mw.mag hm c0 c1 j0 j1⟩
end
end Ow
end Go.Ma
namespace Go.Ma
open Go.Pl
namespace Ow
variable {s:Sh} {ws:Nat→Int} {q:Int}
theorem rd_pg {k a b:Int} (hm:may s.p s.c s.m=true) (q0:0≤q) (q1:q<s.p) (k0:0≤k) (k4:k≤4) (a0:0≤a) (a1:a≤255) (b0:0≤b) (b1:b≤255) (hp:putPg k a b=k+16*a+4096*b) (hf:fits s q k a b=true) :
  okPg s q (k+16*a+4096*b)=true∧pgK s q (k+16*a+4096*b)=k∧pgA s q (k+16*a+4096*b)=a:=by
 have hb:=(may_iff _ _ _).1 hm
 have e1:(k+16*a+4096*b) % 16=k:=by omega
 have e2:pt (k+16*a+4096*b) 16=a:=by unfold pt;omega
 have e3:pt (k+16*a+4096*b) 4096=b:=by unfold pt;omega
 have hq:0≤page s.p s.c s.m q:=by rw[page_yes hm q0 q1];omega
 have ok:okPg s q (k+16*a+4096*b)=true:=by
  unfold okPg
  rw[e1,e2,e3,decide_eq_true hp,hf,decide_eq_true hq];rfl
 refine⟨ok,?_,?_⟩
 ·unfold pgK;rw[if_pos ok,e1]
 ·unfold pgA;rw[if_pos ok,e2]
theorem rd_0 (hm:may s.p s.c s.m=true) (q0:0≤q) (q1:q<s.p):okPg s q 0=true∧pgK s q 0=0∧pgA s q 0=0:=
 rd_pg (k:=0) (a:=0) (b:=0) hm q0 q1 (by decide) (by decide) (by decide) (by decide) (by decide) (by decide) (by decide) (by unfold fits;simp)
theorem rd_h {c:Int} (hm:may s.p s.c s.m=true) (q0:0≤q) (q1:q<s.p) (c0:0≤c) (c1:c<s.c):okPg s q (1+16*c)=true∧pgK s q (1+16*c)=1∧pgA s q (1+16*c)=c:=by
 have hb:=(may_iff _ _ _).1 hm
 have:=rd_pg (s:=s) (q:=q) (k:=1) (a:=c) (b:=0) hm q0 q1 (by decide) (by decide) c0 (by omega) (by decide) (by decide) (by unfold putPg;rw[if_pos (by omega)]) (by unfold fits;simp;omega)
 rw[show(1:Int)+16*c+4096*0=1+16*c by omega]at this;exact this
theorem rd_s {k x:Int} (hm:may s.p s.c s.m=true) (q0:0≤q) (q1:q<s.p) (h:Sup s k x):okPg s q x=true∧pgK s q x=2∧pgA s q x=k:=by
 have hb:=(may_iff _ _ _).1 hm
 obtain⟨k0,k1,b,b0,b1,rfl⟩:=h
 exact rd_pg (k:=2) hm q0 q1 (by decide) (by decide) k0 (by omega) b0 (by omega) (by unfold putPg;rw[if_pos (by omega)]) (by unfold fits;simp;omega)
theorem rd_l {n:Int} (hm:may s.p s.c s.m=true) (q0:0≤q) (q1:q<s.p) (n1:1≤n) (n8:n≤8) (nq:q+n≤s.p):okPg s q (3+16*n)=true∧pgK s q (3+16*n)=3∧pgA s q (3+16*n)=n:=by
 have:=rd_pg (s:=s) (q:=q) (k:=3) (a:=n) (b:=0) hm q0 q1 (by decide) (by decide) (by omega) (by omega) (by decide) (by decide) (by unfold putPg;rw[if_pos (by omega)]) (by unfold fits;simp;omega)
 rw[show(3:Int)+16*n+4096*0=3+16*n by omega]at this;exact this
theorem rd_b {h:Int} (hm:may s.p s.c s.m=true) (q1:q<s.p) (h0:0≤h) (h1:h<q) (h2:q<h+8):okPg s q (4+16*h)=true∧pgK s q (4+16*h)=4∧pgA s q (4+16*h)=h:=by
 have hb:=(may_iff _ _ _).1 hm
 have:=rd_pg (s:=s) (q:=q) (k:=4) (a:=h) (b:=0) hm (by omega) q1 (by decide) (by decide) (by omega) (by omega) (by decide) (by decide) (by unfold putPg;rw[if_pos (by omega)]) (by unfold fits;simp;omega)
 rw[show(4:Int)+16*h+4096*0=4+16*h by omega]at this;exact this
end Ow
end Go.Ma
namespace Go.Ma
open Go.Pl
namespace Ow
theorem held_v {c:Int} (h0:0≤c) (h1:c≤255):held c=1+16*c:=by unfold held putPg;rw[if_pos (by omega)];omega
theorem body_v {c:Int} (h0:0≤c) (h1:c≤255):putPg 4 c 0=4+16*c:=by unfold putPg;rw[if_pos (by omega)];omega
theorem super_v {k c:Int} (h0:0≤k) (h1:k≤255) (h2:0≤c) (h3:c≤255):super k c=2+16*k+4096*c:=by unfold super putPg;rw[if_pos (by omega)]
theorem large_v {n:Int} (h0:0≤n) (h1:n≤255):putPg 3 n 0=3+16*n:=by unfold putPg;rw[if_pos (by omega)];omega
theorem way_v {c:Int} (h0:0≤c) (h1:c≤255):way c=2+16*c:=by unfold way putSl;rw[if_pos (by omega)]
theorem opn_v {k:Int} (h0:0≤k) (h1:k≤255):opn k=1+16*k:=by unfold opn putSl;rw[if_pos (by omega)]
theorem taken_v {k:Int} (h0:0≤k) (h1:k≤255):taken k=3+16*k:=by unfold taken putSl;rw[if_pos (by omega)]
theorem slots_k {k:Int} (h:0<slots k):0≤k∧k≤3:=by
 unfold slots at h;split at h
 ·omega
 ·split at h
  ·omega
  ·split at h
   ·omega
   ·split at h<;>omega
end Ow
open Ow

/-! ### The stripper -/
namespace St
def hp (t:St) (q:Int):Prop:=t.hd=true∧q=t.p
def hs (t:St) (q i:Int):Prop:=t.hd=false∧q=t.p∧0≤i∧i<t.i
theorem own {t:St} {w:Wd} {s:Sh} {c:Int} {A:Int→Prop} {B:Int→Int→Prop} (hs':t.s=s) (hc':t.c=c) (wf:t.wf) (hd:t.dn=false) (hh:t.hd=false) (hB:Bs s w.ws)
  (ho:Own s w.ws c ⟨fun q=>A q∨t.hp q,B,t.hs⟩) (hk:0<t.i→Sup s t.k (pgAt s w.ws t.p)) :
  Nx s c w.ws (t.step w).2.ws ⟨fun q=>A q∨(t.step w).1.hp q,B,(t.step w).1.hs⟩∧((t.step w).1.hd=false→0<(t.step w).1.i→Sup s t.k (pgAt s (t.step w).2.ws t.p)) ∧
   ((t.step w).1.dn=true→(t.step w).1.hd=false→(t.step w).1.i=0)∧((t.step w).1.dn=false→(t.step w).1.hd=false)∧((t.step w).1.hd=true→∀ q i,q=t.p→0≤i→i<16→slAt s (t.step w).2.ws q i=0∨slAt s (t.step w).2.ws q i=2+16*c):=by
 obtain⟨hm,c0,c1,p0,p1,k0,i0,i1,hbk⟩:=wf.of hd
 rw[hs']at hm c1 p1
 rw[hc']at c0 c1
 have hb:=(may_iff _ _ _).1 hm
 obtain⟨k0',k3⟩:=slots_k k0
 have hsl:=slots_four k0' k3
 have hat:∀ i,t.at' i=slot s.p s.c s.m t.p i:=fun i=>by unfold St.at';rw[hs']
 have hpat:t.pat=page s.p s.c s.m t.p:=by unfold St.pat;rw[hs']
 by_cases hb':t.bk=true
 ·have hi:=hbk hb'
  have es:t.step w=({ t with i:=t.i - 1,dn:=decide (t.i - 1=0) },w.store t.c (t.at' (t.i - 1)) (opn t.k)):=by unfold St.step;rw[if_neg (by rw[hd];decide),if_pos hb']
  rw[es]
  have hsup:=hk hi
  have nx:=freeO (o':=⟨fun q=>A q∨t.hp q,B,({ t with i:=t.i - 1,dn:=decide (t.i - 1=0) }:St).hs⟩) hm hB ho c0 c1 p0 p1 (i:=t.i - 1) (k:=t.k) (y:=1+16*t.k) (by omega) (by omega) hsup ⟨hh,rfl,by omega,by omega⟩ (.inl rfl) rfl rfl (fun x j=>by
   show(t.hd=false∧x=t.p∧0≤j∧j<t.i - 1)↔(t.hd=false∧x=t.p∧0≤j∧j<t.i)∧¬ (x=t.p∧j=t.i - 1)
   constructor
   ·rintro⟨a,b,c,d⟩;exact⟨⟨a,b,c,by omega⟩,fun g=>by omega⟩
   ·rintro⟨⟨a,b,c,d⟩,g⟩;exact⟨a,b,c,by omega⟩)
  have ew:(w.store t.c (t.at' (t.i - 1)) (opn t.k)).ws=upW w.ws (slot s.p s.c s.m t.p (t.i - 1)) (1+16*t.k):=by rw[store_ws,hat,opn_v k0' (by omega)]
  rw[ew]
  refine⟨nx,fun _ _=>?_,fun g _=>by have:=of_decide_eq_true g;exact this,fun _=>hh,fun g=>by have g:t.hd=true:=g;rw[hh]at g;cases g⟩
  rw[pg_sl hm p0 p1 (by omega) (by omega) p0 p1];exact hsup
 by_cases hi:t.i=slots t.k
 ·have es:t.step w=({ t with hd:=true,dn:=true },w.store t.c t.pat (held t.c)):=by unfold St.step;rw[if_neg (by rw[hd];decide),if_neg hb',if_pos hi]
  rw[es]
  have hsup:=hk (by omega)
  have nx:=claimS (o':=⟨fun q=>A q∨({ t with hd:=true,dn:=true }:St).hp q,B,({ t with hd:=true,dn:=true }:St).hs⟩) hm hB ho c0 c1 p0 p1 hsup (fun i a b=>⟨hh,rfl,a,by omega⟩) (fun x=>by
   show(A x∨(true=true∧x=t.p))↔(A x∨(t.hd=true∧x=t.p))∨x=t.p
   rw[hh];simp) rfl (fun x j=>by
   show(true=false∧_)↔(t.hd=false∧x=t.p∧0≤j∧j<t.i)∧x≠t.p
   constructor
   ·rintro⟨g,-⟩;cases g
   ·rintro⟨⟨-,g,-⟩,g2⟩;exact absurd g g2)
  have ew:(w.store t.c t.pat (held t.c)).ws=upW w.ws (page s.p s.c s.m t.p) (1+16*c):=by rw[store_ws,hpat,hc',held_v c0 (by omega)]
  rw[ew]
  refine⟨nx,fun g=>(by cases g),fun _ g=>(by cases g),fun g=>(by cases g),fun _ q i e a b=>?_⟩
  rw[e,sl_pg hm p0 p1 p0 a]
  rcases (hB.pg t.p p0 p1).sup (by omega) hsup i a b with⟨g,-⟩|⟨-,g⟩
  ·exact .inr ((ho.sl t.p i p0 p1 a b).2 (.inl ⟨hh,rfl,a,by omega⟩)).2
  ·exact .inl g
 have hg:w.get (t.at' t.i)=slAt s w.ws t.p t.i:=by rw[hat,slot_at hm p0 p1 i0 (by omega)]
 by_cases hz:w.get (t.at' t.i)=opn t.k
 ·have es:t.step w=({ t with i:=t.i+1 },w.swap t.c (t.at' t.i) (opn t.k) (way t.c)):=by unfold St.step;rw[if_neg (by rw[hd];decide),if_neg hb',if_neg hi,if_pos hz]
  rw[es]
  have hz2:=hz
  rw[hg,opn_v k0' (by omega)]at hz2
  have hsup:=((hB.pg t.p p0 p1).open (by omega) k0' k3 i0 (by omega) (.inl hz2)).1
  have nx:=claimO (o':=⟨fun q=>A q∨t.hp q,B,({ t with i:=t.i+1 }:St).hs⟩) hm hB ho c0 c1 p0 p1 i0 (by omega) k0' k3 (.inl hz2) rfl rfl (fun x j=>by
   show(t.hd=false∧x=t.p∧0≤j∧j<t.i+1)↔(t.hd=false∧x=t.p∧0≤j∧j<t.i)∨(x=t.p∧j=t.i)
   constructor
   ·rintro⟨a,b,c,d⟩
    by_cases g:j=t.i
    ·exact .inr ⟨b,g⟩
    ·exact .inl ⟨a,b,c,by omega⟩
   ·rintro(⟨a,b,c,d⟩|⟨b,d⟩)
    ·exact⟨a,b,c,by omega⟩
    ·exact⟨hh,b,by omega,by omega⟩)
  have ew:(w.swap t.c (t.at' t.i) (opn t.k) (way t.c)).ws=upW w.ws (slot s.p s.c s.m t.p t.i) (2+16*c):=by rw[swap_yes hz,hat,hc',way_v c0 (by omega)]
  rw[ew]
  refine⟨nx,fun _ _=>?_,fun g=>(by have g:t.dn=true:=g;rw[hd]at g;cases g),fun _=>hh,fun g=>by have g:t.hd=true:=g;rw[hh]at g;cases g⟩
  rw[pg_sl hm p0 p1 i0 (by omega) p0 p1];exact hsup
 ·have es:t.step w=({ t with bk:=true,dn:=decide (t.i=0) },w.swap t.c (t.at' t.i) (opn t.k) (way t.c)):=by unfold St.step;rw[if_neg (by rw[hd];decide),if_neg hb',if_neg hi,if_neg hz]
  rw[es]
  have ew:(w.swap t.c (t.at' t.i) (opn t.k) (way t.c)).ws=w.ws:=swap_no hz
  rw[ew]
  exact⟨Nx.id hB ho,fun _ g=>hk g,fun g _=>of_decide_eq_true g,fun _=>hh,fun g=>by have g:t.hd=true:=g;rw[hh]at g;cases g⟩
end St

/-! ### The binder -/
namespace Bi
def hp (t:Bi) (q:Int):Prop:=t.bd=false∧q=t.p
def hs (t:Bi) (q i:Int):Prop:=t.bd=true∧q=t.p∧0≤i∧i≤t.i
def ho (t:Bi):Ho:=⟨t.hp,fun _ _=>False,t.hs⟩
def Ft (s:Sh) (t:Bi) (ws:Nat→Int):Prop:=(t.bd=false→∀ j,0≤j→j<t.i→slAt s ws t.p j=if j<slots t.k then 2+16*t.c else 0)∧(t.bd=true→Sup s t.k (pgAt s ws t.p))
theorem own {t:Bi} {w:Wd} {s:Sh} {c:Int} (hs':t.s=s) (hc':t.c=c) (wf:t.wf) (hd:t.dn=false) (hB:Bs s w.ws) (ho':Own s w.ws c t.ho) (hf:t.Ft s w.ws) :
  Nx s c w.ws (t.step w).2.ws (t.step w).1.ho∧(t.step w).1.Ft s (t.step w).2.ws∧((t.step w).1.dn=true→(t.step w).1.bd=true∧(t.step w).1.i=0):=by
 obtain⟨hm,c0,c1,p0,p1,k0,i0,i1,hbd⟩:=wf.of hd
 rw[hs']at hm c1 p1
 have c0':=c0
 have c1':=c1
 rw[hc']at c0 c1
 have hb:=(may_iff _ _ _).1 hm
 obtain⟨k0',k3⟩:=slots_k k0
 have hsl:=slots_four k0' k3
 have hat:t.at'=slot s.p s.c s.m t.p t.i:=by unfold Bi.at';rw[hs']
 have hpat:t.pat=page s.p s.c s.m t.p:=by unfold Bi.pat;rw[hs']
 by_cases hbd':t.bd=true
 ·obtain⟨g1,g2⟩:=hbd hbd'
  have hsup:=hf.2 hbd'
  have es:t.step w=({ t with i:=t.i - 1,dn:=decide (t.i - 1=0) },w.store t.c t.at' (opn t.k)):=by unfold Bi.step;rw[if_neg (by rw[hd];decide),if_pos hbd']
  rw[es]
  have ew:(w.store t.c t.at' (opn t.k)).ws=upW w.ws (slot s.p s.c s.m t.p t.i) (1+16*t.k):=by rw[store_ws,hat,opn_v k0' (by omega)]
  rw[ew]
  refine⟨freeO hm hB ho' c0 c1 p0 p1 (by omega) (by omega) hsup ⟨hbd',rfl,by omega,by omega⟩ (.inl rfl) rfl rfl fun x j=>?_,⟨fun g=>?_,fun _=>?_⟩,fun g=>⟨hbd',of_decide_eq_true g⟩⟩
  ·show(t.bd=true∧x=t.p∧0≤j∧j≤t.i - 1)↔(t.bd=true∧x=t.p∧0≤j∧j≤t.i)∧¬ (x=t.p∧j=t.i)
   constructor
   ·rintro⟨a,b,c,d⟩;exact⟨⟨a,b,c,by omega⟩,fun g=>by omega⟩
   ·rintro⟨⟨a,b,c,d⟩,g⟩;exact⟨a,b,c,by omega⟩
  ·have g:t.bd=false:=g
   rw[hbd']at g;cases g
  ·rw[pg_sl hm p0 p1 (by omega) (by omega) p0 p1];exact hsup
 have hbd'':t.bd=false:=by cases e:t.bd;rfl;exact absurd e hbd'
 have hf1:=hf.1 hbd''
 by_cases hi:t.i=16
 ·have es:t.step w=({ t with bd:=true,i:=slots t.k - 1 },w.store t.c t.pat (super t.k t.c)):=by unfold Bi.step;rw[if_neg (by rw[hd];decide),if_neg hbd',if_pos hi]
  rw[es]
  have ew:(w.store t.c t.pat (super t.k t.c)).ws=upW w.ws (page s.p s.c s.m t.p) (2+16*t.k+4096*c):=by rw[store_ws,hpat,hc',super_v k0' (by omega) c0 (by omega)]
  rw[ew]
  refine⟨bind hm hB ho' c0 c1 p0 p1 k0' k3 ⟨hbd'',rfl⟩ (fun i a b=>by rw[hf1 i a (by omega),hc']) (fun x _ _ g=>g) (fun x=>?_) rfl (fun x j=>?_),⟨fun g=>(by cases g),fun _=>?_⟩,fun g=>by have g:t.dn=true:=g;rw[hd]at g;cases g⟩
  ·show(true=false∧x=t.p)↔(t.bd=false∧x=t.p)∧x≠t.p
   constructor
   ·rintro⟨g,-⟩;cases g
   ·rintro⟨⟨-,g⟩,g2⟩;exact absurd g g2
  ·show(true=true∧x=t.p∧0≤j∧j≤slots t.k - 1)↔(t.bd=true∧x=t.p∧0≤j∧j≤t.i)∨(x=t.p∧0≤j∧j<slots t.k)
   constructor
   ·rintro⟨a,b,c,d⟩;exact .inr ⟨b,c,by omega⟩
   ·rintro(⟨a,b,c,d⟩|⟨b,c,d⟩)
    ·rw[hbd'']at a;cases a
    ·exact⟨rfl,b,c,by omega⟩
  ·rw[pg_pg hm p0 p1 p0 p1,if_pos rfl];exact⟨k0',k3,c,c0,c1,rfl⟩
 ·have es:t.step w=({ t with i:=t.i+1 },w.store t.c t.at' (if t.i<slots t.k then way t.c else 0)):=by unfold Bi.step;rw[if_neg (by rw[hd];decide),if_neg hbd',if_neg hi]
  rw[es]
  have ew:(w.store t.c t.at' (if t.i<slots t.k then way t.c else 0)).ws=upW w.ws (slot s.p s.c s.m t.p t.i) (if t.i<slots t.k then 2+16*c else 0):=by
   rw[store_ws,hat,hc',way_v c0 (by omega)]
  rw[ew]
  have heq:({ t with i:=t.i+1 }:Bi).ho=t.ho:=by
   have:({ t with i:=t.i+1 }:Bi).hs=t.hs:=by
    funext x j
    show(t.bd=true∧x=t.p∧0≤j∧j≤t.i+1)=(t.bd=true∧x=t.p∧0≤j∧j≤t.i)
    rw[hbd''];simp
   unfold Bi.ho;rw[this];rfl
  show Nx s c w.ws _ ({ t with i:=t.i+1 }:Bi).ho∧_∧_
  rw[heq]
  refine⟨hslot hm hB ho' c0 c1 p0 p1 i0 (by omega) ⟨hbd'',rfl⟩ ?_,⟨fun _ j j0 j1=>?_,fun g=>?_⟩,fun g=>by have g:t.dn=true:=g;rw[hd]at g;cases g⟩
  ·split
   ·exact .inr rfl
   ·exact .inl rfl
  ·have j1:j<t.i+1:=j1
   show slAt s _ t.p j=if j<slots t.k then 2+16*t.c else 0
   rw[sl_sl hm p0 p1 i0 (by omega) p0 j0 (by omega)]
   by_cases e:j=t.i
   ·rw[if_pos ⟨rfl,e⟩,e,hc']
   ·rw[if_neg fun g=>e g.2];exact hf1 j j0 (by omega)
  ·have g:t.bd=true:=g
   exact absurd g hbd'
theorem step_same {t:Bi} {w:Wd}:(t.step w).1.p=t.p∧(t.step w).1.k=t.k∧(t.step w).1.c=t.c:=by
 unfold Bi.step;split
 ·exact⟨rfl,rfl,rfl⟩
 ·split
  ·exact⟨rfl,rfl,rfl⟩
  ·split<;>exact⟨rfl,rfl,rfl⟩
theorem Ft.rel {t:Bi} {s:Sh} {ws ws':Nat→Int} (hp:0≤t.p∧t.p<s.p) (hi:t.i≤16) (hi2:t.bd=true→0≤t.i) (ho':Own s ws t.c t.ho) (r:Rel s t.c ws ws') (h:t.Ft s ws):t.Ft s ws':=by
 refine⟨fun g j j0 j1=>?_,fun g=>?_⟩
 ·rw[r.hs t.p j hp.1 hp.2 j0 (by omega) ((ho'.pg t.p hp.1 hp.2).2 ⟨g,rfl⟩)];exact h.1 g j j0 j1
 ·have:=(ho'.sl t.p 0 hp.1 hp.2 (by omega) (by omega)).2 (.inl ⟨g,rfl,by omega,hi2 g⟩)
  rw[r.sp t.p 0 hp.1 hp.2 (by omega) (by omega) this.1 this.2];exact h.2 g
end Bi

/-! ### The seeker -/
namespace Ow
def nil:Ho:=⟨fun _=>False,fun _ _=>False,fun _ _=>False⟩
def one (p i:Int):Ho:=⟨fun _=>False,fun _ _=>False,fun q j=>q=p∧j=i⟩
theorem Own.congr {s:Sh} {ws:Nat→Int} {c:Int} {o o':Ho} (h:Own s ws c o) (h1:∀ q,o'.hp q↔o.hp q) (h2:∀ q h,o'.hb q h↔o.hb q h) (h3:∀ q i,o'.hs q i↔o.hs q i):Own s ws c o':=
 ⟨fun q a b=>by rw[h1];exact h.pg q a b,fun q d a b a' b'=>by rw[h2];exact h.bd q d a b a' b',fun q i a b a' b'=>by rw[h3];exact h.sl q i a b a' b',fun q i a b a' b'=>by rw[h3];exact h.dj q i a b a' b'⟩
theorem Nx.congr {s:Sh} {ws ws':Nat→Int} {c:Int} {o o':Ho} (h:Nx s c ws ws' o) (h1:∀ q,o'.hp q↔o.hp q) (h2:∀ q h,o'.hb q h↔o.hb q h) (h3:∀ q i,o'.hs q i↔o.hs q i):Nx s c ws ws' o':=⟨⟨h.bs,h.ow.congr h1 h2 h3,h.re⟩,h.mw⟩
end Ow
namespace Sk
def ho (t:Sk):Ho:=if t.dn then(if t.fd then one t.pg t.sl else nil) else match t.nw with
 | .st m=>⟨m.hp,fun _ _=>False,m.hs⟩
 | .bi m=>m.ho
 | _=>nil
def FtN (s:Sh) (c k:Int) (n:Nw) (ws:Nat→Int):Prop:=match n with
 | .tk m=>m.hit=true→0≤m.ep∧m.ep<s.p∧0≤m.es∧m.es<slots k∧mgAt s ws c m.i=1+16*m.ep+4096*m.es+1048576*k
 | .st m=>m.hd=false∧(0<m.i→Sup s m.k (pgAt s ws m.p))
 | .bi m=>m.Ft s ws
 | _=>True
def Ft (s:Sh) (t:Sk) (ws:Nat→Int):Prop:=if t.dn then(t.fd=true→0≤t.pg∧t.pg<s.p∧0≤t.sl∧t.sl<slots t.k∧Sup s t.k (pgAt s ws t.pg)) else FtN s t.c t.k t.nw ws
structure In (s:Sh) (c:Int) (t:Sk) (ws:Nat→Int):Prop where
 m:may s.p s.c s.m=true
 c0:0≤c
 c1:c<s.c
 wf:t.wf
 es:t.s=s
 ec:t.c=c
 ow:Own s ws c t.ho
 ft:t.Ft s ws
section
variable {s:Sh} {c:Int} {t:Sk} {w:Wd}
theorem ho_nil (hd:t.dn=false) {n:Nw} (e:t.nw=n) (h:(∃ m,n=.tk m)∨(∃ m,n=.sc m)∨(∃ m,n=.pc m)∨n=.no):t.ho=nil:=by
 unfold ho
 rw[hd,e]
 rcases h with⟨m,rfl⟩|⟨m,rfl⟩|⟨m,rfl⟩| rfl<;>rfl
theorem ho_st (hd:t.dn=false) {m:St} (e:t.nw=.st m):t.ho=⟨m.hp,fun _ _=>False,m.hs⟩:=by unfold ho;rw[hd,e];rfl
theorem ho_bi (hd:t.dn=false) {m:Bi} (e:t.nw=.bi m):t.ho=m.ho:=by unfold ho;rw[hd,e];rfl
theorem ho_fin (p i:Int):(t.fin p i).ho=one p i:=by unfold ho fin;rfl
theorem ho_turn:t.fd=false→t.turn.ho=nil:=fun hf=>by
 unfold ho turn
 show(if decide (t.many+1=t.s.p)=true then(if t.fd=true then _ else nil) else nil)=nil
 rw[hf];split<;>rfl
theorem ho_bind (p:Int) (hd:t.dn=false):(t.bind p).ho=(Bi.new t.s t.c p t.k).ho:=ho_bi (t:=t.bind p) hd rfl
theorem Ft_turn {ws:Nat→Int} (hf:t.fd=false):t.turn.Ft s ws:=by
 unfold Ft turn
 show if decide (t.many+1=t.s.p)=true then(t.fd=true→_) else FtN s t.c t.k .no ws
 split
 ·rw[hf];exact fun g=>by cases g
 ·trivial
theorem Ft_of {ws:Nat→Int} (hd:t.dn=false) {n:Nw} (e:t.nw=n):t.Ft s ws=FtN s t.c t.k n ws:=by
 unfold Ft;rw[hd,e];rfl
theorem Ft_bind {ws:Nat→Int} (p:Int) (hd:t.dn=false):(t.bind p).Ft s ws:=by
 rw[Ft_of (t:=t.bind p) hd rfl]
 exact⟨fun _ j j0 j1=>by have j1:j<0:=j1;omega,fun g=>by cases g⟩
theorem hp_new (s':Sh) (c' p k:Int) (q:Int):(Bi.new s' c' p k).ho.hp q↔q=p:=⟨fun g=>(show false=false∧q=p from g).2,fun g=>(show false=false∧q=p from⟨rfl,g⟩)⟩
theorem hs_new (s':Sh) (c' p k:Int) (q i:Int):(Bi.new s' c' p k).ho.hs q i↔False:=⟨fun g=>(by cases (show false=true∧_ from g).1),fun g=>g.elim⟩
theorem In.step' (h:In s c t w.ws) (hB:Bs s w.ws):Nx s c w.ws (t.step w).2.ws (t.step w).1.ho∧(t.step w).1.Ft s (t.step w).2.ws:=by
 have hm:=h.m
 have hb:=(may_iff _ _ _).1 hm
 have c0:=h.c0
 have c1:=h.c1
 have hts:=h.es
 have htc:=h.ec
 have ow:=h.ow
 have ft:=h.ft
 rcases step_cases t w with⟨hd,e⟩|⟨hd,hc⟩
 ·rw[e];exact⟨Nx.id hB ow,ft⟩
 have hfd:=h.wf.fd hd
 obtain⟨ok,nd⟩:=h.wf.nw hd
 obtain⟨b1,b2,b3,b4,b5,b6,b7,b8⟩:=h.wf.of hd
 obtain⟨k0,k3⟩:=slots_k b4
 have hsk:=slots_four k0 k3
 have hnil:∀ (u:Sk) (ws':Nat→Int),ws'=w.ws→t.ho=nil→u.ho=nil→u.Ft s ws'→Nx s c w.ws ws' u.ho∧u.Ft s ws':=fun u ws' g1 g2 g3 g4=>by
  rw[g1]at g4 ⊢;rw[g3];rw[g2]at ow;exact⟨Nx.id hB ow,g4⟩
 rcases hc with⟨m,en,e⟩|⟨m,en,e⟩|⟨m,en,e⟩|⟨en,e⟩|⟨m,en,e⟩|⟨m,en,e⟩<;>rw[e]
 ·
  rw[en]at ok nd
  have nd:m.dn=false:=nd
  obtain⟨o1,o2,o3,o4,o5,o6⟩:=ok
  obtain⟨-,-,-,i0,i1⟩:=o1.of nd
  rw[o2,hts]at i1
  have t0:=ho_nil hd en (.inl ⟨m,rfl⟩)
  rw[t0]at ow
  rw[Ft_of hd en]at ft
  have hat:m.at'=mag s.p s.c s.m c m.i:=by unfold Tk.at';rw[o2,hts,o3,htc]
  have hg:w.get m.at'=mgAt s w.ws c m.i:=by rw[hat,mag_at hm c0 c1 i0 i1]
  cases hh:m.hit
  ·cases hhits:m.hits w
   ·have es:m.step w=({ m with i:=m.i+1,dn:=decide (m.i+1=m.s.m) },w.load m.c m.at'):=by
     unfold Tk.step;rw[if_neg (by rw[nd];decide),if_neg (by rw[hh];decide),if_neg (by rw[hhits];decide)]
    rw[es]
    by_cases hl:m.i+1=m.s.m
    ·rw[Sa.set_af _ (by exact decide_eq_true hl)]
     have ea:({ t with nw:=.tk { m with i:=m.i+1,dn:=decide (m.i+1=m.s.m) } }:Sk).after = { t with nw:=.sc (Sc.new t.s t.c t.k t.f) }:=by
      show(if m.fd then _ else _:Sk)=_;rw[o6 nd];rfl
     rw[ea]
     refine hnil _ _ rfl t0 (ho_nil (t:={ t with nw:=.sc (Sc.new t.s t.c t.k t.f) }) hd rfl (.inr (.inl ⟨_,rfl⟩))) ?_
     rw[Ft_of (t:={ t with nw:=.sc (Sc.new t.s t.c t.k t.f) }) hd rfl];trivial
    ·rw[Sa.set_go _ (by exact decide_eq_false hl)]
     refine hnil _ _ rfl t0 (ho_nil (t:={ t with nw:=.tk _ }) hd rfl (.inl ⟨_,rfl⟩)) ?_
     rw[Ft_of (t:={ t with nw:=.tk _ }) hd rfl]
     exact fun g=>by have g:m.hit=true:=g;rw[hh]at g;cases g
   ·have hh2:=hhits
    unfold Tk.hits at hh2
    rw[hg,o2,hts,o4]at hh2
    simp only[Bool.and_eq_true,decide_eq_true_eq]at hh2
    obtain⟨hok,hek⟩:=hh2
    have es:m.step w=({ m with ep:=enP m.s (w.get m.at'),es:=enS m.s (w.get m.at'),ek:=enK m.s (w.get m.at'),hit:=true },w.load m.c m.at'):=by
     unfold Tk.step;rw[if_neg (by rw[nd];decide),if_neg (by rw[hh];decide),if_pos hhits]
    rw[es,Sa.set_go _ (by exact nd)]
    refine hnil _ _ rfl t0 (ho_nil (t:={ t with nw:=.tk _ }) hd rfl (.inl ⟨_,rfl⟩)) ?_
    rw[Ft_of (t:={ t with nw:=.tk _ }) hd rfl]
    intro _
    show 0≤enP m.s (w.get m.at')∧enP m.s (w.get m.at')<s.p∧0≤enS m.s (w.get m.at')∧enS m.s (w.get m.at')<slots t.k∧mgAt s w.ws t.c m.i=1+16*enP m.s (w.get m.at')+4096*enS m.s (w.get m.at')+1048576*t.k
    rw[hg,o2,hts,htc]
    have hne:mgAt s w.ws c m.i≠0:=fun g=>by
     rw[g]at hok
     unfold okEn at hok
     simp only[Bool.and_eq_true,decide_eq_true_eq]at hok
     have:=hok.1
     have e0:putEn (pt 0 16) (pt 0 4096) (pt 0 1048576)=1:=by decide
     omega
    obtain⟨p,i,k',g1,g2,g3,g4,g5,g6,g7⟩:=hB.mg c m.i c0 c1 i0 i1 hne
    have hk':=g6.bd
    have hs':=slots_bd k'
    have hpe:mgAt s w.ws c m.i=putEn p i k':=by unfold putEn;rw[if_pos (by omega)];exact g5
    obtain⟨f1,f2,f3,f4,f5⟩:=en_put hm g1 g2 g3 g4 hk'.1 hk'.2
    rw[hpe]at hek ⊢
    rw[f2,f3]
    rw[f4]at hek
    subst hek
    exact⟨g1,g2,g3,g4,by rw[← hpe];exact g5⟩
  ·obtain⟨e0,e1,e2,e3,e4⟩:=ft hh
   rw[htc]at e4
   have es:m.step w=({ m with fd:=true,dn:=true },w.store m.c m.at' 0):=by
    unfold Tk.step;rw[if_neg (by rw[nd];decide),if_pos hh]
   rw[es,Sa.set_af _ rfl]
   have ea:({ t with nw:=.tk { m with fd:=true,dn:=true } }:Sk).after=({ t with nw:=.tk { m with fd:=true,dn:=true } }:Sk).fin m.ep m.es:=rfl
   rw[ea,ho_fin]
   have ew:(w.store m.c m.at' 0).ws=upW w.ws (mag s.p s.c s.m c m.i) 0:=by rw[store_ws,hat]
   rw[ew]
   refine⟨take hm hB ow c0 c1 i0 i1 e2 (by omega) e0 (by omega) k0 k3 e4 rfl rfl fun x i'=>?_,fun _=>⟨e0,e1,e2,e3,?_⟩⟩
   ·exact⟨fun g=>.inr g,fun g=>g.resolve_left id⟩
   ·show Sup s t.k (pgAt s (upW w.ws (mag s.p s.c s.m c m.i) 0) m.ep)
    rw[pg_mg hm c0 c1 i0 i1 e0 e1]
    obtain⟨p,i,k',g1,g2,g3,g4,g5,g6,g7⟩:=hB.mg c m.i c0 c1 i0 i1 (by omega)
    have hk':=g6.bd
    have hs':=slots_bd k'
    have:p=m.ep:=by omega
    have e5:k'=t.k:=by omega
    rw[← this,← e5];exact g6
 ·
  rw[en]at ok nd
  have nd:m.dn=false:=nd
  obtain⟨o1,o2,o3,o4,o5,-,o7,-⟩:=ok
  obtain⟨-,-,-,-,-,q0,q1,i0,i1,x0,x1⟩:=o1.of nd
  have t0:=ho_nil hd en (.inr (.inl ⟨m,rfl⟩))
  rw[o4]at i1
  have hsp:m.s.p=s.p:=by rw[o2,hts]
  have hq:0≤m.pg∧m.pg<s.p:=by unfold Sc.pg;rw[hsp];exact mod_bd (by omega)
  have hat:m.at'=slot s.p s.c s.m m.pg m.i:=by unfold Sc.at';rw[o2,hts]
  have hgs:w.get m.at'=slAt s w.ws m.pg m.i:=by rw[hat,slot_at hm hq.1 hq.2 i0 (by omega)]
  have go:∀ (m':Sc) (w':Wd),w'.ws=w.ws→m'.fd=false→Nx s c w.ws w'.ws (t.set (.sc m')).ho∧(t.set (.sc m')).Ft s w'.ws:=fun m' w' g1 g2=>by
   cases hd':m'.dn
   ·rw[Sa.set_go _ (by exact hd')]
    refine hnil _ _ g1 t0 (ho_nil (t:={ t with nw:=.sc _ }) hd rfl (.inr (.inl ⟨_,rfl⟩))) ?_
    rw[Ft_of (t:={ t with nw:=.sc _ }) hd rfl];trivial
   ·rw[Sa.set_af _ (by exact hd')]
    have ea:({ t with nw:=.sc m' }:Sk).after = { t with nw:=.pc (Pc.new t.s t.c t.f) }:=by
     show(if m'.fd then _ else _:Sk)=_;rw[g2];rfl
    rw[ea]
    refine hnil _ _ g1 t0 (ho_nil (t:={ t with nw:=.pc _ }) hd rfl (.inr (.inr (.inl ⟨_,rfl⟩)))) ?_
    rw[Ft_of (t:={ t with nw:=.pc _ }) hd rfl];trivial
  have hmf:=o7 nd
  have missf:m.miss.fd=false:=by unfold Sc.miss;split<;>exact hmf
  by_cases hx0:m.nx=0
  ·have es:m.step w=(if m.mine w then { m with nx:=1 } else m.turn,w.load m.c m.pat):=by
    unfold Sc.step;rw[if_neg (by rw[nd];decide),if_pos hx0]
   rw[es]
   exact go _ _ rfl (by split<;>exact hmf)
  by_cases hx1:m.nx=1
  ·have es:m.step w=(if w.get m.at'=opn m.k then { m with nx:=2 } else m.miss,w.load m.c m.at'):=by
    unfold Sc.step;rw[if_neg (by rw[nd];decide),if_neg hx0,if_pos hx1]
   rw[es]
   exact go _ _ rfl (by split;exact hmf;exact missf)
  by_cases hz:w.get m.at'=opn m.k
  ·have es:m.step w=({ m with fd:=true,dn:=true },w.swap m.c m.at' (opn m.k) (way m.c)):=by
    unfold Sc.step;rw[if_neg (by rw[nd];decide),if_neg hx0,if_neg hx1,if_pos hz]
   have hz2:=hz
   rw[hgs,o4,opn_v k0 (by omega)]at hz2
   rw[es,Sa.set_af _ rfl]
   have ea:({ t with nw:=.sc { m with fd:=true,dn:=true } }:Sk).after=({ t with nw:=.sc { m with fd:=true,dn:=true } }:Sk).fin m.pg m.i:=rfl
   rw[ea,ho_fin]
   rw[t0]at ow
   have ew:(w.swap m.c m.at' (opn m.k) (way m.c)).ws=upW w.ws (slot s.p s.c s.m m.pg m.i) (2+16*c):=by rw[swap_yes hz,hat,o3,htc,way_v c0 (by omega)]
   rw[ew]
   refine⟨claimO hm hB ow c0 c1 hq.1 hq.2 i0 (by omega) k0 k3 (.inl hz2) rfl rfl fun x j=>⟨fun g=>.inr g,fun g=>g.resolve_left id⟩,fun _=>⟨hq.1,hq.2,i0,i1,?_⟩⟩
   show Sup s t.k (pgAt s (upW w.ws (slot s.p s.c s.m m.pg m.i) (2+16*c)) m.pg)
   rw[pg_sl hm hq.1 hq.2 i0 (by omega) hq.1 hq.2]
   exact((hB.pg m.pg hq.1 hq.2).open (by omega) k0 k3 i0 (by omega) (.inl hz2)).1
  ·have es:m.step w=(m.miss,w.swap m.c m.at' (opn m.k) (way m.c)):=by
    unfold Sc.step;rw[if_neg (by rw[nd];decide),if_neg hx0,if_neg hx1,if_neg hz]
   rw[es]
   exact go _ _ (swap_no hz) missf
 ·
  rw[en]at ok nd
  have nd:m.dn=false:=nd
  obtain⟨o1,o2,o3,o4,-,o6,-⟩:=ok
  obtain⟨-,-,-,-,-,q0,q1⟩:=o1.of nd
  have t0:=ho_nil hd en (.inr (.inr (.inl ⟨m,rfl⟩)))
  have hsp:m.s.p=s.p:=by rw[o2,hts]
  have hq:0≤m.pg∧m.pg<s.p:=by unfold Pc.pg;rw[hsp];exact mod_bd (by omega)
  have hat:m.at'=page s.p s.c s.m m.pg:=by unfold Pc.at';rw[o2,hts]
  have hmf:=o6 nd
  have go:∀ (m':Pc) (w':Wd),w'.ws=w.ws→m'.fd=false→Nx s c w.ws w'.ws (t.set (.pc m')).ho∧(t.set (.pc m')).Ft s w'.ws:=fun m' w' g1 g2=>by
   cases hd':m'.dn
   ·rw[Sa.set_go _ (by exact hd')]
    refine hnil _ _ g1 t0 (ho_nil (t:={ t with nw:=.pc _ }) hd rfl (.inr (.inr (.inl ⟨_,rfl⟩)))) ?_
    rw[Ft_of (t:={ t with nw:=.pc _ }) hd rfl];trivial
   ·rw[Sa.set_af _ (by exact hd')]
    have ea:({ t with nw:=.pc m' }:Sk).after = { t with nw:=.no }:=by
     show(if m'.fd then _ else _:Sk)=_;rw[g2];rfl
    rw[ea]
    refine hnil _ _ g1 t0 (ho_nil (t:={ t with nw:=.no }) hd rfl (.inr (.inr (.inr rfl)))) ?_
    rw[Ft_of (t:={ t with nw:=.no }) hd rfl];trivial
  cases hem:m.em
  ·have es:m.step w=(if w.get m.at'=0 then { m with em:=true } else m.next,w.load m.c m.at'):=by
    unfold Pc.step;rw[if_neg (by rw[nd];decide),if_neg (by rw[hem];decide)]
   rw[es]
   exact go _ _ rfl (by split<;>exact hmf)
  by_cases hz:w.get m.at'=0
  ·have es:m.step w=({ m with fd:=true,dn:=true },w.swap m.c m.at' 0 (held m.c)):=by
    unfold Pc.step;rw[if_neg (by rw[nd];decide),if_pos hem,if_pos hz]
   have hz2:pgAt s w.ws m.pg=0:=by rw[hat]at hz;exact hz
   rw[es,Sa.set_af _ rfl]
   have ea:({ t with nw:=.pc { m with fd:=true,dn:=true } }:Sk).after=({ t with nw:=.pc { m with fd:=true,dn:=true } }:Sk).bind m.pg:=rfl
   rw[ea,ho_bind _ (by exact hd)]
   rw[t0]at ow
   have ew:(w.swap m.c m.at' 0 (held m.c)).ws=upW w.ws (page s.p s.c s.m m.pg) (1+16*c):=by rw[swap_yes hz,hat,o3,htc,held_v c0 (by omega)]
   rw[ew]
   refine⟨(claimE (o':=⟨fun q=>q=m.pg,fun _ _=>False,fun _ _=>False⟩) hm hB ow c0 c1 hq.1 hq.2 hz2 (fun x=>⟨fun g=>.inr g,fun g=>g.resolve_left id⟩) rfl rfl).congr (hp_new _ _ _ _) (fun _ _=>Iff.rfl) (hs_new _ _ _ _),Ft_bind _ (by exact hd)⟩
  ·have es:m.step w=(m.next,w.swap m.c m.at' 0 (held m.c)):=by
    unfold Pc.step;rw[if_neg (by rw[nd];decide),if_pos hem,if_neg hz]
   rw[es]
   exact go _ _ (swap_no hz) hmf
 ·
  have t0:=ho_nil hd en (.inr (.inr (.inr rfl)))
  unfold look
  cases hS:t.isSup w
  ·exact hnil _ _ rfl t0 (ho_turn hfd) (Ft_turn hfd)
  ·refine hnil _ _ rfl t0 ?_ ?_
   ·show Sk.ho { t with nw:=.st _ } = nil
    rw[ho_st (t:={ t with nw:=.st _ }) hd rfl]
    unfold nil
    congr 1
    ·funext q;exact eq_false fun g=>by cases g.1
    ·funext q i;exact eq_false fun g=>by
      obtain⟨-,-,g0,g1⟩:=g
      have g1:i<0:=g1
      omega
   ·show Sk.Ft s { t with nw:=.st _ } _
    rw[Ft_of (t:={ t with nw:=.st _ }) hd rfl]
    exact⟨rfl,fun g=>by have g:(0:Int)<0:=g;omega⟩
 ·
  rw[en]at ok nd
  have nd:m.dn=false:=nd
  obtain⟨o1,o2,o3,o4,o5⟩:=ok
  rw[Ft_of hd en]at ft
  rw[ho_st hd en]at ow
  have hcfg:=h.wf.cfg hd
  have hbd:=here_bd hcfg
  rw[hts]at hbd
  obtain⟨s1,s2,s3,s4,s5⟩:=St.own (A:=fun _=>False) (B:=fun _ _=>False) (o2.trans hts) (o3.trans htc) o1 nd (o5 nd) hB (ow.congr (fun q=>by simp) (fun _ _=>Iff.rfl) fun _ _=>Iff.rfl) ft.2
  have hmp:(m.step w).1.p=t.here:=by
   rw[← o4];unfold St.step;split
   ·rfl
   ·split
    ·rfl
    ·split
     ·rfl
     ·dsimp only;split<;>rfl
  cases hd':(m.step w).1.dn
  ·rw[Sa.set_go _ (by exact hd')]
   have hh':=s4 hd'
   refine⟨?_,?_⟩
   ·rw[ho_st (t:={ t with nw:=.st _ }) hd rfl]
    exact s1.congr (fun q=>by simp) (fun _ _=>Iff.rfl) fun _ _=>Iff.rfl
   ·rw[Ft_of (t:={ t with nw:=.st _ }) hd rfl]
    refine⟨hh',fun g=>?_⟩
    have hp:(m.step w).1.p=m.p:=hmp.trans o4.symm
    have hk:(m.step w).1.k=m.k:=by
     unfold St.step;split
     ·rfl
     ·split
      ·rfl
      ·split
       ·rfl
       ·dsimp only;split<;>rfl
    show Sup s (m.step w).1.k (pgAt s (m.step w).2.ws (m.step w).1.p)
    rw[hp,hk];exact s2 hh' g
  ·rw[Sa.set_af _ (by exact hd')]
   cases hh:(m.step w).1.hd
   ·have ea:({ t with nw:=.st (m.step w).1 }:Sk).after=({ t with nw:=.st (m.step w).1 }:Sk).turn:=by
     show(if(m.step w).1.hd then _ else _:Sk)=_;rw[hh];rfl
    rw[ea,ho_turn (by exact hfd)]
    refine⟨s1.congr (fun q=>?_) (fun _ _=>Iff.rfl) fun q i=>?_,Ft_turn hfd⟩
    ·exact⟨fun g=>g.elim,fun g=>by rcases g with g |⟨g,-⟩;exact g;rw[hh]at g;cases g⟩
    ·refine⟨fun g=>g.elim,fun ⟨_,_,g0,g1⟩=>?_⟩
     rw[s3 hd' hh]at g1;omega
   ·have ea:({ t with nw:=.st (m.step w).1 }:Sk).after=({ t with nw:=.st (m.step w).1 }:Sk).bind t.here:=by
     show(if(m.step w).1.hd then _ else _:Sk)=_;rw[hh];rfl
    rw[ea,ho_bind _ (by exact hd)]
    refine⟨s1.congr (fun q=>?_) (fun _ _=>Iff.rfl) (fun q i=>?_),Ft_bind _ (by exact hd)⟩
    ·rw[hp_new]
     exact⟨fun g=>.inr ⟨hh,by rw[hmp];exact g⟩,fun g=>by rcases g with g |⟨-,g⟩;exact g.elim;exact g.trans hmp⟩
    ·rw[hs_new]
     exact⟨fun g=>g.elim,fun ⟨g,_⟩=>by rw[hh]at g;cases g⟩
 ·
  rw[en]at ok nd
  have nd:m.dn=false:=nd
  obtain⟨o1,o2,o3,o4,o5,o6,o7⟩:=ok
  rw[Ft_of hd en]at ft
  rw[ho_bi hd en]at ow
  obtain⟨s1,s2,s3⟩:=Bi.own (o2.trans hts) (o3.trans htc) o1 nd hB ow ft
  have hf:=Bi.step_same (t:=m) (w:=w)
  cases hd':(m.step w).1.dn
  ·rw[Sa.set_go _ (by exact hd')]
   refine⟨?_,?_⟩
   ·rw[ho_bi (t:={ t with nw:=.bi _ }) hd rfl];exact s1
   ·rw[Ft_of (t:={ t with nw:=.bi _ }) hd rfl];exact s2
  ·rw[Sa.set_af _ (by exact hd')]
   obtain⟨g1,g2⟩:=s3 hd'
   have ea:({ t with nw:=.bi (m.step w).1 }:Sk).after=({ t with nw:=.bi (m.step w).1 }:Sk).fin t.pg 0:=rfl
   rw[ea,ho_fin]
   have hp:(m.step w).1.p=t.pg:=hf.1.trans o5
   refine⟨s1.congr (fun q=>⟨fun g=>g.elim,fun ⟨g,_⟩=>by rw[g1]at g;cases g⟩) (fun _ _=>Iff.rfl) (fun q i=>?_),fun _=>⟨o6,by rw[hts]at o7;exact o7,Int.le_refl _,b4,?_⟩⟩
   ·show(q=t.pg∧i=0)↔((m.step w).1.bd=true∧q=(m.step w).1.p∧0≤i∧i≤(m.step w).1.i)
    rw[hp,g2]
    exact⟨fun ⟨a,b⟩=>⟨g1,a,by omega,by omega⟩,fun ⟨_,a,b,d⟩=>⟨a,by omega⟩⟩
   ·have:=s2.2 g1
    rw[hp,hf.2.1,o4]at this
    exact this
theorem In.step (h:In s c t w.ws) (hB:Bs s w.ws):Nx s c w.ws (t.step w).2.ws (t.step w).1.ho∧In s c (t.step w).1 (t.step w).2.ws:=by
 obtain⟨n,f⟩:=h.step' hB
 have hk:=step_kp (t:=t) (w:=w)
 exact⟨n,⟨h.m,h.c0,h.c1,step_wf h.wf,hk.1.trans h.es,hk.2.1.trans h.ec,n.ow,f⟩⟩
theorem In.rel {ws ws':Nat→Int} (h:In s c t ws) (r:Rel s c ws ws'):In s c t ws':=by
 have hm:=h.m
 have hb:=(may_iff _ _ _).1 hm
 refine⟨h.m,h.c0,h.c1,h.wf,h.es,h.ec,h.ow.rel r,?_⟩
 have ft:=h.ft
 have ow:=h.ow
 cases hd:t.dn
 ·obtain⟨ok,nd⟩:=h.wf.nw hd
  obtain⟨b1,b2,b3,b4,b5,b6,b7,b8⟩:=h.wf.of hd
  cases en:t.nw with
  |tk m=>
   rw[en]at ok nd
   have nd:m.dn=false:=nd
   obtain⟨o1,o2,o3,-⟩:=ok
   obtain⟨-,-,-,i0,i1⟩:=o1.of nd
   rw[o2,h.es]at i1
   rw[Ft_of hd en]at ft ⊢
   intro g
   obtain⟨g1,g2,g3,g4,g5⟩:=ft g
   exact⟨g1,g2,g3,g4,by rw[h.ec]at g5 ⊢;rw[r.mg m.i i0 i1];exact g5⟩
  | sc m=>rw[Ft_of hd en];trivial
  | pc m=>rw[Ft_of hd en];trivial
  | no=>rw[Ft_of hd en];trivial
  |st m=>
   rw[en]at ok nd
   have nd:m.dn=false:=nd
   obtain⟨o1,o2,o3,-⟩:=ok
   obtain⟨-,-,-,p0,p1,k0,i0,i1,-⟩:=o1.of nd
   have hs:=slots_bd m.k
   rw[o2,h.es]at p1
   rw[Ft_of hd en]at ft ⊢
   rw[ho_st hd en]at ow
   refine⟨ft.1,fun g=>?_⟩
   have:=(ow.sl m.p 0 p0 p1 (by omega) (by omega)).2 (.inl ⟨ft.1,rfl,by omega,g⟩)
   rw[r.sp m.p 0 p0 p1 (by omega) (by omega) this.1 this.2]
   exact ft.2 g
  |bi m=>
   rw[en]at ok nd
   have nd:m.dn=false:=nd
   obtain⟨o1,o2,o3,-⟩:=ok
   obtain⟨-,-,-,p0,p1,k0,i0,i1,i2⟩:=o1.of nd
   rw[o2,h.es]at p1
   rw[Ft_of hd en]at ft ⊢
   rw[ho_bi hd en]at ow
   have hmc:m.c=c:=o3.trans h.ec
   refine Bi.Ft.rel (t:=m) ⟨p0,p1⟩ i1 (fun _=>i0) ?_ ?_ ft
   ·rw[hmc];exact ow
   ·rw[hmc];exact r
 ·unfold Ft at ft ⊢
  rw[hd]at ft ⊢
  simp only[if_true]at ft ⊢
  intro g
  obtain⟨g1,g2,g3,g4,g5⟩:=ft g
  refine⟨g1,g2,g3,g4,?_⟩
  have hs:=slots_bd t.k
  have ow:Own s ws c (one t.pg t.sl):=by
   have:t.ho=one t.pg t.sl:=by unfold ho;rw[hd,g];rfl
   rw[← this];exact ow
  have:=(ow.sl t.pg t.sl g1 g2 g3 (by omega)).2 (.inl ⟨rfl,rfl⟩)
  rw[r.sp t.pg t.sl g1 g2 g3 (by omega) this.1 this.2];exact g5
theorem In.fin {ws:Nat→Int} (h:In s c t ws) (hd:t.dn=true) (hf:t.fd=true):0≤t.pg∧t.pg<s.p∧0≤t.sl∧t.sl<slots t.k∧Sup s t.k (pgAt s ws t.pg)∧slAt s ws t.pg t.sl=2+16*c:=by
 have ft:=h.ft
 unfold Ft at ft
 rw[hd]at ft
 simp only[if_true]at ft
 obtain⟨g1,g2,g3,g4,g5⟩:=ft hf
 have hs:=slots_bd t.k
 have ow:Own s ws c (one t.pg t.sl):=by
  have:t.ho=one t.pg t.sl:=by unfold ho;rw[hd,hf];rfl
  rw[← this];exact h.ow
 exact⟨g1,g2,g3,g4,g5,((ow.sl t.pg t.sl g1 g2 g3 (by omega)).2 (.inl ⟨rfl,rfl⟩)).2⟩
theorem In.new {ws:Nat→Int} (hm:may s.p s.c s.m=true) (c0:0≤c) (c1:c<s.c) (k f:Int) (ow:Own s ws c nil):In s c (Sk.new s c k f) ws:=by
 have hk:(Sk.new s c k f).s=s∧(Sk.new s c k f).c=c:=by
  unfold Sk.new;split
  ·exact⟨(set_kp _ _).1,(set_kp _ _).2.1⟩
  ·exact⟨rfl,rfl⟩
 suffices hh:(Sk.new s c k f).ho=nil∧(Sk.new s c k f).Ft s ws from⟨hm,c0,c1,Sk.new_wf ..,hk.1,hk.2,by rw[hh.1];exact ow,hh.2⟩
 unfold Sk.new
 split
 ·cases hd:(Tk.new s c k).dn
  ·rw[Sa.set_go _ (by exact hd)]
   refine⟨ho_nil (t:=⟨s,c,k,f,.tk _,0,0,0,false,false⟩) rfl rfl (.inl ⟨_,rfl⟩),?_⟩
   rw[Ft_of (t:=⟨s,c,k,f,.tk _,0,0,0,false,false⟩) rfl rfl]
   exact fun g=>by cases g
  ·rw[Sa.set_af _ (by exact hd)]
   refine⟨ho_nil (t:=⟨s,c,k,f,.sc _,0,0,0,false,false⟩) rfl rfl (.inr (.inl ⟨_,rfl⟩)),?_⟩
   show Ft s ⟨s,c,k,f,.sc (Sc.new s c k f),0,0,0,false,false⟩ ws
   rw[Ft_of (t:=⟨s,c,k,f,.sc _,0,0,0,false,false⟩) rfl rfl]
   trivial
 ·exact⟨rfl,fun g=>by cases g⟩
end
end Sk
end Go.Ma
namespace Go.Ma
open Go.Pl
open Ow
namespace Ow
def row (a b:Int):Ho:=⟨fun q=>a≤q∧q<b,fun _ _=>False,fun _ _=>False⟩
def rw5 (hd i n:Int):Ho:=⟨fun q=>q=hd∨(i≤q∧q<hd+n),fun q h=>h=hd∧hd<q∧q<i,fun _ _=>False⟩
end Ow
theorem St.step_words {t:St} (h:t.wf) (w:Wd):(t.step w).2.ws=w.ws∨(∃ y,(t.step w).2.ws=upW w.ws (page t.s.p t.s.c t.s.m t.p) y)∨∃ j,0≤j∧j<16∧∃ y,(t.step w).2.ws=upW w.ws (slot t.s.p t.s.c t.s.m t.p j) y:=by
 unfold St.step
 cases hd:t.dn
 ·obtain⟨-,-,-,-,-,-,i0,i1,hb⟩:=h.of hd
  have hs:=slots_bd t.k
  simp only[Bool.false_eq_true,if_false]
  split
  ·rename_i e;have:=hb e;exact .inr (.inr ⟨t.i - 1,by omega,by omega,_,rfl⟩)
  ·split
   ·exact .inr (.inl ⟨_,rfl⟩)
   ·rename_i e
    refine .inr (.inr ⟨t.i,i0,by omega,_,swap_ws ..⟩)
 ·simp only[if_true];exact .inl trivial
namespace Rn
def ho (t:Rn):Ho:=if t.dn then(if t.fd then rw5 t.hd (t.hd+t.n) t.n else nil) else if t.nx≤1 then row t.hd t.at' else if t.nx=2 then ⟨fun q=>t.hd≤q∧q<t.at',fun _ _=>False,match t.st with
 | some q=>q.hs
 | none=>fun _ _=>False⟩ else if t.nx=3 then row t.hd (t.at'+1) else if t.nx=4 then row t.hd t.i else rw5 t.hd t.i t.n
structure Ft (s:Sh) (t:Rn) (ws:Nat→Int):Prop where
 z:∀ q i,0≤i→i<16→t.ho.hp q→(t.dn=false→t.nx=3→q=t.at'→i<t.i)→slAt s ws q i=0
 st:t.dn=false→t.nx=2→∀ q,t.st=some q→0<q.i→Sup s q.k (pgAt s ws q.p)
structure In (s:Sh) (c:Int) (t:Rn) (ws:Nat→Int):Prop where
 m:may s.p s.c s.m=true
 c0:0≤c
 c1:c<s.c
 wf:t.wf
 es:t.s=s
 ec:t.c=c
 ow:Own s ws c t.ho
 ft:t.Ft s ws
 fb:t.fd=true→0≤t.hd∧1≤t.n∧t.n≤8∧t.hd+t.n≤s.p
section
variable {s:Sh} {c:Int} {t:Rn} {w:Wd} {ws:Nat→Int}
theorem ho_01 (hd:t.dn=false) (h:t.nx≤1):t.ho=row t.hd t.at':=by unfold ho;rw[hd,if_neg (by decide),if_pos h]
theorem ho_2 (hd:t.dn=false) (h:t.nx=2) {q:St} (e:t.st=some q):t.ho=⟨fun q=>t.hd≤q∧q<t.at',fun _ _=>False,q.hs⟩:=by unfold ho;rw[hd,if_neg (by decide),if_neg (by omega),if_pos h,e]
theorem ho_3 (hd:t.dn=false) (h:t.nx=3):t.ho=row t.hd (t.at'+1):=by unfold ho;rw[hd,if_neg (by decide),if_neg (by omega),if_neg (by omega),if_pos h]
theorem ho_4 (hd:t.dn=false) (h:t.nx=4):t.ho=row t.hd t.i:=by unfold ho;rw[hd,if_neg (by decide),if_neg (by omega),if_neg (by omega),if_neg (by omega),if_pos h]
theorem ho_5 (hd:t.dn=false) (h:t.nx=5):t.ho=rw5 t.hd t.i t.n:=by unfold ho;rw[hd,if_neg (by decide),if_neg (by omega),if_neg (by omega),if_neg (by omega),if_neg (by omega)]
theorem ho_f (hd:t.dn=true) (h:t.fd=true):t.ho=rw5 t.hd (t.hd+t.n) t.n:=by unfold ho;rw[hd,h];rfl
theorem ho_n (hd:t.dn=true) (h:t.fd=false):t.ho=nil:=by unfold ho;rw[hd,h];rfl
structure Eq' (o o':Ho):Prop where
 p:∀ q,o'.hp q↔o.hp q
 b:∀ q h,o'.hb q h↔o.hb q h
 s:∀ q i,o'.hs q i↔o.hs q i
theorem Eq'.rfl {o:Ho}:Eq' o o:=⟨fun _=>Iff.rfl,fun _ _=>Iff.rfl,fun _ _=>Iff.rfl⟩
theorem written_ho (hd:t.dn=false) (hx:t.nx=5):t.written.ho=rw5 t.hd (t.i+1) t.n∧(t.written.dn=false→t.written.nx=5):=by
 unfold written
 split
 ·rename_i e
  exact⟨by rw[ho_f rfl rfl,e],fun g=>by cases g⟩
 ·exact⟨by rw[ho_5 (t:={ t with i:=t.i+1 }) hd hx],fun _=>hx⟩
theorem own_ho (hd:t.dn=false) (n1:1≤t.n) (a0:t.hd≤t.at'):Eq' (row t.hd (t.at'+1)) t.own.ho∧(t.own.dn=false→t.own.nx=5∨t.own.nx=0):=by
 unfold own
 split
 ·rename_i e
  obtain⟨g1,g2⟩:=written_ho (t:={ t with at':=t.at'+1,nx:=5,i:=t.hd }) hd rfl
  rw[g1]
  refine⟨⟨fun q=>?_,fun q h=>?_,fun _ _=>Iff.rfl⟩,fun g=>.inl (g2 g)⟩
  ·show(q=t.hd∨(t.hd+1≤q∧q<t.hd+t.n))↔(t.hd≤q∧q<t.at'+1);omega
  ·show(h=t.hd∧t.hd<q∧q<t.hd+1)↔False;exact⟨fun g=>by omega,fun g=>g.elim⟩
 ·rw[ho_01 (t:={ t with at':=t.at'+1,nx:=0 }) hd (by show(0:Int)≤1;decide)]
  exact⟨Eq'.rfl,fun _=>.inr rfl⟩
theorem gone_ho (hd:t.dn=false) (hf:t.fd=false) (hx:t.nx=4):Eq' (row t.hd t.i) t.gone.ho∧(t.gone.dn=false→t.gone.nx=4∨t.gone.nx=0):=by
 unfold gone
 split
 ·rw[ho_4 hd hx];exact⟨Eq'.rfl,fun _=>.inl hx⟩
 ·rename_i e
  refine⟨?_,fun _=>.inr rfl⟩
  cases hz:decide (t.s.p - t.n<t.at'+1)
  ·rw[ho_01 (by rfl) (by show(0:Int)≤1;decide)]
   refine⟨fun q=>?_,fun _ _=>Iff.rfl,fun _ _=>Iff.rfl⟩
   show(t.at'+1≤q∧q<t.at'+1)↔(t.hd≤q∧q<t.i);omega
  ·rw[ho_n (by rfl) (by exact hf)]
   refine⟨fun q=>?_,fun _ _=>Iff.rfl,fun _ _=>Iff.rfl⟩
   show False↔(t.hd≤q∧q<t.i);exact⟨fun g=>g.elim,fun g=>by omega⟩
theorem miss_ho (hd:t.dn=false) (hf:t.fd=false):Eq' (row t.hd t.at') t.miss.ho∧(t.miss.dn=false→t.miss.nx=4∨t.miss.nx=0):=
 gone_ho (t:={ t with nx:=4,i:=t.at',gx:=t.at'+1 }) hd hf rfl
theorem ft_row {a b:Int} (h:∀ q,t.ho.hp q↔a≤q∧q<b) (hz:∀ q i,a≤q→q<b→0≤i→i<16→slAt s ws q i=0) (hx:t.dn=false→t.nx≠2):t.Ft s ws:=
 ⟨fun q i i0 i1 g _=>hz q i ((h q).1 g).1 ((h q).1 g).2 i0 i1,fun g1 g2=>absurd g2 (hx g1)⟩
theorem _root_.Go.Ma.Ow.Nx.eq {c:Int} {ws ws':Nat→Int} {o o':Ho} (h:Nx s c ws ws' o) (e:Eq' o o'):Nx s c ws ws' o':=h.congr e.p e.b e.s
theorem In.step' (h:In s c t w.ws) (hB:Bs s w.ws):Nx s c w.ws (t.step w).2.ws (t.step w).1.ho∧(t.step w).1.Ft s (t.step w).2.ws:=by
 have hm:=h.m
 have hb:=(may_iff _ _ _).1 hm
 have c0:=h.c0
 have c1:=h.c1
 have hts:=h.es
 have htc:=h.ec
 have ow:=h.ow
 have fz:=h.ft.z
 have fs:=h.ft.st
 rcases step_cases h.wf w with⟨hd,e⟩|⟨hd,hc⟩
 ·rw[e];exact⟨Nx.id hB ow,h.ft⟩
 obtain⟨-,hfd,ar⟩:=h.wf.of hd
 unfold Ar at ar
 rw[hts]at ar
 obtain⟨-,-,n1,n8,h0,h1,a0,x0,x5,ar4,ar3,ar4',ar5⟩:=ar
 have hpat:t.pat=page s.p s.c s.m t.at':=by unfold pat;rw[hts]
 -- a miss, the words as they are
 have missed:∀ (u:Rn) (ws':Nat→Int),u.dn=false→u.fd=false→u.hd=t.hd→u.at'=t.at'→Nx s c w.ws ws' (row t.hd t.at')→(∀ q i,t.hd≤q→q<t.at'→0≤i→i<16→slAt s ws' q i=0)→Nx s c w.ws ws' u.miss.ho∧u.miss.Ft s ws':=fun u ws' g1 g2 g3 g4 g5 g6=>by
  obtain⟨e1,e2⟩:=miss_ho g1 g2
  rw[g3,g4]at e1
  exact⟨g5.eq e1,ft_row e1.p g6 fun g=>by rcases e2 g with g | g<;>omega⟩
 have owned:∀ (u:Rn) (ws':Nat→Int),u.dn=false→u.n=t.n→u.hd=t.hd→u.at'=t.at'→Nx s c w.ws ws' (row t.hd (t.at'+1))→(∀ q i,t.hd≤q→q<t.at'+1→0≤i→i<16→slAt s ws' q i=0)→Nx s c w.ws ws' u.own.ho∧u.own.Ft s ws':=fun u ws' g1 g2 g3 g4 g5 g6=>by
  obtain⟨e1,e2⟩:=own_ho g1 (by rw[g2];exact n1) (by rw[g3,g4];exact a0)
  rw[g3,g4]at e1
  exact⟨g5.eq e1,ft_row e1.p g6 fun g=>by rcases e2 g with g | g<;>omega⟩
 rcases hc with⟨hn,e⟩|⟨hn,e⟩|⟨hn,q,hq,hqw,hqd,hqs,hqc,hqp,e⟩|⟨hn,e⟩|⟨hn,e⟩|⟨hn,e⟩<;>rw[e]
 ·
  have ho:=ho_01 hd (by omega)
  rw[ho]at ow fz
  have hz:∀ q i,t.hd≤q→q<t.at'→0≤i→i<16→slAt s w.ws q i=0:=fun q i g0 g1 i0 i1=>fz q i i0 i1 ⟨g0,g1⟩ fun _ g=>by omega
  have nx:Nx s c w.ws w.ws (row t.hd t.at'):=Nx.id hB ow
  show Nx s c w.ws w.ws (t.look (w.get t.pat)).ho∧(t.look (w.get t.pat)).Ft s w.ws
  unfold look
  split
  ·rw[ho_01 (t:={ t with nx:=1 }) hd (by show(1:Int)≤1;decide)]
   exact⟨nx,ft_row (a:=t.hd) (b:=t.at') (fun q=>by rw[ho_01 (t:={ t with nx:=1 }) hd (by show(1:Int)≤1;decide)];exact Iff.rfl) hz fun _ g=>by cases g⟩
  ·split
   ·rename_i hS
    have e2:=ho_2 (t:={ t with nx:=2,st:=some (t.snew (w.get t.pat)) }) hd rfl (q:=t.snew (w.get t.pat)) rfl
    rw[e2]
    refine⟨nx.congr (fun _=>Iff.rfl) (fun _ _=>Iff.rfl) (fun q i=>?_),⟨fun q i i0 i1 g _=>?_,fun _ _ q g1 g2=>?_⟩⟩
    ·refine⟨fun ⟨_,_,g0,g1⟩=>?_,fun g=>g.elim⟩
     have g1:i<0:=g1
     omega
    ·rw[e2]at g;exact hz q i g.1 g.2 i0 i1
    ·have g1:some (t.snew (w.get t.pat))=some q:=g1
     injection g1 with g1
     subst g1
     have g2:(0:Int)<0:=g2
     omega
   ·exact missed t _ hd hfd rfl rfl nx hz
 ·
  have ho:=ho_01 hd (by omega)
  rw[ho]at ow fz
  have hz:∀ q i,t.hd≤q→q<t.at'→0≤i→i<16→slAt s w.ws q i=0:=fun q i g0 g1 i0 i1=>fz q i i0 i1 ⟨g0,g1⟩ fun _ g=>by omega
  have a1:=ar4 (by omega)
  show Nx s c w.ws (w.swap t.c t.pat 0 (held t.c)).ws (t.claim (w.get t.pat)).ho∧(t.claim (w.get t.pat)).Ft s (w.swap t.c t.pat 0 (held t.c)).ws
  unfold claim
  by_cases hx:w.get t.pat=0
  ·rw[if_pos hx]
   have hx2:pgAt s w.ws t.at'=0:=by rw[hpat]at hx;exact hx
   have ew:(w.swap t.c t.pat 0 (held t.c)).ws=upW w.ws (page s.p s.c s.m t.at') (1+16*c):=by rw[swap_yes hx,hpat,htc,held_v c0 (by omega)]
   rw[ew]
   have hz0:∀ i,0≤i→i<16→slAt s w.ws t.at' i=0:=by
    cases hB.pg t.at' (by omega) (by omega) with
    | e h z=>exact z
    | h c c0 c1 h z=>omega
    | s k h z=>have:=h.mod;omega
    | l n n1 n8 nq h z b=>omega
    | b h h0 h1 h2 e z w=>omega
   refine owned t _ hd rfl rfl rfl ((claimE (o':=row t.hd (t.at'+1)) hm hB ow c0 c1 (by omega) (by omega) hx2 (fun x=>?_) rfl rfl)) fun q i g0 g1 i0 i1=>?_
   ·show(t.hd≤x∧x<t.at'+1)↔(t.hd≤x∧x<t.at')∨x=t.at';omega
   ·rw[sl_pg hm (by omega) (by omega) (by omega) i0]
    by_cases g:q=t.at'
    ·rw[g];exact hz0 i i0 i1
    ·exact hz q i g0 (by omega) i0 i1
  ·rw[if_neg hx]
   rw[swap_no hx]
   exact missed t _ hd hfd rfl rfl (Nx.id hB ow) hz
 ·
  have ho:=ho_2 hd hn hq
  rw[ho]at ow fz
  have hz:∀ q i,t.hd≤q→q<t.at'→0≤i→i<16→slAt s w.ws q i=0:=fun q i g0 g1 i0 i1=>fz q i i0 i1 ⟨g0,g1⟩ fun _ g=>by omega
  have a1:=ar4 (by omega)
  have hqh:q.hd=false:=by
   obtain⟨q',e',-,-,-,-,-,g⟩:=h.wf.q hd hn
   rw[hq]at e';injection e' with e';rw[e'];exact g
  obtain⟨s1,s2,s3,s4,s5⟩:=St.own (A:=fun q=>t.hd≤q∧q<t.at') (B:=fun _ _=>False) (hqs.trans hts) (hqc.trans htc) hqw hqd hqh hB (ow.congr (fun x=>⟨fun g=>(by rcases g with g |⟨g,-⟩;exact g;rw[hqh]at g;cases g),.inl⟩) (fun _ _=>Iff.rfl) fun _ _=>Iff.rfl) (fs hd hn q hq)
  have hsp:(q.step w).1.p=q.p∧(q.step w).1.k=q.k:=by
   unfold St.step;split
   ·exact⟨rfl,rfl⟩
   ·split
    ·exact⟨rfl,rfl⟩
    ·split
     ·exact⟨rfl,rfl⟩
     ·dsimp only;split<;>exact⟨rfl,rfl⟩
  -- the slots of the pages that it has are as they were
  have hz':∀ q' i,t.hd≤q'→q'<t.at'→0≤i→i<16→slAt s (q.step w).2.ws q' i=0:=fun q' i g0 g1 i0 i1=>by
   rw[← hz q' i g0 g1 i0 i1]
   rcases St.step_words hqw w with g | g |⟨j,j0,j1,g⟩
   ·rw[g]
   ·obtain⟨y,g⟩:=g
    rw[g,hqs,hts,sl_pg hm (by omega) (by omega) (by omega) i0]
   ·obtain⟨y,g⟩:=g
    rw[g,hqs,hts,sl_sl hm (by omega) (by omega) j0 j1 (by omega) i0 i1,if_neg (by omega)]
  show Nx s c w.ws (q.step w).2.ws (t.outs (q.step w).1).ho∧(t.outs (q.step w).1).Ft s (q.step w).2.ws
  unfold outs
  cases hh:(q.step w).1.hd
  ·cases hd':(q.step w).1.dn
   ·simp only[Bool.false_eq_true,if_false]
    have e2:=ho_2 (t:={ t with st:=some (q.step w).1 }) hd hn (q:=(q.step w).1) rfl
    rw[e2]
    refine⟨s1.congr (fun x=>?_) (fun _ _=>Iff.rfl) fun _ _=>Iff.rfl,⟨fun x i i0 i1 g _=>?_,fun _ _ x g1 g2=>?_⟩⟩
    ·exact⟨.inl,fun g=>by rcases g with g |⟨g,-⟩;exact g;rw[hh]at g;cases g⟩
    ·rw[e2]at g;exact hz' x i g.1 g.2 i0 i1
    ·have g1:some (q.step w).1=some x:=g1
     injection g1 with g1
     subst g1
     rw[hsp.1,hsp.2];exact s2 hh g2
   ·simp only[Bool.false_eq_true,if_false,if_true]
    refine missed { t with st:=some (q.step w).1 } _ hd hfd rfl rfl (s1.congr (fun x=>?_) (fun _ _=>Iff.rfl) fun x i=>?_) hz'
    ·exact⟨.inl,fun g=>by rcases g with g |⟨g,-⟩;exact g;rw[hh]at g;cases g⟩
    ·refine⟨fun g=>g.elim,fun ⟨_,_,g0,g1⟩=>?_⟩
     rw[s3 hd' hh]at g1;omega
  ·simp only[if_true]
   have e2:=ho_3 (t:={ t with st:=some (q.step w).1,nx:=3,i:=0 }) hd rfl
   rw[e2]
   refine⟨s1.congr (fun x=>?_) (fun _ _=>Iff.rfl) (fun x i=>⟨fun g=>g.elim,fun ⟨g,_⟩=>by rw[hh]at g;cases g⟩),⟨fun x i i0 i1 g g2=>?_,fun _ g=>by cases g⟩⟩
   ·show(t.hd≤x∧x<t.at'+1)↔((t.hd≤x∧x<t.at')∨((q.step w).1.hd=true∧x=(q.step w).1.p))
    rw[hh,hsp.1,hqp];simp;omega
   ·rw[e2]at g
    obtain⟨g0,g1⟩:=g
    have g1:x<t.at'+1:=g1
    by_cases g3:x=t.at'
    ·have:=g2 hd rfl g3
     have this:i<0:=this
     omega
    ·exact hz' x i g0 (by omega) i0 i1
 ·
  have ho:=ho_3 hd hn
  rw[ho]at ow fz
  have a1:=ar4 (by omega)
  obtain⟨i0,i1⟩:=ar3 hn
  have hsat:t.sat=slot s.p s.c s.m t.at' t.i:=by unfold sat;rw[hts]
  have ew:(w.store t.c t.sat 0).ws=upW w.ws (slot s.p s.c s.m t.at' t.i) 0:=by rw[store_ws,hsat]
  have nx:=hslot (y:=0) hm hB ow c0 c1 (by omega:0≤t.at') (by omega) i0 i1 ⟨a0,by omega⟩ (.inl rfl)
  have hz:∀ q i,t.hd≤q→q<t.at'+1→0≤i→i<16→(q=t.at'→i<t.i+1)→slAt s (upW w.ws (slot s.p s.c s.m t.at' t.i) 0) q i=0:=fun q i g0 g1 j0 j1 g=>by
   rw[sl_sl hm (by omega) (by omega) i0 i1 (by omega) j0 j1]
   split
   ·rfl
   ·rename_i g2
    exact fz q i j0 j1 ⟨g0,g1⟩ fun _ _ g3=>by have:=g g3;omega
  show Nx s c w.ws (w.store t.c t.sat 0).ws t.clear.ho∧t.clear.Ft s (w.store t.c t.sat 0).ws
  rw[ew]
  unfold clear
  split
  ·rename_i e16
   exact owned { t with i:=t.i+1 } _ hd rfl rfl rfl nx fun q i g0 g1 j0 j1=>hz q i g0 g1 j0 j1 fun _=>by omega
  ·have e2:=ho_3 (t:={ t with i:=t.i+1 }) hd hn
   rw[e2]
   refine⟨nx,⟨fun x i j0 j1 g g2=>?_,fun _ g=>by have g:t.nx=2:=g;omega⟩⟩
   rw[e2]at g
   exact hz x i g.1 g.2 j0 j1 (g2 hd hn)
 ·
  have ho:=ho_4 hd hn
  rw[ho]at ow fz
  have a1:=ar4 (by omega)
  obtain⟨i0,i1,-⟩:=ar4' hn
  have hbat:t.bat=page s.p s.c s.m (t.i - 1):=by unfold bat;rw[hts]
  have ew:(w.store t.c t.bat 0).ws=upW w.ws (page s.p s.c s.m (t.i - 1)) 0:=by rw[store_ws,hbat]
  have hz:∀ q i,t.hd≤q→q<t.i→0≤i→i<16→slAt s w.ws q i=0:=fun q i g0 g1 j0 j1=>fz q i j0 j1 ⟨g0,g1⟩ fun _ g=>by omega
  have nx:=free (o':=row t.hd (t.i - 1)) hm hB ow c0 c1 (by omega:0≤t.i - 1) (by omega) ⟨by omega,by omega⟩ (fun i j0 j1=>hz _ i (by omega) (by omega) j0 j1) (fun x _ _ g=>g) (fun x=>by
   show(t.hd≤x∧x<t.i - 1)↔(t.hd≤x∧x<t.i)∧x≠t.i - 1;omega) rfl rfl
  show Nx s c w.ws (w.store t.c t.bat 0).ws ({ t with i:=t.i - 1 }:Rn).gone.ho∧({ t with i:=t.i - 1 }:Rn).gone.Ft s (w.store t.c t.bat 0).ws
  rw[ew]
  obtain⟨e1,e2⟩:=gone_ho (t:={ t with i:=t.i - 1 }) hd hfd hn
  refine⟨nx.eq e1,ft_row e1.p (fun q i g0 g1 j0 j1=>?_) fun g=>by rcases e2 g with g | g<;>omega⟩
  have g0:t.hd≤q:=g0
  have g1:q<t.i - 1:=g1
  rw[sl_pg hm (by omega) (by omega) (by omega) j0];exact hz q i g0 (by omega) j0 j1
 ·
  have ho:=ho_5 hd hn
  rw[ho]at ow fz
  obtain⟨e5,i0,i1⟩:=ar5 hn
  have hiat:t.iat=page s.p s.c s.m t.i:=by unfold iat;rw[hts]
  have ew:(w.store t.c t.iat (putPg 4 t.hd 0)).ws=upW w.ws (page s.p s.c s.m t.i) (4+16*t.hd):=by rw[store_ws,hiat,body_v h0 (by omega)]
  have hz:∀ q i,(q=t.hd∨(t.i≤q∧q<t.hd+t.n))→0≤i→i<16→slAt s w.ws q i=0:=fun q i g j0 j1=>fz q i j0 j1 g fun _ g=>by omega
  have nx:=body (o':=rw5 t.hd (t.i+1) t.n) hm hB ow c0 c1 (by omega:0≤t.i) (by omega) (d:=t.hd) (.inr ⟨Int.le_refl _,i1⟩) (.inl rfl) h0 i0 (by omega) (fun i j0 j1=>hz _ i (.inr ⟨Int.le_refl _,i1⟩) j0 j1) (fun x _ _ g=>by
   obtain⟨g,-⟩:=g
   have g:t.i=t.hd:=g
   omega) (fun x=>by
   show(x=t.hd∨(t.i+1≤x∧x<t.hd+t.n))↔(x=t.hd∨(t.i≤x∧x<t.hd+t.n))∧x≠t.i;omega) (fun x h'=>by
   show(h'=t.hd∧t.hd<x∧x<t.i+1)↔(h'=t.hd∧t.hd<x∧x<t.i)∨(x=t.i∧h'=t.hd);omega) rfl
  show Nx s c w.ws (w.store t.c t.iat (putPg 4 t.hd 0)).ws t.written.ho∧t.written.Ft s (w.store t.c t.iat (putPg 4 t.hd 0)).ws
  rw[ew]
  obtain⟨e1,e2⟩:=written_ho hd hn
  refine⟨by rw[e1];exact nx,⟨fun x i j0 j1 g _=>?_,fun g1 g2=>by have:=e2 g1;omega⟩⟩
  rw[e1]at g
  have g:x=t.hd∨(t.i+1≤x∧x<t.hd+t.n):=g
  rw[sl_pg hm (by omega) (by omega) (by omega) j0]
  exact hz x i (by omega) j0 j1
theorem miss_fd (t:Rn):t.miss.fd=t.fd:=by unfold miss gone;split<;>rfl
theorem gone_fd (t:Rn):t.gone.fd=t.fd:=by unfold gone;split<;>rfl
theorem own_hd (t:Rn):t.own.hd=t.hd:=by unfold own;split;(unfold written;split<;>rfl);rfl
theorem written_hd (t:Rn):t.written.hd=t.hd:=by unfold written;split<;>rfl
theorem step_fb (h:In s c t w.ws):(t.step w).1.fd=true→0≤(t.step w).1.hd∧1≤(t.step w).1.n∧(t.step w).1.n≤8∧(t.step w).1.hd+(t.step w).1.n≤s.p:=by
 rcases step_cases h.wf w with⟨hd,e⟩|⟨hd,hc⟩
 ·rw[e];exact h.fb
 obtain⟨-,hfd,ar⟩:=h.wf.of hd
 unfold Ar at ar
 rw[h.es]at ar
 have no:∀ {u:Rn},u.fd=false→u.fd=true→0≤u.hd∧1≤u.n∧u.n≤8∧u.hd+u.n≤s.p:=fun g1 g2=>by rw[g1]at g2;cases g2
 have yes:∀ {u:Rn},u.hd=t.hd→u.n=t.n→u.fd=true→0≤u.hd∧1≤u.n∧u.n≤8∧u.hd+u.n≤s.p:=fun g1 g2 _=>by rw[g1,g2];omega
 rcases hc with⟨hn,e⟩|⟨hn,e⟩|⟨hn,q,hq,hqw,hqd,hqs,hqc,hqp,e⟩|⟨hn,e⟩|⟨hn,e⟩|⟨hn,e⟩<;>rw[e]
 ·exact no (by show(t.look _).fd=false;unfold look;split;exact hfd;split;exact hfd;rw[miss_fd];exact hfd)
 ·show(t.claim _).fd=true→_
  unfold claim
  split
  ·exact yes (own_hd t) (own_k t).2.2
  ·exact no (by rw[miss_fd];exact hfd)
 ·exact no (by show(t.outs _).fd=false;unfold outs;split;exact hfd;split;(rw[miss_fd];exact hfd);exact hfd)
 ·show t.clear.fd=true→_
  unfold clear
  split
  ·exact yes (own_hd _) (own_k _).2.2
  ·exact no hfd
 ·exact no (by show(Rn.gone _).fd=false;rw[gone_fd];exact hfd)
 ·exact yes (written_hd t) (written_k t).2.2
theorem In.step (h:In s c t w.ws) (hB:Bs s w.ws):Nx s c w.ws (t.step w).2.ws (t.step w).1.ho∧In s c (t.step w).1 (t.step w).2.ws:=by
 obtain⟨n,f⟩:=h.step' hB
 have hk:=step_k h.wf w
 exact⟨n,⟨h.m,h.c0,h.c1,step_wf h.wf w,hk.1.trans h.es,hk.2.1.trans h.ec,n.ow,f,step_fb h⟩⟩
theorem In.hp (h:In s c t ws):∀ q,t.ho.hp q→0≤q∧q<s.p:=fun q g=>by
 cases hd:t.dn
 ·obtain⟨-,-,ar⟩:=h.wf.of hd
  unfold Ar at ar
  rw[h.es]at ar
  obtain⟨-,-,n1,n8,h0,h1,a0,x0,x5,ar4,ar3,ar4',ar5⟩:=ar
  rcases (by omega:t.nx≤1∨t.nx=2∨t.nx=3∨t.nx=4∨t.nx=5) with e | e | e | e | e
  ·rw[ho_01 hd e]at g
   obtain⟨g0,g1⟩:=g
   have:=ar4 (by omega);omega
  ·obtain⟨q',e',-⟩:=h.wf.q hd e
   rw[ho_2 hd e e']at g
   obtain⟨g0,g1⟩:=g
   have:=ar4 (by omega);omega
  ·rw[ho_3 hd e]at g
   obtain⟨g0,g1⟩:=g
   have:=ar4 (by omega);omega
  ·rw[ho_4 hd e]at g
   obtain⟨g0,g1⟩:=g
   have:=ar4 (by omega);have:=ar4' e;omega
  ·rw[ho_5 hd e]at g
   have g:q=t.hd∨(t.i≤q∧q<t.hd+t.n):=g
   have:=ar5 e;omega
 ·cases hf':t.fd
  ·rw[ho_n hd hf']at g;exact g.elim
  ·rw[ho_f hd hf']at g
   have g:q=t.hd∨(t.hd+t.n≤q∧q<t.hd+t.n):=g
   have:=h.fb hf';omega
theorem In.rel {ws ws':Nat→Int} (h:In s c t ws) (r:Rel s c ws ws'):In s c t ws':=by
 have hm:=h.m
 have hb:=(may_iff _ _ _).1 hm
 have ow:=h.ow
 refine⟨h.m,h.c0,h.c1,h.wf,h.es,h.ec,ow.rel r,⟨fun q i i0 i1 g g2=>?_,fun hd hn q hq hi=>?_⟩,h.fb⟩
 ·obtain⟨q0,q1⟩:=h.hp q g
  rw[r.hs q i q0 q1 i0 i1 ((ow.pg q q0 q1).2 g)];exact h.ft.z q i i0 i1 g g2
 ·obtain⟨q',e',qw,qd,qs,-,-,qh⟩:=h.wf.q hd hn
  rw[hq]at e';injection e' with e';subst e'
  obtain⟨-,-,-,p0,p1,k0,i0,i1,-⟩:=qw.of qd
  rw[qs,h.es]at p1
  have ho:=ho_2 hd hn hq
  rw[ho]at ow
  have:=(ow.sl q.p 0 p0 p1 (by omega) (by omega)).2 (.inl ⟨qh,rfl,by omega,hi⟩)
  rw[r.sp q.p 0 p0 p1 (by omega) (by omega) this.1 this.2]
  exact h.ft.st hd hn q hq hi
theorem In.new {ws:Nat→Int} (hm:may s.p s.c s.m=true) (c0:0≤c) (c1:c<s.c) (n:Int) (ow:Own s ws c nil):In s c (Rn.new s c n) ws:=by
 refine⟨hm,c0,c1,new_wf ..,rfl,rfl,?_,?_,fun g=>by cases g⟩
 ·refine ow.congr (fun q=>?_) (fun q h=>?_) (fun q i=>?_)
  all_goals
   cases hd:(Rn.new s c n).dn
   ·rw[ho_01 hd (by show(0:Int)≤1;decide)]
    first
    | exact Iff.rfl
    | exact⟨fun ⟨g0,g1⟩=>by
      have g0:(0:Int)≤q:=g0
      have g1:q<0:=g1
      omega,fun g=>g.elim⟩
   ·rw[ho_n hd rfl]
 ·refine⟨fun q i i0 i1 g _=>?_,fun _ g=>by cases g⟩
  cases hd:(Rn.new s c n).dn
  ·rw[ho_01 hd (by show(0:Int)≤1;decide)]at g
   obtain⟨g0,g1⟩:=g
   have g0:(0:Int)≤q:=g0
   have g1:q<0:=g1
   omega
  ·rw[ho_n hd rfl]at g;exact g.elim
end
end Rn
end Go.Ma
namespace Go.Ma
open Go.Pl
open Ow
namespace Ow
def rw6 (p i n:Int):Ho:=⟨fun q=>q=p,fun q h=>h=p∧p+i<q∧q<p+n,fun _ _=>False⟩
def ofB (b:Bk):Ho:=if b.lg then rw6 b.p 0 b.n else one b.p b.i
def FtB (s:Sh) (b:Bk) (ws:Nat→Int):Prop:=(b.lg=true→∀ i,0≤i→i<16→slAt s ws b.p i=0)∧(b.lg=false→Sup s b.k (pgAt s ws b.p))
theorem FtB.rel {s:Sh} {b:Bk} {c:Int} {ws ws':Nat→Int} (hf:b.Fit s c) (ow:Own s ws c (ofB b)) (r:Rel s c ws ws') (h:FtB s b ws):FtB s b ws':=by
 have hs:=slots_bd b.k
 have p0:=hf.p0
 have p1:=hf.p1
 refine⟨fun g i i0 i1=>?_,fun g=>?_⟩
 ·have e:ofB b=rw6 b.p 0 b.n:=by unfold ofB;rw[if_pos g]
  rw[e]at ow
  rw[r.hs b.p i p0 p1 i0 i1 ((ow.pg b.p p0 p1).2 rfl)];exact h.1 g i i0 i1
 ·have e:ofB b=one b.p b.i:=by unfold ofB;rw[if_neg (by rw[g];decide)]
  rw[e]at ow
  have hi:=hf.s g
  have:=(ow.sl b.p b.i p0 p1 hi.1 (by omega)).2 (.inl ⟨rfl,rfl⟩)
  rw[r.sp b.p b.i p0 p1 hi.1 (by omega) this.1 this.2];exact h.2 g
end Ow
theorem Sk.ho_bk {t:Sk} (hd:t.dn=true) (hf:t.fd=true):t.ho=ofB ⟨false,t.pg,t.sl,t.k,0⟩:=by unfold Sk.ho ofB;rw[hd,hf];rfl
theorem Rn.ho_bk {t:Rn} (hd:t.dn=true) (hf:t.fd=true):Rn.Eq' t.ho (ofB ⟨true,t.hd,0,0,t.n⟩):=by
 rw[Rn.ho_f hd hf]
 refine⟨fun q=>?_,fun q h=>?_,fun _ _=>Iff.rfl⟩
 ·show q=t.hd↔(q=t.hd∨(t.hd+t.n≤q∧q<t.hd+t.n));omega
 ·show(h=t.hd∧t.hd+0<q∧q<t.hd+t.n)↔(h=t.hd∧t.hd<q∧q<t.hd+t.n);omega

namespace Cm
def ho (t:Cm):Ho:=if t.dn then nil else ofB t.b
structure In (s:Sh) (c:Int) (t:Cm) (ws:Nat→Int):Prop where
 wf:t.wf
 es:t.s=s
 ec:t.c=c
 ow:Own s ws c t.ho
 ft:t.dn=false→FtB s t.b ws
section
variable {s:Sh} {c:Int} {t:Cm} {w:Wd}
theorem In.step (h:In s c t w.ws) (hB:Bs s w.ws):Nx s c w.ws (Cm.step t w).2.ws (Cm.step t w).1.ho∧In s c (Cm.step t w).1 (Cm.step t w).2.ws∧(Cm.step t w).1.dn=true:=by
 have ow:=h.ow
 have hts:=h.es
 have htc:=h.ec
 cases hd:t.dn
 rotate_left
 ·have e:Cm.step t w=(t,w):=by unfold Cm.step;rw[if_pos hd]
  rw[e];exact⟨Nx.id hB ow,h,hd⟩
 have hf:=h.wf hd
 have ft:=h.ft hd
 have e1:t.ho=ofB t.b:=by unfold ho;rw[hd];rfl
 rw[e1]at ow
 obtain⟨hm,c0,c1,p0,p1,fl,fs⟩:=hf
 rw[hts]at hm c1 p1 fl
 rw[htc]at c0 c1
 have hb:=(may_iff _ _ _).1 hm
 suffices hh:Nx s c w.ws (Cm.step t w).2.ws nil∧(Cm.step t w).1 = { t with dn:=true } by
  rw[hh.2];exact⟨hh.1,⟨fun g=>(by cases g),hts,htc,hh.1.ow,fun g=>(by cases g)⟩,rfl⟩
 cases hl:t.b.lg
 ·have e:Cm.step t w=({ t with dn:=true },w.store t.c t.sat (putSl 3 t.b.k)):=by unfold Cm.step;rw[hd,hl];rfl
  have e2:ofB t.b=one t.b.p t.b.i:=by unfold ofB;rw[hl];rfl
  rw[e2]at ow
  obtain⟨i0,i1⟩:=fs hl
  have hk:=slots_k (by omega:0<slots t.b.k)
  have hs:=slots_bd t.b.k
  have ew:(w.store t.c t.sat (putSl 3 t.b.k)).ws=upW w.ws (slot s.p s.c s.m t.b.p t.b.i) (3+16*t.b.k):=by
   rw[store_ws];unfold sat;rw[hts];exact congrArg _ (taken_v hk.1 (by omega))
  rw[e]
  refine⟨?_,rfl⟩
  rw[ew]
  exact freeO hm hB ow c0 c1 p0 p1 i0 (by omega) (ft.2 hl) ⟨rfl,rfl⟩ (.inr rfl) rfl rfl fun x j=>⟨fun g=>g.elim,fun g=>absurd g.1 g.2⟩
 ·have e:Cm.step t w=({ t with dn:=true },w.store t.c t.pat (putPg 3 t.b.n 0)):=by unfold Cm.step;rw[hd,hl];rfl
  have e2:ofB t.b=rw6 t.b.p 0 t.b.n:=by unfold ofB;rw[hl];rfl
  rw[e2]at ow
  obtain⟨n1,n8,nq⟩:=fl hl
  have ew:(w.store t.c t.pat (putPg 3 t.b.n 0)).ws=upW w.ws (page s.p s.c s.m t.b.p) (3+16*t.b.n):=by
   rw[store_ws];unfold pat;rw[hts,large_v (by omega) (by omega)]
  rw[e]
  refine⟨?_,rfl⟩
  rw[ew]
  refine large hm hB ow c0 c1 p0 p1 rfl n1 n8 nq (ft.1 hl) (fun x a b=>?_) (fun x=>?_) (fun x h'=>?_) rfl
  ·show(t.b.p=t.b.p∧t.b.p+0<x∧x<t.b.p+t.b.n)↔_;omega
  ·show False↔(x=t.b.p∧x≠t.b.p);exact⟨fun g=>g.elim,fun g=>absurd g.1 g.2⟩
  ·show False↔((h'=t.b.p∧_)∧h'≠t.b.p);exact⟨fun g=>g.elim,fun g=>absurd g.1.1 g.2⟩
theorem In.rel {ws ws':Nat→Int} (h:In s c t ws) (r:Rel s c ws ws'):In s c t ws':=by
 refine⟨h.wf,h.es,h.ec,h.ow.rel r,fun hd=>?_⟩
 have ow:=h.ow
 have e1:t.ho=ofB t.b:=by unfold ho;rw[hd];rfl
 rw[e1]at ow
 have hf:=h.wf hd
 rw[h.es,h.ec]at hf
 exact(h.ft hd).rel hf ow r
end
end Cm

namespace Uo
def ho (t:Uo):Ho:=if t.dn then nil else if t.b.lg then rw6 t.b.p t.i t.b.n else one t.b.p t.b.i
structure In (s:Sh) (c:Int) (t:Uo) (ws:Nat→Int):Prop where
 wf:t.wf
 es:t.s=s
 ec:t.c=c
 ow:Own s ws c t.ho
 ft:t.dn=false→FtB s t.b ws
section
variable {s:Sh} {c:Int} {t:Uo} {w:Wd}
theorem In.step (h:In s c t w.ws) (hB:Bs s w.ws):Nx s c w.ws (Uo.step t w).2.ws (Uo.step t w).1.ho∧In s c (Uo.step t w).1 (Uo.step t w).2.ws:=by
 have ow:=h.ow
 have hts:=h.es
 have htc:=h.ec
 cases hd:t.dn
 rotate_left
 ·have e:Uo.step t w=(t,w):=by unfold Uo.step;rw[if_pos hd]
  rw[e];exact⟨Nx.id hB ow,h⟩
 have wf':=step_wf (w:=w) h.wf
 obtain⟨⟨hm,c0,c1,p0,p1,fl,fs⟩,fi⟩:=h.wf hd
 have ft:=h.ft hd
 rw[hts]at hm c1 p1 fl
 rw[htc]at c0 c1
 have hb:=(may_iff _ _ _).1 hm
 cases hl:t.b.lg
 ·have e:Uo.step t w=({ t with dn:=true },w.store t.c t.sat (putSl 1 t.b.k)):=by unfold Uo.step;rw[hd,hl];rfl
  have e2:t.ho=one t.b.p t.b.i:=by unfold ho;rw[hd,hl];rfl
  rw[e2]at ow
  obtain⟨i0,i1⟩:=fs hl
  have hk:=slots_k (by omega:0<slots t.b.k)
  have hs:=slots_bd t.b.k
  have ew:(w.store t.c t.sat (putSl 1 t.b.k)).ws=upW w.ws (slot s.p s.c s.m t.b.p t.b.i) (1+16*t.b.k):=by
   rw[store_ws];unfold sat;rw[hts];exact congrArg _ (opn_v hk.1 (by omega))
  have nx:Nx s c w.ws (w.store t.c t.sat (putSl 1 t.b.k)).ws nil:=by
   rw[ew]
   exact freeO hm hB ow c0 c1 p0 p1 i0 (by omega) (ft.2 hl) ⟨rfl,rfl⟩ (.inl rfl) rfl rfl fun x j=>⟨fun g=>g.elim,fun g=>absurd g.1 g.2⟩
  rw[e]at wf' ⊢
  exact⟨nx,⟨wf',hts,htc,nx.ow,fun g=>(by cases g)⟩⟩
 obtain⟨n1,n8,nq⟩:=fl hl
 obtain⟨i0,i1⟩:=fi hl
 have e2:t.ho=rw6 t.b.p t.i t.b.n:=by unfold ho;rw[hd,hl];rfl
 rw[e2]at ow
 have hz:=ft.1 hl
 by_cases hi:t.i=t.b.n - 1
 ·have e:Uo.step t w=({ t with dn:=true },w.store t.c t.pat 0):=by unfold Uo.step;rw[hd,hl,if_neg (by decide),if_pos rfl,if_pos hi]
  have ew:(w.store t.c t.pat 0).ws=upW w.ws (page s.p s.c s.m t.b.p) 0:=by rw[store_ws];unfold pat;rw[hts]
  have nx:Nx s c w.ws (w.store t.c t.pat 0).ws nil:=by
   rw[ew]
   refine(free (o':=⟨fun _=>False,(rw6 t.b.p t.i t.b.n).hb,fun _ _=>False⟩) hm hB ow c0 c1 p0 p1 rfl hz (fun x _ _ g=>?_) (fun x=>⟨fun g=>g.elim,fun g=>absurd g.1 g.2⟩) rfl rfl).congr (fun _=>Iff.rfl) (fun x h'=>⟨fun g=>g.elim,fun g=>?_⟩) fun _ _=>Iff.rfl
   ·obtain⟨-,g0,g1⟩:=g;omega
   ·obtain⟨-,g0,g1⟩:=g;omega
  rw[e]at wf' ⊢
  exact⟨nx,⟨wf',hts,htc,nx.ow,fun g=>(by cases g)⟩⟩
 ·have e:Uo.step t w=({ t with i:=t.i+1 },w.store t.c t.iat 0):=by unfold Uo.step;rw[hd,hl,if_neg (by decide),if_pos rfl,if_neg hi]
  have ew:(w.store t.c t.iat 0).ws=upW w.ws (page s.p s.c s.m (t.b.p+t.i+1)) 0:=by rw[store_ws];unfold iat;rw[hts]
  have e3:({ t with i:=t.i+1 }:Uo).ho=rw6 t.b.p (t.i+1) t.b.n:=by
   unfold ho
   show(if t.dn=true then nil else if t.b.lg=true then _ else _)=_
   rw[hd,hl];rfl
  have nx:Nx s c w.ws (w.store t.c t.iat 0).ws ({ t with i:=t.i+1 }:Uo).ho:=by
   rw[ew,e3]
   refine unbody hm hB ow c0 c1 (by omega) (by omega) (d:=t.b.p) ⟨rfl,by omega,by omega⟩ p0 p1 rfl (fun x h'=>?_) rfl
   show(h'=t.b.p∧t.b.p+(t.i+1)<x∧x<t.b.p+t.b.n)↔(h'=t.b.p∧t.b.p+t.i<x∧x<t.b.p+t.b.n)∧x≠t.b.p+t.i+1;omega
  rw[e]at wf' ⊢
  refine⟨nx,⟨wf',hts,htc,nx.ow,fun _=>⟨fun g i j0 j1=>?_,fun g=>?_⟩⟩⟩
  ·show slAt s (w.store t.c t.iat 0).ws t.b.p i=0
   rw[ew,sl_pg hm (by omega) (by omega) p0 j0];exact hz i j0 j1
  ·have g:t.b.lg=false:=g
   rw[hl]at g;cases g
theorem In.rel {ws ws':Nat→Int} (h:In s c t ws) (r:Rel s c ws ws'):In s c t ws':=by
 refine⟨h.wf,h.es,h.ec,h.ow.rel r,fun hd=>?_⟩
 have ow:=h.ow
 obtain⟨hf,-⟩:=h.wf hd
 rw[h.es,h.ec]at hf
 have ft:=h.ft hd
 have p0:=hf.p0
 have p1:=hf.p1
 have hs:=slots_bd t.b.k
 refine⟨fun g i i0 i1=>?_,fun g=>?_⟩
 ·have e:t.ho=rw6 t.b.p t.i t.b.n:=by unfold ho;rw[hd,g];rfl
  rw[e]at ow
  rw[r.hs t.b.p i p0 p1 i0 i1 ((ow.pg t.b.p p0 p1).2 rfl)];exact ft.1 g i i0 i1
 ·have e:t.ho=one t.b.p t.b.i:=by unfold ho;rw[hd,g];rfl
  rw[e]at ow
  have hi:=hf.s g
  have:=(ow.sl t.b.p t.b.i p0 p1 hi.1 (by omega)).2 (.inl ⟨rfl,rfl⟩)
  rw[r.sp t.b.p t.b.i p0 p1 hi.1 (by omega) this.1 this.2];exact ft.2 g
end
end Uo

/-! ### Who gives -/
namespace Gv
def ho (t:Gv):Ho:=if t.dn then nil else if t.nx≤1 then nil else if t.nx≤3 then one t.pg t.sl else rw6 t.pg t.i t.pA
structure Ft (s:Sh) (t:Gv) (ws:Nat→Int):Prop where
 w1:t.dn=false→t.nx=1→t.pK=3→t.wd=3+16*t.pA
 s2:t.dn=false→t.nx=2∨t.nx=3→Sup s t.pA (pgAt s ws t.pg)∧0≤t.sl∧t.sl<slots t.pA
 p2:t.dn=false→t.nx=2→∀ p,t.put=some p→p.ep=t.pg∧p.es=t.sl∧p.ek=t.pA∧(p.hit=true→mgAt s ws t.c p.i=0)
 z4:t.dn=false→t.nx=4→∀ i,0≤i→i<16→slAt s ws t.pg i=0
structure In (s:Sh) (c:Int) (t:Gv) (ws:Nat→Int):Prop where
 m:may s.p s.c s.m=true
 c0:0≤c
 c1:c<s.c
 wf:t.wf
 es:t.s=s
 ec:t.c=c
 ow:Own s ws c t.ho
 ft:t.Ft s ws
section
variable {s:Sh} {c:Int} {t:Gv} {w:Wd}
theorem ho_01 (h:t.nx≤1):t.ho=nil:=by unfold ho;split;rfl;rfl
theorem ho_d (h:t.dn=true):t.ho=nil:=by unfold ho;rw[if_pos h]
theorem ho_23 (hd:t.dn=false) (h:t.nx=2∨t.nx=3):t.ho=one t.pg t.sl:=by unfold ho;rw[if_neg (by rw[hd];decide),if_neg (by omega),if_pos (by omega)]
theorem ho_4 (hd:t.dn=false) (h:t.nx=4):t.ho=rw6 t.pg t.i t.pA:=by unfold ho;rw[if_neg (by rw[hd];decide),if_neg (by omega),if_neg (by omega)]
theorem ft_d {ws:Nat→Int} (h:t.dn=true):t.Ft s ws:=⟨fun g=>(by rw[h]at g;cases g),fun g=>(by rw[h]at g;cases g),fun g=>(by rw[h]at g;cases g),fun g=>(by rw[h]at g;cases g)⟩
theorem In.step' (h:In s c t w.ws) (hB:Bs s w.ws):Nx s c w.ws (t.step w).2.ws (t.step w).1.ho∧(t.step w).1.Ft s (t.step w).2.ws:=by
 have hm:=h.m
 have hb:=(may_iff _ _ _).1 hm
 have c0:=h.c0
 have c1:=h.c1
 have hts:=h.es
 have htc:=h.ec
 have ow:=h.ow
 have ft:=h.ft
 rcases step_cases h.wf w with⟨hd,e⟩|⟨hd,hc⟩
 ·rw[e];exact⟨Nx.id hB ow,ft⟩
 obtain⟨-,-,-,p0,p1,-,-,x0,x4⟩:=h.wf.of hd
 rw[hts]at p1
 have hpat:t.pat=page s.p s.c s.m t.pg:=by unfold pat;rw[hts]
 have hsat:t.sat=slot s.p s.c s.m t.pg t.sl:=by unfold sat;rw[hts]
 rcases hc with⟨hn,e⟩|⟨hn,hk,e⟩|⟨hn,hk,e⟩|⟨hn,p,hp,pw,pd,pp,ps,pc,e⟩|⟨hn,e⟩|⟨hn,hi,e⟩|⟨hn,hi,e⟩<;>rw[e]
 ·
  rw[ho_01 (by omega)]at ow
  have hx:(t.look w).nx≤1:=by
   unfold look;split
   ·show(1:Int)≤1;decide
   ·split<;>(show(1:Int)≤1;decide)
  rw[ho_01 hx]
  refine⟨Nx.id hB ow,⟨fun hd' _ hk=>?_,fun _ g=>(by have g:(t.look w).nx=2∨(t.look w).nx=3:=g;omega),fun _ g=>(by have g:(t.look w).nx=2:=g;omega),fun _ g=>(by have g:(t.look w).nx=4:=g;omega)⟩⟩
  have hrd:(t.look w).wd=w.get t.pat∧(t.look w).pK=pgK t.s t.pg (w.get t.pat)∧(t.look w).pA=pgA t.s t.pg (w.get t.pat):=by
   unfold look;split
   ·exact⟨rfl,rfl,rfl⟩
   ·split<;>exact⟨rfl,rfl,rfl⟩
  rw[hrd.1,hrd.2.2]
  rw[hrd.2.1]at hk
  have hok:=pgK_ne (s:=t.s) (q:=t.pg) (x:=w.get t.pat) (by rw[hk];decide)
  have h1:w.get t.pat % 16=3:=by unfold pgK at hk;rw[if_pos hok]at hk;exact hk
  have h2:pgA t.s t.pg (w.get t.pat)=pt (w.get t.pat) 16:=by unfold pgA;rw[if_pos hok]
  rw[h2]
  unfold okPg at hok
  rw[h1]at hok
  simp only[Bool.and_eq_true,decide_eq_true_eq]at hok
  have h3:=hok.1
  unfold putPg at h3
  split at h3
  ·omega
  ·omega
 ·
  rw[ho_01 (by omega)]at ow
  have hwd:=ft.w1 hd hn hk
  show Nx s c w.ws (w.swap t.c t.pat t.wd (held t.c)).ws (t.claimL w).ho∧(t.claimL w).Ft s (w.swap t.c t.pat t.wd (held t.c)).ws
  by_cases hx:w.get t.pat=t.wd
  ·have hx2:pgAt s w.ws t.pg=3+16*t.pA:=by rw[hpat]at hx;rw[← hwd,← hx];rfl
   have ew:(w.swap t.c t.pat t.wd (held t.c)).ws=upW w.ws (page s.p s.c s.m t.pg) (1+16*c):=by rw[swap_yes hx,hpat,htc,held_v c0 (by omega)]
   rw[ew]
   have hd':(t.claimL w).dn=false:=by unfold claimL;show(!decide _)=false;rw[decide_eq_true hx];rfl
   have hi:t.i=0:=(h.wf.n01 (.inr hn)).2.2
   have hz:∀ i,0≤i→i<16→slAt s w.ws t.pg i=0:=by
    cases hB.pg t.pg p0 p1 with
    | e h z=>exact z
    | h c c0 c1 h z=>omega
    | s k h z=>have:=h.mod;omega
    | l n n1 n8 nq h z b=>exact z
    | b h h0 h1 h2 e z w=>exact z
   rw[ho_4 (t:=t.claimL w) hd' rfl]
   refine⟨(Ow.claimL (o':=rw6 t.pg 0 t.pA) hm hB ow c0 c1 p0 p1 hx2 (fun x=>⟨.inr,fun g=>g.resolve_left id⟩) (fun x h'=>?_) rfl).congr (fun _=>Iff.rfl) (fun x h'=>?_) (fun _ _=>Iff.rfl),⟨fun _ g=>(by cases g),fun _ g=>(by rcases g with g | g<;>cases g),fun _ g=>(by cases g),fun _ _ i i0 i1=>?_⟩⟩
   ·show(h'=t.pg∧t.pg+0<x∧x<t.pg+t.pA)↔False∨(h'=t.pg∧t.pg<x∧x<t.pg+t.pA)
    constructor
    ·rintro⟨a,b,d⟩;exact .inr ⟨a,by omega,d⟩
    ·rintro(g |⟨a,b,d⟩)
     ·exact g.elim
     ·exact⟨a,by omega,d⟩
   ·show(h'=t.pg∧t.pg+t.i<x∧x<t.pg+t.pA)↔(h'=t.pg∧t.pg+0<x∧x<t.pg+t.pA);rw[hi]
   ·show slAt s _ t.pg i=0
    rw[sl_pg hm p0 p1 p0 i0];exact hz i i0 i1
  ·rw[swap_no hx]
   have hd':(t.claimL w).dn=true:=by unfold claimL;show(!decide _)=true;rw[decide_eq_false hx];rfl
   rw[ho_d hd']
   exact⟨Nx.id hB ow,ft_d hd'⟩
 ·
  rw[ho_01 (by omega)]at ow
  have hbl:=(h.wf.bl hd (by omega)).2.1
  obtain⟨s0,s1,k0,k3,b0,b1⟩:0≤t.sl∧t.sl<slots t.pA∧0≤t.pA∧t.pA≤3∧0≤t.pB∧t.pB<t.s.c:=by
   rcases hbl with g | g
   ·omega
   ·exact g.2
  have hsl:=slots_bd t.pA
  have hg:w.get t.sat=slAt s w.ws t.pg t.sl:=by rw[hsat,slot_at hm p0 p1 s0 (by omega)]
  show Nx s c w.ws (w.swap t.c t.sat (taken t.pA) (way t.c)).ws (t.claimS w).ho∧(t.claimS w).Ft s (w.swap t.c t.sat (taken t.pA) (way t.c)).ws
  have hf:(t.claimS w).dn = !decide (w.get t.sat=taken t.pA)∧(t.claimS w).pg=t.pg∧(t.claimS w).sl=t.sl∧(t.claimS w).pA=t.pA∧((t.claimS w).nx=2∨(t.claimS w).nx=3)∧((t.claimS w).nx=2→(t.claimS w).put=some t.pnew):=by
   unfold claimS;split
   ·refine⟨rfl,rfl,rfl,rfl,?_,fun _=>rfl⟩
    dsimp only;split
    ·exact .inr rfl
    ·exact .inl rfl
   ·exact⟨rfl,rfl,rfl,rfl,.inr rfl,fun g=>by cases g⟩
  obtain⟨f1,f2,f3,f4,f5,f6⟩:=hf
  by_cases hx:w.get t.sat=taken t.pA
  ·have hx2:slAt s w.ws t.pg t.sl=3+16*t.pA:=by rw[← hg,hx,taken_v k0 (by omega)]
   have ew:(w.swap t.c t.sat (taken t.pA) (way t.c)).ws=upW w.ws (slot s.p s.c s.m t.pg t.sl) (2+16*c):=by rw[swap_yes hx,hsat,htc,way_v c0 (by omega)]
   rw[ew]
   have hd':(t.claimS w).dn=false:=by rw[f1,decide_eq_true hx];rfl
   rw[ho_23 hd' f5,f2,f3]
   have hsup:=((hB.pg t.pg p0 p1).open (by omega) k0 k3 s0 (by omega) (.inr hx2)).1
   refine⟨claimO hm hB ow c0 c1 p0 p1 s0 (by omega) k0 k3 (.inr hx2) rfl rfl (fun x j=>⟨.inr,fun g=>g.resolve_left id⟩),⟨fun _ g=>(by have g:(t.claimS w).nx=1:=g;omega),fun _ _=>?_,fun _ g p hp=>?_,fun _ g=>(by have g:(t.claimS w).nx=4:=g;omega)⟩⟩
   ·rw[f2,f3,f4,pg_sl hm p0 p1 s0 (by omega) p0 p1];exact⟨hsup,s0,s1⟩
   ·rw[f6 g]at hp;injection hp with hp;subst hp
    rw[f2,f3,f4]
    exact⟨rfl,rfl,rfl,fun g=>(by cases g)⟩
  ·rw[swap_no hx]
   have hd':(t.claimS w).dn=true:=by rw[f1,decide_eq_false hx];rfl
   rw[ho_d hd']
   exact⟨Nx.id hB ow,ft_d hd'⟩
 ·
  obtain⟨hsup,s0,s1⟩:=ft.s2 hd (.inl hn)
  obtain⟨g1,g2,g3,g4⟩:=ft.p2 hd hn p hp
  have hsl:=slots_bd t.pA
  have hkb:=hsup.bd
  obtain⟨-,-,-,i0,i1⟩:=pw.of pd
  rw[ps,hts]at i1
  rw[ho_23 hd (.inl hn)]at ow
  have hat:p.at'=mag s.p s.c s.m c p.i:=by unfold Pu.at';rw[ps,hts,pc,htc]
  have hg:w.get p.at'=mgAt s w.ws c p.i:=by rw[hat,mag_at hm c0 c1 i0 i1]
  have stay:∀ (u:Gv) (ws':Nat→Int),ws'=w.ws→u.dn=false→(u.nx=2∨u.nx=3)→u.pg=t.pg→u.sl=t.sl→u.pA=t.pA→u.c=t.c→(u.nx=2→∃ p',u.put=some p'∧p'.ep=t.pg∧p'.es=t.sl∧p'.ek=t.pA∧(p'.hit=true→mgAt s w.ws c p'.i=0))→Nx s c w.ws ws' u.ho∧u.Ft s ws':=fun u ws' a1 a2 a3 a4 a5 a6 a7 a8=>by
   rw[a1,ho_23 a2 a3,a4,a5]
   refine⟨Nx.id hB ow,⟨fun _ g=>(by clear a8;omega),fun _ _=>by rw[a4,a5,a6];exact⟨hsup,s0,s1⟩,fun _ g p' hp'=>?_,fun _ g=>(by clear a8;omega)⟩⟩
   obtain⟨p2,b1,b2,b3,b4,b5⟩:=a8 g
   rw[b1]at hp';injection hp' with hp';subst hp'
   rw[a4,a5,a6,a7,htc];exact⟨b2,b3,b4,b5⟩
  show Nx s c w.ws (p.step w).2.ws (t.kept (p.step w).1).ho∧(t.kept (p.step w).1).Ft s (p.step w).2.ws
  cases hh:p.hit
  ·by_cases hz:w.get p.at'=0
   ·have es:p.step w=({ p with hit:=true },w.load p.c p.at'):=by unfold Pu.step;rw[if_neg (by rw[pd];decide),if_neg (by rw[hh];decide),if_pos hz]
    have ek:t.kept { p with hit:=true } = { t with put:=some { p with hit:=true } }:=by
     unfold kept;show(if p.put=true then _ else if p.dn=true then _ else _:Gv)=_;rw[pp,pd];rfl
    rw[es]
    show Nx s c w.ws w.ws (t.kept { p with hit:=true }).ho∧_
    rw[ek]
    exact stay _ _ rfl hd (.inl hn) rfl rfl rfl rfl fun _=>⟨_,rfl,g1,g2,g3,fun _=>(by rw[← hg];exact hz)⟩
   ·have es:p.step w=({ p with i:=p.i+1,dn:=decide (p.i+1=p.s.m) },w.load p.c p.at'):=by unfold Pu.step;rw[if_neg (by rw[pd];decide),if_neg (by rw[hh];decide),if_neg hz]
    rw[es]
    show Nx s c w.ws w.ws (t.kept { p with i:=p.i+1,dn:=decide (p.i+1=p.s.m) }).ho∧_
    cases hl:decide (p.i+1=p.s.m)
    ·have ek:t.kept { p with i:=p.i+1,dn:=false } = { t with put:=some { p with i:=p.i+1,dn:=false } }:=by
      unfold kept;show(if p.put=true then _ else if false=true then _ else _:Gv)=_;rw[pp];rfl
     rw[ek]
     exact stay _ _ rfl hd (.inl hn) rfl rfl rfl rfl fun _=>⟨_,rfl,g1,g2,g3,fun g=>(by have g:p.hit=true:=g;rw[hh]at g;cases g)⟩
    ·have ek:t.kept { p with i:=p.i+1,dn:=true } = { t with put:=some { p with i:=p.i+1,dn:=true },nx:=3 }:=by
      unfold kept;show(if p.put=true then _ else if true=true then _ else _:Gv)=_;rw[pp];rfl
     rw[ek]
     exact stay _ _ rfl hd (.inr rfl) rfl rfl rfl rfl fun g=>by cases g
  ·have es:p.step w=({ p with put:=true,dn:=true },w.store p.c p.at' (putEn p.ep p.es p.ek)):=by unfold Pu.step;rw[if_neg (by rw[pd];decide),if_pos hh]
   have hz:=g4 hh
   rw[htc]at hz
   have ek:t.kept { p with put:=true,dn:=true } = { t with put:=some { p with put:=true,dn:=true },dn:=true }:=rfl
   rw[es]
   show Nx s c w.ws (w.store p.c p.at' (putEn p.ep p.es p.ek)).ws (t.kept { p with put:=true,dn:=true }).ho∧_
   rw[ek,ho_d rfl]
   have ev:putEn p.ep p.es p.ek=1+16*t.pg+4096*t.sl+1048576*t.pA:=by rw[g1,g2,g3];unfold putEn;rw[if_pos (by omega)]
   have ew:(w.store p.c p.at' (putEn p.ep p.es p.ek)).ws=upW w.ws (mag s.p s.c s.m c p.i) (1+16*t.pg+4096*t.sl+1048576*t.pA):=by rw[store_ws,hat,ev]
   refine⟨?_,ft_d rfl⟩
   show Nx s c w.ws (w.store p.c p.at' (putEn p.ep p.es p.ek)).ws nil
   rw[ew]
   exact Ow.put hm hB ow c0 c1 i0 i1 p0 p1 s0 (by omega) hz hsup ⟨rfl,rfl⟩ rfl rfl fun x i'=>⟨fun g=>g.elim,fun g=>absurd g.1 g.2⟩
 ·
  obtain⟨hsup,s0,s1⟩:=ft.s2 hd (.inr hn)
  have hsl:=slots_bd t.pA
  have hkb:=hsup.bd
  rw[ho_23 hd (.inr hn)]at ow
  have ew:(w.store t.c t.sat (opn t.pA)).ws=upW w.ws (slot s.p s.c s.m t.pg t.sl) (1+16*t.pA):=by rw[store_ws,hsat,opn_v hkb.1 (by omega)]
  show Nx s c w.ws (w.store t.c t.sat (opn t.pA)).ws ({ t with dn:=true }:Gv).ho∧_
  rw[ho_d rfl]
  refine⟨?_,ft_d rfl⟩
  rw[ew]
  exact freeO hm hB ow c0 c1 p0 p1 s0 (by omega) hsup ⟨rfl,rfl⟩ (.inl rfl) rfl rfl fun x j=>⟨fun g=>g.elim,fun g=>absurd g.1 g.2⟩
 ·
  obtain⟨hk,i0,i1⟩:=h.wf.n4 hd hn
  have hbl:=(h.wf.bl hd (by omega)).2.1
  obtain⟨n1,n8,nq⟩:1≤t.pA∧t.pA≤8∧t.pg+t.pA≤s.p:=by
   rcases hbl with g | g
   ·rw[hts]at g;omega
   ·omega
  rw[ho_4 hd hn]at ow
  have ew:(w.store t.c t.pat 0).ws=upW w.ws (page s.p s.c s.m t.pg) 0:=by rw[store_ws,hpat]
  show Nx s c w.ws (w.store t.c t.pat 0).ws ({ t with dn:=true }:Gv).ho∧_
  rw[ho_d rfl]
  refine⟨?_,ft_d rfl⟩
  rw[ew]
  refine(free (o':=⟨fun _=>False,(rw6 t.pg t.i t.pA).hb,fun _ _=>False⟩) hm hB ow c0 c1 p0 p1 rfl (ft.z4 hd hn) (fun x _ _ g=>?_) (fun x=>⟨fun g=>g.elim,fun g=>absurd g.1 g.2⟩) rfl rfl).congr (fun _=>Iff.rfl) (fun x h'=>⟨fun g=>g.elim,fun g=>?_⟩) fun _ _=>Iff.rfl
  ·obtain⟨-,g0,g1⟩:=g;omega
  ·obtain⟨-,g0,g1⟩:=g;omega
 ·
  obtain⟨hk,i0,i1⟩:=h.wf.n4 hd hn
  have hbl:=(h.wf.bl hd (by omega)).2.1
  obtain⟨n1,n8,nq⟩:1≤t.pA∧t.pA≤8∧t.pg+t.pA≤s.p:=by
   rcases hbl with g | g
   ·rw[hts]at g;omega
   ·omega
  rw[ho_4 hd hn]at ow
  have ew:(w.store t.c (page t.s.p t.s.c t.s.m (t.pg+t.i+1)) 0).ws=upW w.ws (page s.p s.c s.m (t.pg+t.i+1)) 0:=by rw[store_ws,hts]
  show Nx s c w.ws (w.store t.c (page t.s.p t.s.c t.s.m (t.pg+t.i+1)) 0).ws ({ t with i:=t.i+1 }:Gv).ho∧({ t with i:=t.i+1 }:Gv).Ft s (w.store t.c (page t.s.p t.s.c t.s.m (t.pg+t.i+1)) 0).ws
  rw[ew,ho_4 (t:={ t with i:=t.i+1 }) hd hn]
  refine⟨unbody hm hB ow c0 c1 (by omega) (by omega) (d:=t.pg) ⟨rfl,by omega,by omega⟩ p0 p1 rfl (fun x h'=>?_) rfl,⟨fun _ g=>(by have g:t.nx=1:=g;omega),fun _ g=>(by have g:t.nx=2∨t.nx=3:=g;omega),fun _ g=>(by have g:t.nx=2:=g;omega),fun _ _ i j0 j1=>?_⟩⟩
  ·show(h'=t.pg∧t.pg+(t.i+1)<x∧x<t.pg+t.pA)↔(h'=t.pg∧t.pg+t.i<x∧x<t.pg+t.pA)∧x≠t.pg+t.i+1;omega
  ·show slAt s _ t.pg i=0
   rw[sl_pg hm (by omega) (by omega) p0 j0];exact ft.z4 hd hn i j0 j1
theorem In.step (h:In s c t w.ws) (ho:w.of s) (hB:Bs s w.ws):Nx s c w.ws (t.step w).2.ws (t.step w).1.ho∧In s c (t.step w).1 (t.step w).2.ws:=by
 obtain⟨n,f⟩:=h.step' hB
 have hk:=step_keeps (w:=w) h.wf
 exact⟨n,⟨h.m,h.c0,h.c1,step_wf h.wf ho.u,hk.1.trans h.es,hk.2.1.trans h.ec,n.ow,f⟩⟩
theorem In.rel {ws ws':Nat→Int} (h:In s c t ws) (r:Rel s c ws ws'):In s c t ws':=by
 have ow:=h.ow
 have ft:=h.ft
 have hb:=(may_iff _ _ _).1 h.m
 refine⟨h.m,h.c0,h.c1,h.wf,h.es,h.ec,ow.rel r,⟨ft.w1,fun hd g=>?_,fun hd hn p hp=>?_,fun hd hn i i0 i1=>?_⟩⟩
 ·obtain⟨-,-,-,p0,p1,-⟩:=h.wf.of hd
  rw[h.es]at p1
  obtain⟨hsup,s0,s1⟩:=ft.s2 hd g
  have hsl:=slots_bd t.pA
  rw[ho_23 hd g]at ow
  have:=(ow.sl t.pg t.sl p0 p1 s0 (by omega)).2 (.inl ⟨rfl,rfl⟩)
  rw[r.sp t.pg t.sl p0 p1 s0 (by omega) this.1 this.2];exact⟨hsup,s0,s1⟩
 ·obtain⟨g1,g2,g3,g4⟩:=ft.p2 hd hn p hp
  obtain⟨-,p',hp',pw,pd,-,ps,pc⟩:=h.wf.n2 hd hn
  rw[hp]at hp';injection hp' with hp';subst hp'
  obtain⟨-,-,-,i0,i1⟩:=pw.of pd
  rw[ps,h.es]at i1
  refine⟨g1,g2,g3,fun g=>?_⟩
  rw[h.ec,r.mg p.i i0 i1,← h.ec];exact g4 g
 ·obtain⟨-,-,-,p0,p1,-⟩:=h.wf.of hd
  rw[h.es]at p1
  rw[ho_4 hd hn]at ow
  rw[r.hs t.pg i p0 p1 i0 i1 ((ow.pg t.pg p0 p1).2 rfl)];exact ft.z4 hd hn i i0 i1
theorem In.new {ws:Nat→Int} (hm:may s.p s.c s.m=true) (c0:0≤c) (c1:c<s.c) (a:Int) (ow:Own s ws c nil):In s c (Gv.new s c a) ws:=
 ⟨hm,c0,c1,Gv.new_wf ..,rfl,rfl,by rw[ho_01 (by show(0:Int)≤1;decide)];exact ow,⟨fun _ g=>(by cases g),fun _ g=>(by rcases g with g | g<;>cases g),fun _ g=>(by cases g),fun _ g=>(by cases g)⟩⟩
end
end Gv
end Go.Ma
namespace Go.Ma
open Go.Pl
open Ow
namespace Ow
def add (x o:Ho):Ho:=⟨fun q=>o.hp q∨x.hp q,fun q h=>o.hb q h∨x.hb q h,fun q i=>o.hs q i∨x.hs q i⟩
def Dj (x o:Ho):Prop:=(∀ q,x.hp q→¬ o.hp q)∧(∀ q h,x.hb q h→¬ o.hb q h)∧∀ q i,x.hs q i→¬ o.hs q i
theorem Dj.nil (x:Ho):Dj x nil:=⟨fun _ _ e=>e,fun _ _ _ e=>e,fun _ _ _ e=>e⟩
end Ow
namespace Gv
structure InX (s:Sh) (c:Int) (x:Ho) (t:Gv) (ws:Nat→Int):Prop where
 m:may s.p s.c s.m=true
 c0:0≤c
 c1:c<s.c
 wf:t.wf
 es:t.s=s
 ec:t.c=c
 ow:Own s ws c (add x t.ho)
 ft:t.Ft s ws
 cl:∀ q h,x.hb q h→x.hp h
 rg:∀ q,x.hp q→0≤q∧q<s.p
 dj:Dj x t.ho
section
variable {s:Sh} {c:Int} {x:Ho} {t:Gv} {w:Wd}
theorem InX.step' (h:InX s c x t w.ws) (hB:Bs s w.ws):Nx s c w.ws (t.step w).2.ws (add x (t.step w).1.ho)∧(t.step w).1.Ft s (t.step w).2.ws∧Dj x (t.step w).1.ho:=by
 have hm:=h.m
 have hb:=(may_iff _ _ _).1 hm
 have c0:=h.c0
 have c1:=h.c1
 have hts:=h.es
 have htc:=h.ec
 have ow:=h.ow
 have ft:=h.ft
 have hcl:=h.cl
 have hrg:=h.rg
 have hdj:=h.dj
 rcases step_cases h.wf w with⟨hd,e⟩|⟨hd,hc⟩
 ·rw[e];exact⟨Nx.id hB ow,ft,hdj⟩
 obtain⟨-,-,-,p0,p1,-,-,x0,x4⟩:=h.wf.of hd
 rw[hts]at p1
 have hpat:t.pat=page s.p s.c s.m t.pg:=by unfold pat;rw[hts]
 have hsat:t.sat=slot s.p s.c s.m t.pg t.sl:=by unfold sat;rw[hts]
 rcases hc with⟨hn,e⟩|⟨hn,hk,e⟩|⟨hn,hk,e⟩|⟨hn,p,hp,pw,pd,pp,ps,pc,e⟩|⟨hn,e⟩|⟨hn,hi,e⟩|⟨hn,hi,e⟩<;>rw[e]
 ·
  rw[ho_01 (by omega)]at ow
  have hx:(t.look w).nx≤1:=by
   unfold look;split
   ·show(1:Int)≤1;decide
   ·split<;>(show(1:Int)≤1;decide)
  rw[ho_01 hx]
  refine⟨Nx.id hB ow,⟨fun hd' _ hk=>?_,fun _ g=>(by have g:(t.look w).nx=2∨(t.look w).nx=3:=g;omega),fun _ g=>(by have g:(t.look w).nx=2:=g;omega),fun _ g=>(by have g:(t.look w).nx=4:=g;omega)⟩,Dj.nil x⟩
  have hrd:(t.look w).wd=w.get t.pat∧(t.look w).pK=pgK t.s t.pg (w.get t.pat)∧(t.look w).pA=pgA t.s t.pg (w.get t.pat):=by
   unfold look;split
   ·exact⟨rfl,rfl,rfl⟩
   ·split<;>exact⟨rfl,rfl,rfl⟩
  rw[hrd.1,hrd.2.2]
  rw[hrd.2.1]at hk
  have hok:=pgK_ne (s:=t.s) (q:=t.pg) (x:=w.get t.pat) (by rw[hk];decide)
  have h1:w.get t.pat % 16=3:=by unfold pgK at hk;rw[if_pos hok]at hk;exact hk
  have h2:pgA t.s t.pg (w.get t.pat)=pt (w.get t.pat) 16:=by unfold pgA;rw[if_pos hok]
  rw[h2]
  unfold okPg at hok
  rw[h1]at hok
  simp only[Bool.and_eq_true,decide_eq_true_eq]at hok
  have h3:=hok.1
  unfold putPg at h3
  split at h3
  ·omega
  ·omega
 ·
  rw[ho_01 (by omega)]at ow
  have hwd:=ft.w1 hd hn hk
  show Nx s c w.ws (w.swap t.c t.pat t.wd (held t.c)).ws (add x (t.claimL w).ho)∧(t.claimL w).Ft s (w.swap t.c t.pat t.wd (held t.c)).ws∧Dj x (t.claimL w).ho
  by_cases hx:w.get t.pat=t.wd
  ·have hx2:pgAt s w.ws t.pg=3+16*t.pA:=by rw[hpat]at hx;rw[← hwd,← hx];rfl
   have ew:(w.swap t.c t.pat t.wd (held t.c)).ws=upW w.ws (page s.p s.c s.m t.pg) (1+16*c):=by rw[swap_yes hx,hpat,htc,held_v c0 (by omega)]
   rw[ew]
   have hd':(t.claimL w).dn=false:=by unfold claimL;show(!decide _)=false;rw[decide_eq_true hx];rfl
   have hi:t.i=0:=(h.wf.n01 (.inr hn)).2.2
   have hz:∀ i,0≤i→i<16→slAt s w.ws t.pg i=0:=by
    cases hB.pg t.pg p0 p1 with
    | e h z=>exact z
    | h c c0 c1 h z=>omega
    | s k h z=>have:=h.mod;omega
    | l n n1 n8 nq h z b=>exact z
    | b h h0 h1 h2 e z w=>exact z
   rw[ho_4 (t:=t.claimL w) hd' rfl]
   have nx:¬ x.hp t.pg:=fun g=>by have:=(ow.pg t.pg p0 p1).2 (.inr g);omega
   refine⟨(Ow.claimL (o':=add x (rw6 t.pg 0 t.pA)) hm hB ow c0 c1 p0 p1 hx2 (fun q=>?_) (fun q h'=>?_) rfl).congr (fun _=>Iff.rfl) (fun q h'=>?_) (fun _ _=>Iff.rfl),⟨fun _ g=>(by cases g),fun _ g=>(by rcases g with g | g<;>cases g),fun _ g=>(by cases g),fun _ _ i i0 i1=>?_⟩,fun q g e=>?_,fun q h' g e=>?_,fun _ _ _ e=>e⟩
   ·show(q=t.pg∨x.hp q)↔((False∨x.hp q)∨q=t.pg);grind
   ·show((h'=t.pg∧t.pg+0<q∧q<t.pg+t.pA)∨x.hb q h')↔(False∨x.hb q h')∨(h'=t.pg∧t.pg<q∧q<t.pg+t.pA);grind
   ·show((h'=t.pg∧t.pg+t.i<q∧q<t.pg+t.pA)∨x.hb q h')↔((h'=t.pg∧t.pg+0<q∧q<t.pg+t.pA)∨x.hb q h');rw[hi]
   ·show slAt s _ t.pg i=0
    rw[sl_pg hm p0 p1 p0 i0];exact hz i i0 i1
   ·have e:q=t.pg:=e
    subst e;exact nx g
   ·have e:h'=t.pg:=e.1
    subst e;exact nx (hcl _ _ g)
  ·rw[swap_no hx]
   have hd':(t.claimL w).dn=true:=by unfold claimL;show(!decide _)=true;rw[decide_eq_false hx];rfl
   rw[ho_d hd']
   exact⟨Nx.id hB ow,ft_d hd',Dj.nil x⟩
 ·
  rw[ho_01 (by omega)]at ow
  have hbl:=(h.wf.bl hd (by omega)).2.1
  obtain⟨s0,s1,k0,k3,b0,b1⟩:0≤t.sl∧t.sl<slots t.pA∧0≤t.pA∧t.pA≤3∧0≤t.pB∧t.pB<t.s.c:=by
   rcases hbl with g | g
   ·omega
   ·exact g.2
  have hsl:=slots_bd t.pA
  have hg:w.get t.sat=slAt s w.ws t.pg t.sl:=by rw[hsat,slot_at hm p0 p1 s0 (by omega)]
  show Nx s c w.ws (w.swap t.c t.sat (taken t.pA) (way t.c)).ws (add x (t.claimS w).ho)∧(t.claimS w).Ft s (w.swap t.c t.sat (taken t.pA) (way t.c)).ws∧Dj x (t.claimS w).ho
  have hf:(t.claimS w).dn = !decide (w.get t.sat=taken t.pA)∧(t.claimS w).pg=t.pg∧(t.claimS w).sl=t.sl∧(t.claimS w).pA=t.pA∧((t.claimS w).nx=2∨(t.claimS w).nx=3)∧((t.claimS w).nx=2→(t.claimS w).put=some t.pnew):=by
   unfold claimS;split
   ·refine⟨rfl,rfl,rfl,rfl,?_,fun _=>rfl⟩
    dsimp only;split
    ·exact .inr rfl
    ·exact .inl rfl
   ·exact⟨rfl,rfl,rfl,rfl,.inr rfl,fun g=>by cases g⟩
  obtain⟨f1,f2,f3,f4,f5,f6⟩:=hf
  by_cases hx:w.get t.sat=taken t.pA
  ·have hx2:slAt s w.ws t.pg t.sl=3+16*t.pA:=by rw[← hg,hx,taken_v k0 (by omega)]
   have ew:(w.swap t.c t.sat (taken t.pA) (way t.c)).ws=upW w.ws (slot s.p s.c s.m t.pg t.sl) (2+16*c):=by rw[swap_yes hx,hsat,htc,way_v c0 (by omega)]
   rw[ew]
   have hd':(t.claimS w).dn=false:=by rw[f1,decide_eq_true hx];rfl
   rw[ho_23 hd' f5,f2,f3]
   have hsup:=((hB.pg t.pg p0 p1).open (by omega) k0 k3 s0 (by omega) (.inr hx2)).1
   refine⟨claimO (o':=add x (one t.pg t.sl)) hm hB ow c0 c1 p0 p1 s0 (by omega) k0 k3 (.inr hx2) rfl rfl (fun q j=>?_),⟨fun _ g=>(by have g:(t.claimS w).nx=1:=g;omega),fun _ _=>?_,fun _ g p hp=>?_,fun _ g=>(by have g:(t.claimS w).nx=4:=g;omega)⟩,fun _ _ e=>e,fun _ _ _ e=>e,fun q i g e=>?_⟩
   ·show((q=t.pg∧j=t.sl)∨x.hs q j)↔(False∨x.hs q j)∨(q=t.pg∧j=t.sl);grind
   ·rw[f2,f3,f4,pg_sl hm p0 p1 s0 (by omega) p0 p1];exact⟨hsup,s0,s1⟩
   ·rw[f6 g]at hp;injection hp with hp;subst hp
    rw[f2,f3,f4]
    exact⟨rfl,rfl,rfl,fun g=>(by cases g)⟩
   ·obtain⟨rfl,rfl⟩:q=t.pg∧i=t.sl:=e
    have:=((ow.sl _ _ p0 p1 s0 (by omega)).2 (.inl (.inr g))).2
    omega
  ·rw[swap_no hx]
   have hd':(t.claimS w).dn=true:=by rw[f1,decide_eq_false hx];rfl
   rw[ho_d hd']
   exact⟨Nx.id hB ow,ft_d hd',Dj.nil x⟩
 ·
  obtain⟨hsup,s0,s1⟩:=ft.s2 hd (.inl hn)
  obtain⟨g1,g2,g3,g4⟩:=ft.p2 hd hn p hp
  have hsl:=slots_bd t.pA
  have hkb:=hsup.bd
  obtain⟨-,-,-,i0,i1⟩:=pw.of pd
  rw[ps,hts]at i1
  rw[ho_23 hd (.inl hn)]at ow hdj
  have hat:p.at'=mag s.p s.c s.m c p.i:=by unfold Pu.at';rw[ps,hts,pc,htc]
  have hg:w.get p.at'=mgAt s w.ws c p.i:=by rw[hat,mag_at hm c0 c1 i0 i1]
  have stay:∀ (u:Gv) (ws':Nat→Int),ws'=w.ws→u.dn=false→(u.nx=2∨u.nx=3)→u.pg=t.pg→u.sl=t.sl→u.pA=t.pA→u.c=t.c→(u.nx=2→∃ p',u.put=some p'∧p'.ep=t.pg∧p'.es=t.sl∧p'.ek=t.pA∧(p'.hit=true→mgAt s w.ws c p'.i=0))→Nx s c w.ws ws' (add x u.ho)∧u.Ft s ws'∧Dj x u.ho:=fun u ws' a1 a2 a3 a4 a5 a6 a7 a8=>by
   rw[a1,ho_23 a2 a3,a4,a5]
   refine⟨Nx.id hB ow,⟨fun _ g=>(by clear a8;omega),fun _ _=>by rw[a4,a5,a6];exact⟨hsup,s0,s1⟩,fun _ g p' hp'=>?_,fun _ g=>(by clear a8;omega)⟩,hdj⟩
   obtain⟨p2,b1,b2,b3,b4,b5⟩:=a8 g
   rw[b1]at hp';injection hp' with hp';subst hp'
   rw[a4,a5,a6,a7,htc];exact⟨b2,b3,b4,b5⟩
  show Nx s c w.ws (p.step w).2.ws (add x (t.kept (p.step w).1).ho)∧(t.kept (p.step w).1).Ft s (p.step w).2.ws∧Dj x (t.kept (p.step w).1).ho
  cases hh:p.hit
  ·by_cases hz:w.get p.at'=0
   ·have es:p.step w=({ p with hit:=true },w.load p.c p.at'):=by unfold Pu.step;rw[if_neg (by rw[pd];decide),if_neg (by rw[hh];decide),if_pos hz]
    have ek:t.kept { p with hit:=true } = { t with put:=some { p with hit:=true } }:=by
     unfold kept;show(if p.put=true then _ else if p.dn=true then _ else _:Gv)=_;rw[pp,pd];rfl
    rw[es]
    show Nx s c w.ws w.ws (add x (t.kept { p with hit:=true }).ho)∧_
    rw[ek]
    exact stay _ _ rfl hd (.inl hn) rfl rfl rfl rfl fun _=>⟨_,rfl,g1,g2,g3,fun _=>(by rw[← hg];exact hz)⟩
   ·have es:p.step w=({ p with i:=p.i+1,dn:=decide (p.i+1=p.s.m) },w.load p.c p.at'):=by unfold Pu.step;rw[if_neg (by rw[pd];decide),if_neg (by rw[hh];decide),if_neg hz]
    rw[es]
    show Nx s c w.ws w.ws (add x (t.kept { p with i:=p.i+1,dn:=decide (p.i+1=p.s.m) }).ho)∧_
    cases hl:decide (p.i+1=p.s.m)
    ·have ek:t.kept { p with i:=p.i+1,dn:=false } = { t with put:=some { p with i:=p.i+1,dn:=false } }:=by
      unfold kept;show(if p.put=true then _ else if false=true then _ else _:Gv)=_;rw[pp];rfl
     rw[ek]
     exact stay _ _ rfl hd (.inl hn) rfl rfl rfl rfl fun _=>⟨_,rfl,g1,g2,g3,fun g=>(by have g:p.hit=true:=g;rw[hh]at g;cases g)⟩
    ·have ek:t.kept { p with i:=p.i+1,dn:=true } = { t with put:=some { p with i:=p.i+1,dn:=true },nx:=3 }:=by
      unfold kept;show(if p.put=true then _ else if true=true then _ else _:Gv)=_;rw[pp];rfl
     rw[ek]
     exact stay _ _ rfl hd (.inr rfl) rfl rfl rfl rfl fun g=>by cases g
  ·have es:p.step w=({ p with put:=true,dn:=true },w.store p.c p.at' (putEn p.ep p.es p.ek)):=by unfold Pu.step;rw[if_neg (by rw[pd];decide),if_pos hh]
   have hz:=g4 hh
   rw[htc]at hz
   have ek:t.kept { p with put:=true,dn:=true } = { t with put:=some { p with put:=true,dn:=true },dn:=true }:=rfl
   rw[es]
   show Nx s c w.ws (w.store p.c p.at' (putEn p.ep p.es p.ek)).ws (add x (t.kept { p with put:=true,dn:=true }).ho)∧_∧Dj x (t.kept { p with put:=true,dn:=true }).ho
   rw[ek,ho_d rfl]
   have ev:putEn p.ep p.es p.ek=1+16*t.pg+4096*t.sl+1048576*t.pA:=by rw[g1,g2,g3];unfold putEn;rw[if_pos (by omega)]
   have ew:(w.store p.c p.at' (putEn p.ep p.es p.ek)).ws=upW w.ws (mag s.p s.c s.m c p.i) (1+16*t.pg+4096*t.sl+1048576*t.pA):=by rw[store_ws,hat,ev]
   refine⟨?_,ft_d rfl,Dj.nil x⟩
   show Nx s c w.ws (w.store p.c p.at' (putEn p.ep p.es p.ek)).ws (add x nil)
   rw[ew]
   refine Ow.put hm hB ow c0 c1 i0 i1 p0 p1 s0 (by omega) hz hsup (.inl ⟨rfl,rfl⟩) rfl rfl fun q i'=>?_
   show(False∨x.hs q i')↔((q=t.pg∧i'=t.sl)∨x.hs q i')∧¬ (q=t.pg∧i'=t.sl)
   have:=hdj.2.2 q i'
   have:x.hs q i'→¬ (q=t.pg∧i'=t.sl):=this
   grind
 ·
  obtain⟨hsup,s0,s1⟩:=ft.s2 hd (.inr hn)
  have hsl:=slots_bd t.pA
  have hkb:=hsup.bd
  rw[ho_23 hd (.inr hn)]at ow hdj
  have ew:(w.store t.c t.sat (opn t.pA)).ws=upW w.ws (slot s.p s.c s.m t.pg t.sl) (1+16*t.pA):=by rw[store_ws,hsat,opn_v hkb.1 (by omega)]
  show Nx s c w.ws (w.store t.c t.sat (opn t.pA)).ws (add x ({ t with dn:=true }:Gv).ho)∧_∧Dj x ({ t with dn:=true }:Gv).ho
  rw[ho_d rfl]
  refine⟨?_,ft_d rfl,Dj.nil x⟩
  rw[ew]
  refine freeO hm hB ow c0 c1 p0 p1 s0 (by omega) hsup (.inl ⟨rfl,rfl⟩) (.inl rfl) rfl rfl fun q j=>?_
  show(False∨x.hs q j)↔((q=t.pg∧j=t.sl)∨x.hs q j)∧¬ (q=t.pg∧j=t.sl)
  have:x.hs q j→¬ (q=t.pg∧j=t.sl):=hdj.2.2 q j
  grind
 ·
  obtain⟨hk,i0,i1⟩:=h.wf.n4 hd hn
  have hbl:=(h.wf.bl hd (by omega)).2.1
  obtain⟨n1,n8,nq⟩:1≤t.pA∧t.pA≤8∧t.pg+t.pA≤s.p:=by
   rcases hbl with g | g
   ·rw[hts]at g;omega
   ·omega
  rw[ho_4 hd hn]at ow hdj
  have ew:(w.store t.c t.pat 0).ws=upW w.ws (page s.p s.c s.m t.pg) 0:=by rw[store_ws,hpat]
  show Nx s c w.ws (w.store t.c t.pat 0).ws (add x ({ t with dn:=true }:Gv).ho)∧_∧Dj x ({ t with dn:=true }:Gv).ho
  rw[ho_d rfl]
  refine⟨?_,ft_d rfl,Dj.nil x⟩
  rw[ew]
  have nx:¬ x.hp t.pg:=fun g=>hdj.1 _ g rfl
  refine(free (o':=⟨fun q=>False∨x.hp q,(add x (rw6 t.pg t.i t.pA)).hb,fun q i=>False∨x.hs q i⟩) hm hB ow c0 c1 p0 p1 (.inl rfl) (ft.z4 hd hn) (fun q _ _ g=>?_) (fun q=>?_) rfl rfl).congr (fun _=>Iff.rfl) (fun q h'=>?_) fun _ _=>Iff.rfl
  ·rcases g with⟨-,g0,g1⟩| g
   ·omega
   ·exact nx (hcl _ _ g)
  ·show(False∨x.hp q)↔(q=t.pg∨x.hp q)∧q≠t.pg
   grind
  ·show(False∨x.hb q h')↔((h'=t.pg∧t.pg+t.i<q∧q<t.pg+t.pA)∨x.hb q h')
   constructor
   ·rintro(g | g)
    ·exact g.elim
    ·exact .inr g
   ·rintro(⟨-,g0,g1⟩| g)
    ·omega
    ·exact .inr g
 ·
  obtain⟨hk,i0,i1⟩:=h.wf.n4 hd hn
  have hbl:=(h.wf.bl hd (by omega)).2.1
  obtain⟨n1,n8,nq⟩:1≤t.pA∧t.pA≤8∧t.pg+t.pA≤s.p:=by
   rcases hbl with g | g
   ·rw[hts]at g;omega
   ·omega
  rw[ho_4 hd hn]at ow hdj
  have ew:(w.store t.c (page t.s.p t.s.c t.s.m (t.pg+t.i+1)) 0).ws=upW w.ws (page s.p s.c s.m (t.pg+t.i+1)) 0:=by rw[store_ws,hts]
  show Nx s c w.ws (w.store t.c (page t.s.p t.s.c t.s.m (t.pg+t.i+1)) 0).ws (add x ({ t with i:=t.i+1 }:Gv).ho)∧({ t with i:=t.i+1 }:Gv).Ft s (w.store t.c (page t.s.p t.s.c t.s.m (t.pg+t.i+1)) 0).ws∧Dj x ({ t with i:=t.i+1 }:Gv).ho
  rw[ew,ho_4 (t:={ t with i:=t.i+1 }) hd hn]
  refine⟨unbody (o':=add x (rw6 t.pg (t.i+1) t.pA)) hm hB ow c0 c1 (by omega) (by omega) (d:=t.pg) (.inl ⟨rfl,by omega,by omega⟩) p0 p1 rfl (fun q h'=>?_) rfl,⟨fun _ g=>(by have g:t.nx=1:=g;omega),fun _ g=>(by have g:t.nx=2∨t.nx=3:=g;omega),fun _ g=>(by have g:t.nx=2:=g;omega),fun _ _ i j0 j1=>?_⟩,hdj.1,fun q h' g e=>?_,fun _ _ _ e=>e⟩
  ·show((h'=t.pg∧t.pg+(t.i+1)<q∧q<t.pg+t.pA)∨x.hb q h')↔((h'=t.pg∧t.pg+t.i<q∧q<t.pg+t.pA)∨x.hb q h')∧q≠t.pg+t.i+1
   have nb:x.hb q h'→q≠t.pg+t.i+1:=fun g e=>by
    have h1:=(ow.pg t.pg p0 p1).2 (.inl rfl)
    have h2:=hcl _ _ g
    subst e
    have h3:=(ow.bd (t.pg+t.i+1) t.pg (by omega) (by omega) p0 p1).2 (.inl ⟨rfl,by omega,by omega⟩)
    have hr:=hrg _ h2
    have h4:=(ow.bd (t.pg+t.i+1) h' (by omega) (by omega) hr.1 hr.2).2 (.inr g)
    have:h'=t.pg:=by omega
    subst this
    exact hdj.1 _ h2 rfl
   by_cases e:x.hb q h'
   ·have:=nb e;simp [e,this]
   ·simp only[e,or_false];omega
  ·show slAt s _ t.pg i=0
   rw[sl_pg hm (by omega) (by omega) p0 j0];exact ft.z4 hd hn i j0 j1
  ·obtain⟨e1,e2,e3⟩:h'=t.pg∧t.pg+(t.i+1)<q∧q<t.pg+t.pA:=e
   exact hdj.2.1 _ _ g ⟨e1,by omega,e3⟩
theorem InX.step (h:InX s c x t w.ws) (ho:w.of s) (hB:Bs s w.ws):Nx s c w.ws (t.step w).2.ws (add x (t.step w).1.ho)∧InX s c x (t.step w).1 (t.step w).2.ws:=by
 obtain⟨n,f,d⟩:=h.step' hB
 have hk:=step_keeps (w:=w) h.wf
 exact⟨n,⟨h.m,h.c0,h.c1,step_wf h.wf ho.u,hk.1.trans h.es,hk.2.1.trans h.ec,n.ow,f,h.cl,h.rg,d⟩⟩
theorem InX.rel {ws ws':Nat→Int} (h:InX s c x t ws) (r:Rel s c ws ws'):InX s c x t ws':=by
 have ow:=h.ow
 have ft:=h.ft
 have hb:=(may_iff _ _ _).1 h.m
 refine⟨h.m,h.c0,h.c1,h.wf,h.es,h.ec,ow.rel r,⟨ft.w1,fun hd g=>?_,fun hd hn p hp=>?_,fun hd hn i i0 i1=>?_⟩,h.cl,h.rg,h.dj⟩
 ·obtain⟨-,-,-,p0,p1,-⟩:=h.wf.of hd
  rw[h.es]at p1
  obtain⟨hsup,s0,s1⟩:=ft.s2 hd g
  have hsl:=slots_bd t.pA
  rw[ho_23 hd g]at ow
  have:=(ow.sl t.pg t.sl p0 p1 s0 (by omega)).2 (.inl (.inl ⟨rfl,rfl⟩))
  rw[r.sp t.pg t.sl p0 p1 s0 (by omega) this.1 this.2];exact⟨hsup,s0,s1⟩
 ·obtain⟨g1,g2,g3,g4⟩:=ft.p2 hd hn p hp
  obtain⟨-,p',hp',pw,pd,-,ps,pc⟩:=h.wf.n2 hd hn
  rw[hp]at hp';injection hp' with hp';subst hp'
  obtain⟨-,-,-,i0,i1⟩:=pw.of pd
  rw[ps,h.es]at i1
  refine⟨g1,g2,g3,fun g=>?_⟩
  rw[h.ec,r.mg p.i i0 i1,← h.ec];exact g4 g
 ·obtain⟨-,-,-,p0,p1,-⟩:=h.wf.of hd
  rw[h.es]at p1
  rw[ho_4 hd hn]at ow
  rw[r.hs t.pg i p0 p1 i0 i1 ((ow.pg t.pg p0 p1).2 (.inl rfl))];exact ft.z4 hd hn i i0 i1
theorem InX.hsl (h:InX s c x t w.ws) (hB:Bs s w.ws) {q i:Int} (q0:0≤q) (q1:q<s.p) (i0:0≤i) (i1:i<16) (hq:pgAt s w.ws q=1+16*c):slAt s (t.step w).2.ws q i=slAt s w.ws q i:=by
 have hm:=h.m
 have hb:=(may_iff _ _ _).1 hm
 have c0:=h.c0
 have c1:=h.c1
 have hts:=h.es
 have htc:=h.ec
 have ft:=h.ft
 rcases step_cases h.wf w with⟨hd,e⟩|⟨hd,hc⟩
 ·rw[e]
 obtain⟨-,-,-,p0,p1,-,-,x0,x4⟩:=h.wf.of hd
 rw[hts]at p1
 have hpat:t.pat=page s.p s.c s.m t.pg:=by unfold pat;rw[hts]
 have hsat:t.sat=slot s.p s.c s.m t.pg t.sl:=by unfold sat;rw[hts]
 rcases hc with⟨hn,e⟩|⟨hn,hk,e⟩|⟨hn,hk,e⟩|⟨hn,p,hp,pw,pd,pp,ps,pc,e⟩|⟨hn,e⟩|⟨hn,hi,e⟩|⟨hn,hi,e⟩<;>rw[e]
 ·rfl
 ·show slAt s (w.swap t.c t.pat t.wd (held t.c)).ws q i=_
  rw[swap_ws,hpat,sl_pg hm p0 p1 q0 i0]
 ·have hbl:=(h.wf.bl hd (by omega)).2.1
  obtain⟨s0,s1,k0,k3,b0,b1⟩:0≤t.sl∧t.sl<slots t.pA∧0≤t.pA∧t.pA≤3∧0≤t.pB∧t.pB<t.s.c:=by
   rcases hbl with g | g
   ·omega
   ·exact g.2
  have hsl:=slots_bd t.pA
  have hg:w.get t.sat=slAt s w.ws t.pg t.sl:=by rw[hsat,slot_at hm p0 p1 s0 (by omega)]
  show slAt s (w.swap t.c t.sat (taken t.pA) (way t.c)).ws q i=_
  rw[swap_ws,hg,hsat,sl_sl hm p0 p1 s0 (by omega) q0 i0 i1]
  split
  ·rename_i e2
   obtain⟨rfl,rfl⟩:=e2
   split
   ·rename_i e3
    rw[taken_v k0 (by omega)]at e3
    have:=((hB.pg _ p0 p1).open (by omega) k0 k3 s0 (by omega) (.inr e3)).1.mod
    omega
   ·rfl
  ·rfl
 ·have i2:=(pw.of pd).2.2.2
  rw[ps,hts]at i2
  have hat:p.at'=mag s.p s.c s.m c p.i:=by unfold Pu.at';rw[ps,hts,pc,htc]
  show slAt s (p.step w).2.ws q i=_
  unfold Pu.step
  rw[if_neg (by rw[pd];decide)]
  split
  ·show slAt s (w.store p.c p.at' _).ws q i=_
   rw[store_ws,hat,sl_mg hm c0 c1 i2.1 i2.2 q0 q1 i0 i1]
  ·split<;>rfl
 ·obtain⟨hsup,s0,s1⟩:=ft.s2 hd (.inr hn)
  have hsl:=slots_bd t.pA
  show slAt s (w.store t.c t.sat (opn t.pA)).ws q i=_
  rw[store_ws,hsat,sl_sl hm p0 p1 s0 (by omega) q0 i0 i1,if_neg]
  rintro⟨rfl,-⟩
  have:=hsup.mod;omega
 ·show slAt s (w.store t.c t.pat 0).ws q i=_
  rw[store_ws,hpat,sl_pg hm p0 p1 q0 i0]
 ·obtain⟨hk,j0,j1⟩:=h.wf.n4 hd hn
  have hbl:=(h.wf.bl hd (by omega)).2.1
  obtain⟨n1,n8,nq⟩:1≤t.pA∧t.pA≤8∧t.pg+t.pA≤s.p:=by
   rcases hbl with g | g
   ·rw[hts]at g;omega
   ·omega
  show slAt s (w.store t.c (page t.s.p t.s.c t.s.m (t.pg+t.i+1)) 0).ws q i=_
  rw[store_ws,hts,sl_pg hm (by omega) (by omega) q0 i0]
theorem InX.ftb {b:Bk} (h:InX s c (ofB b) t w.ws) (ho:w.of s) (hB:Bs s w.ws) (hb:b.Fit s c) (ft:FtB s b w.ws):FtB s b (t.step w).2.ws:=by
 obtain⟨n,i⟩:=h.step ho hB
 refine⟨fun g j j0 j1=>?_,fun g=>?_⟩
 ·have hp:(ofB b).hp b.p:=by unfold ofB;rw[if_pos g];rfl
  rw[h.hsl hB hb.p0 hb.p1 j0 j1 ((h.ow.pg b.p hb.p0 hb.p1).2 (.inr hp))];exact ft.1 g j j0 j1
 ·obtain⟨i0,i1⟩:=hb.s g
  have hsl:=slots_bd b.k
  have hs:(ofB b).hs b.p b.i:=by unfold ofB;rw[if_neg (by rw[g];decide)];exact⟨rfl,rfl⟩
  have h1:=ft.2 g
  obtain⟨⟨k,h2⟩,h3⟩:=(n.ow.sl b.p b.i hb.p0 hb.p1 i0 (by omega)).2 (.inl (.inr hs))
  have h4:=h1.mod
  have h5:=h2.mod
  by_cases e:pgAt s (t.step w).2.ws b.p=pgAt s w.ws b.p
  ·rw[e];exact h1
  ·rcases n.mw.pg b.p hb.p0 hb.p1 e with g |⟨g,-⟩|⟨g,-⟩<;>omega
theorem InX.new {ws:Nat→Int} (hm:may s.p s.c s.m=true) (c0:0≤c) (c1:c<s.c) (a:Int) (cl:∀ q h,x.hb q h→x.hp h) (rg:∀ q,x.hp q→0≤q∧q<s.p) (ow:Own s ws c x):InX s c x (Gv.new s c a) ws:=
 ⟨hm,c0,c1,Gv.new_wf ..,rfl,rfl,by
   rw[ho_01 (by show(0:Int)≤1;decide)]
   exact ow.congr (fun q=>⟨fun g=>g.resolve_left id,.inr⟩) (fun q h=>⟨fun g=>g.resolve_left id,.inr⟩) (fun q i=>⟨fun g=>g.resolve_left id,.inr⟩),⟨fun _ g=>(by cases g),fun _ g=>(by rcases g with g | g<;>cases g),fun _ g=>(by cases g),fun _ g=>(by cases g)⟩,cl,rg,by
   rw[ho_01 (by show(0:Int)≤1;decide)];exact Dj.nil x⟩
end
end Gv
end Go.Ma
