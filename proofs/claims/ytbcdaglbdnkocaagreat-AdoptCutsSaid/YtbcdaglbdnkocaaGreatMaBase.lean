/-
 A heap that is sound, its blocks; a word that is written touches one page, slot, entry or status alone. Conditions: none.
-/
import Derived.Test.YtbcdaglbdnkocaaGreatMaGive
import Derived.Test.YtbcdaglbdnkocaaGreatMaPS
set_option linter.unusedVariables false
set_option linter.unusedSimpArgs false
namespace Go.Ma
open Go.Pl
def pgAt (s:Sh) (ws:Nat→Int) (q:Int):Int:=ws (page s.p s.c s.m q).toNat
def slAt (s:Sh) (ws:Nat→Int) (q i:Int):Int:=ws (s.c+s.p+q*16+i).toNat
def mgAt (s:Sh) (ws:Nat→Int) (c i:Int):Int:=ws (s.c+s.p+s.p*16+c*s.m+i).toNat
def slB (c A i y:Int):Bool:=cond (decide (i<slots A)) ((((slK y == 1) || (slK y == 3)) && (slA y == A)) || ((slK y == 2) && decide (slA y<c))) (!(y != 0))
structure SpB (s:Sh) (ws:Nat→Int) (p K A:Int):Prop where
 sup:(K == 2)=true→∀ i:Nat,i<16→slB s.c A i (slAt s ws p i)=true
 emp:(K == 2)=false→(K == 1)=false→∀ i:Nat,i<16→slAt s ws p i=0
 bod:(K == 2)=false→(K == 1)=false→(K == 4)=true→((pgK s A (pgAt s ws A) == 1) || ((pgK s A (pgAt s ws A) == 3) && decide (p<A+pgA s A (pgAt s ws A))))=true
 lar:(K == 2)=false→(K == 1)=false→(K == 4)=false→(K == 3)=true→∀ i:Int,1≤i→i<A→pgK s (p+i) (pgAt s ws (p+i))=4∧pgA s (p+i) (pgAt s ws (p+i))=p
structure EnB (s:Sh) (ws:Nat→Int) (c x:Int):Prop where
 ok:okEn s x=true
 k:pgK s (enP s x) (pgAt s ws (enP s x))=2
 a:pgA s (enP s x) (pgAt s ws (enP s x))=enK s x
 w:slAt s ws (enP s x) (enS s x)=putSl 2 c
def ahead (c' i' c i:Nat):Prop:=c'<c∨(c'=c∧i'<i)
structure Snd (s:Sh) (ws:Nat→Int):Prop where
 pg:∀ p:Nat,(p:Int)<s.p→okPg s p (pgAt s ws p)=true∧SpB s ws p (pgK s p (pgAt s ws p)) (pgA s p (pgAt s ws p))
 en:∀ c i:Nat,(c:Int)<s.c→(i:Int)<s.m→mgAt s ws c i≠0→EnB s ws c (mgAt s ws c i)
 dj:∀ c i c' i':Nat,(c:Int)<s.c→(i:Int)<s.m→(i':Int)<s.m→ahead c' i' c i→mgAt s ws c i≠0→mgAt s ws c' i'≠0→¬ (enP s (mgAt s ws c' i')=enP s (mgAt s ws c i)∧enS s (mgAt s ws c' i')=enS s (mgAt s ws c i))
section
variable {s:Sh} {ws:Nat→Int} {p K A:Int}
theorem SpB.one (k2:(K == 2)=false) (k1:(K == 1)=true):SpB s ws p K A:=
 ⟨fun h=>(by rw[k2]at h;cases h),fun _ h=>(by rw[k1]at h;cases h),fun _ h=>(by rw[k1]at h;cases h),fun _ h=>(by rw[k1]at h;cases h)⟩
theorem SpB.two (k2:(K == 2)=true) (h:∀ i:Nat,i<16→slB s.c A i (slAt s ws p i)=true):SpB s ws p K A:=
 ⟨fun _=>h,fun h=>(by rw[k2]at h;cases h),fun h=>(by rw[k2]at h;cases h),fun h=>(by rw[k2]at h;cases h)⟩
theorem SpB.oth (k2:(K == 2)=false) (he:∀ i:Nat,i<16→slAt s ws p i=0) (k4:(K == 4)=false) (k3:(K == 3)=false):SpB s ws p K A:=
 ⟨fun h=>(by rw[k2]at h;cases h),fun _ _=>he,fun _ _ h=>(by rw[k4]at h;cases h),fun _ _ _ h=>(by rw[k3]at h;cases h)⟩
theorem SpB.large (k2:(K == 2)=false) (he:∀ i:Nat,i<16→slAt s ws p i=0) (k4:(K == 4)=false) (hl:∀ i:Int,1≤i→i<A→pgK s (p+i) (pgAt s ws (p+i))=4∧pgA s (p+i) (pgAt s ws (p+i))=p):SpB s ws p K A:=
 ⟨fun h=>(by rw[k2]at h;cases h),fun _ _=>he,fun _ _ h=>(by rw[k4]at h;cases h),fun _ _ _ _=>hl⟩
theorem SpB.four (k2:(K == 2)=false) (he:∀ i:Nat,i<16→slAt s ws p i=0) (k4:(K == 4)=true) (hb:((pgK s A (pgAt s ws A) == 1) || ((pgK s A (pgAt s ws A) == 3) && decide (p<A+pgA s A (pgAt s ws A))))=true):SpB s ws p K A:=
 ⟨fun h=>(by rw[k2]at h;cases h),fun _ _=>he,fun _ _ _=>hb,fun _ _ h=>(by rw[k4]at h;cases h)⟩
end
end Go.Ma
namespace Go.Ma
open Go.Pl
def enE (s:Sh) (x:Int):Int×Int:=(enP s x,enS s x)
structure Seen (s:Sh) (ws:Nat→Int) (c i k:Nat) (E:Nat→Int×Int):Prop where
 o:∀ j,j<k→∃ c' i':Nat,(c':Int)<s.c∧(i':Int)<s.m∧ahead c' i' c i∧mgAt s ws c' i'≠0∧E j=enE s (mgAt s ws c' i')
 t:∀ c' i':Nat,(i':Int)<s.m→ahead c' i' c i→mgAt s ws c' i'≠0→∃ j,j<k∧E j=enE s (mgAt s ws c' i')
 en:∀ c' i':Nat,(i':Int)<s.m→ahead c' i' c i→mgAt s ws c' i'≠0→EnB s ws c' (mgAt s ws c' i')
 dj:∀ c1 i1 c2 i2:Nat,(i1:Int)<s.m→(i2:Int)<s.m→ahead c1 i1 c i→ahead c2 i2 c1 i1→mgAt s ws c1 i1≠0→mgAt s ws c2 i2≠0→enE s (mgAt s ws c2 i2)≠enE s (mgAt s ws c1 i1)
variable {s:Sh} {ws:Nat→Int} {c i k:Nat} {E:Nat→Int×Int}
theorem Seen.zero:Seen s ws 0 0 0 E:=
 ⟨fun j h=>by omega,fun c' i' _ h=>by unfold ahead at h;omega,fun c' i' _ h=>by unfold ahead at h;omega,fun c1 i1 c2 i2 _ _ h=>by unfold ahead at h;omega⟩
theorem ahead_next {c' i':Nat} (h:ahead c' i' c (i+1)):ahead c' i' c i∨(c'=c∧i'=i):=by unfold ahead at *;omega
theorem Seen.skip (h:Seen s ws c i k E) (hz:mgAt s ws c i=0):Seen s ws c (i+1) k E:=by
 refine⟨fun j hj=>?_,fun c' i' hi ha hx=>?_,fun c' i' hi ha hx=>?_,fun c1 i1 c2 i2 h1 h2 ha hb hx hy=>?_⟩
 ·obtain⟨c',i',q1,q2,q3,q4⟩:=h.o j hj
  exact⟨c',i',q1,q2,by unfold ahead at *;omega,q4⟩
 ·rcases ahead_next ha with ha |⟨rfl,rfl⟩
  ·exact h.t c' i' hi ha hx
  ·exact absurd hz hx
 ·rcases ahead_next ha with ha |⟨rfl,rfl⟩
  ·exact h.en c' i' hi ha hx
  ·exact absurd hz hx
 ·rcases ahead_next ha with ha |⟨rfl,rfl⟩
  ·exact h.dj c1 i1 c2 i2 h1 h2 ha hb hx hy
  ·exact absurd hz hx
theorem Seen.add (h:Seen s ws c i k E) (hc:(c:Int)<s.c) (hi:(i:Int)<s.m) (hx:mgAt s ws c i≠0) (hE:EnB s ws c (mgAt s ws c i)) (hd:∀ j,j<k→E j≠enE s (mgAt s ws c i)) :
  Seen s ws c (i+1) (k+1) (fun j=>if j=k then enE s (mgAt s ws c i) else E j):=by
 refine⟨fun j hj=>?_,fun c' i' hi' ha hx'=>?_,fun c' i' hi' ha hx'=>?_,fun c1 i1 c2 i2 h1 h2 ha hb hx1 hx2=>?_⟩
 ·by_cases e:j=k
  ·exact⟨c,i,hc,hi,by unfold ahead;omega,hx,if_pos e⟩
  ·obtain⟨c',i',q1,q2,q3,q4,q5⟩:=h.o j (by omega)
   exact⟨c',i',q1,q2,by unfold ahead at *;omega,q4,(if_neg e).trans q5⟩
 ·rcases ahead_next ha with ha |⟨rfl,rfl⟩
  ·obtain⟨j,hj,e⟩:=h.t c' i' hi' ha hx'
   exact⟨j,by omega,(if_neg (by omega)).trans e⟩
  ·exact⟨k,by omega,if_pos rfl⟩
 ·rcases ahead_next ha with ha |⟨rfl,rfl⟩
  ·exact h.en c' i' hi' ha hx'
  ·exact hE
 ·rcases ahead_next ha with ha |⟨rfl,rfl⟩
  ·exact h.dj c1 i1 c2 i2 h1 h2 ha hb hx1 hx2
  ·obtain⟨j,hj,e⟩:=h.t c2 i2 h2 hb hx2
   rw[← e];exact hd j hj
theorem Seen.row (h:Seen s ws c i k E) (hi:¬ (i:Int)<s.m):Seen s ws (c+1) 0 k E:=by
 have A:∀ c' i':Nat,(i':Int)<s.m→ahead c' i' (c+1) 0→ahead c' i' c i:=fun c' i' h1 h2=>by unfold ahead at *;omega
 refine⟨fun j hj=>?_,fun c' i' hi' ha hx'=>h.t c' i' hi' (A _ _ hi' ha) hx',fun c' i' hi' ha hx'=>h.en c' i' hi' (A _ _ hi' ha) hx',fun c1 i1 c2 i2 h1 h2 ha hb=>h.dj c1 i1 c2 i2 h1 h2 (A _ _ h1 ha) hb⟩
 obtain⟨c',i',q1,q2,q3,q4⟩:=h.o j hj
 exact⟨c',i',q1,q2,by unfold ahead at *;omega,q4⟩
theorem Seen.snd (h:Seen s ws c i k E) (hc:¬ (c:Int)<s.c) (hp:∀ p:Nat,(p:Int)<s.p→okPg s p (pgAt s ws p)=true∧SpB s ws p (pgK s p (pgAt s ws p)) (pgA s p (pgAt s ws p))):Snd s ws:=by
 refine⟨hp,fun c' i' h1 h2 hx=>h.en c' i' h2 (by unfold ahead;omega) hx,fun c1 i1 c2 i2 h1 h2 h3 ha hx hy=>?_⟩
 have:=h.dj c1 i1 c2 i2 h2 h3 (by unfold ahead;omega) ha hx hy
 intro ⟨e1,e2⟩
 exact this (by unfold enE;rw[e1,e2])
theorem Snd.once (h:Snd s ws) (hs:Seen s ws c i k E) (hc:(c:Int)<s.c) (hi:(i:Int)<s.m) (hx:mgAt s ws c i≠0) {j:Nat} (hj:j<k):E j≠enE s (mgAt s ws c i):=by
 obtain⟨c',i',q1,q2,q3,q4,q5⟩:=hs.o j hj
 rw[q5]
 intro e
 have e1:enP s (mgAt s ws c' i')=enP s (mgAt s ws c i):=congrArg Prod.fst e
 have e2:enS s (mgAt s ws c' i')=enS s (mgAt s ws c i):=congrArg Prod.snd e
 exact h.dj c i c' i' hc hi q2 q3 hx q4 ⟨e1,e2⟩
end Go.Ma
set_option linter.unusedSectionVars false
namespace Go.Ma
open Go.Pl
section
variable (s:Sh) (ws:Nat→Int)
def blkSl (p A:Int):Nat→List (Int×Int)
 | 0=>[]
 | n+1=>blkSl p A n ++ (if slK (slAt s ws p n)=3 then [(p*64+n*size A,size A)] else [])
def blkPg (p:Int):List (Int×Int):=
 if pgK s p (pgAt s ws p)=3 then [(p*64,pgA s p (pgAt s ws p)*64)] else if pgK s p (pgAt s ws p)=2 then blkSl s ws p (pgA s p (pgAt s ws p)) (slots (pgA s p (pgAt s ws p))).toNat else []
def blks:Nat→List (Int×Int)
 | 0=>[]
 | n+1=>blks n ++ blkPg s ws n
end
section
variable {s:Sh} {ws ws':Nat→Int}
theorem blkSl_congr {p A:Int}:∀ {n:Nat},(∀ i:Nat,i<n→(slK (slAt s ws' p i)=3↔slK (slAt s ws p i)=3))→blkSl s ws' p A n=blkSl s ws p A n
 | 0,_=>rfl
 |n+1,h=>by
  unfold blkSl
  rw[blkSl_congr fun i hi=>h i (by omega)]
  by_cases e:slK (slAt s ws p n)=3
  ·rw[if_pos e,if_pos ((h n (by omega)).2 e)]
  ·rw[if_neg e,if_neg fun e2=>e ((h n (by omega)).1 e2)]
theorem blkPg_congr {p:Int} (h1:pgK s p (pgAt s ws' p)=pgK s p (pgAt s ws p)) (h2:pgK s p (pgAt s ws p)=2∨pgK s p (pgAt s ws p)=3→pgA s p (pgAt s ws' p)=pgA s p (pgAt s ws p))
  (h3:pgK s p (pgAt s ws p)=2→∀ i:Nat,i<16→(slK (slAt s ws' p i)=3↔slK (slAt s ws p i)=3)):blkPg s ws' p=blkPg s ws p:=by
 unfold blkPg
 rw[h1]
 by_cases e3:pgK s p (pgAt s ws p)=3
 ·rw[if_pos e3,if_pos e3,h2 (.inr e3)]
 ·rw[if_neg e3,if_neg e3]
  by_cases e2:pgK s p (pgAt s ws p)=2
  ·rw[if_pos e2,if_pos e2,h2 (.inl e2)]
   have:=slots_bd (pgA s p (pgAt s ws p))
   exact blkSl_congr fun i hi=>h3 e2 i (by omega)
  ·rw[if_neg e2,if_neg e2]
theorem blkPg_none {p:Int} (h:pgK s p (pgAt s ws p)≠2) (h':pgK s p (pgAt s ws p)≠3):blkPg s ws p = []:=by
 unfold blkPg;rw[if_neg h',if_neg h]
theorem blks_congr:∀ {n:Nat},(∀ p:Nat,p<n→blkPg s ws' p=blkPg s ws p)→blks s ws' n=blks s ws n
 | 0,_=>rfl
 |n+1,h=>by
  unfold blks
  rw[blks_congr fun i hi=>h i (by omega),h n (by omega)]
end
end Go.Ma
namespace Go.Ma
open Go.Pl

def upW (ws:Nat→Int) (a y:Int):Nat→Int:=fun j=>if j=a.toNat then y else ws j
theorem store_ws (w:Wd) (c a y:Int):(w.store c a y).ws=upW w.ws a y:=rfl
theorem swap_ws (w:Wd) (c a x y:Int):(w.swap c a x y).ws=upW w.ws a (if w.get a=x then y else w.get a):=by
 funext j
 show(if j=a.toNat then(if w.get a == x then y else w.get a) else w.ws j)=_
 unfold upW
 by_cases e:w.get a=x
 ·simp [e]
 ·simp [e]
theorem swap_yes {w:Wd} {c a x y:Int} (h:w.get a=x):(w.swap c a x y).ws=upW w.ws a y:=by rw[swap_ws,if_pos h]
theorem swap_no {w:Wd} {c a x y:Int} (h:w.get a≠x):(w.swap c a x y).ws=w.ws:=by
 rw[swap_ws,if_neg h]
 funext j
 unfold upW
 split
 ·rename_i e;subst e;rfl
 ·rfl

theorem mg_inj {c1 i1 c2 i2 m:Int} (h1:0≤i1) (h2:i1<m) (h3:0≤i2) (h4:i2<m) (e:c1*m+i1=c2*m+i2):c1=c2∧i1=i2:=by
 rcases Int.lt_trichotomy c1 c2 with h | h | h
 ·have:=Int.mul_le_mul_of_nonneg_right (by omega:c1+1≤c2) (by omega:0≤m)
  rw[Int.add_mul]at this;omega
 ·subst h;exact⟨rfl,by omega⟩
 ·have:=Int.mul_le_mul_of_nonneg_right (by omega:c2+1≤c1) (by omega:0≤m)
  rw[Int.add_mul]at this;omega

section
variable {s:Sh} {ws:Nat→Int} {q q' i i' c c' y:Int} (hm:may s.p s.c s.m=true)
include hm
theorem pg_pg (h0:0≤q) (h1:q<s.p) (h2:0≤q') (h3:q'<s.p):pgAt s (upW ws (page s.p s.c s.m q) y) q'=if q'=q then y else pgAt s ws q':=by
 have hb:=(may_iff _ _ _).1 hm
 unfold pgAt upW
 rw[page_yes hm h0 h1,page_yes hm h2 h3]
 by_cases e:q'=q
 ·subst e;rw[if_pos rfl,if_pos rfl]
 ·rw[if_neg e,if_neg (by omega)]
theorem sl_pg (h0:0≤q) (h1:q<s.p) (h2:0≤q') (h3:0≤i'):slAt s (upW ws (page s.p s.c s.m q) y) q' i'=slAt s ws q' i':=by
 have hb:=(may_iff _ _ _).1 hm
 unfold slAt upW
 rw[page_yes hm h0 h1,if_neg (by omega)]
theorem mg_pg (h0:0≤q) (h1:q<s.p) (h2:0≤c') (h3:0≤i'):mgAt s (upW ws (page s.p s.c s.m q) y) c' i'=mgAt s ws c' i':=by
 have hb:=(may_iff _ _ _).1 hm
 have:=Int.mul_nonneg h2 (by omega:0≤s.m)
 unfold mgAt upW
 rw[page_yes hm h0 h1,if_neg (by omega)]
theorem pg_sl (h0:0≤q) (h1:q<s.p) (h2:0≤i) (h3:i<16) (h4:0≤q') (h5:q'<s.p):pgAt s (upW ws (slot s.p s.c s.m q i) y) q'=pgAt s ws q':=by
 have hb:=(may_iff _ _ _).1 hm
 unfold pgAt upW
 rw[slot_yes hm h0 h1 h2 h3,page_yes hm h4 h5,if_neg (by omega)]
theorem sl_sl (h0:0≤q) (h1:q<s.p) (h2:0≤i) (h3:i<16) (h4:0≤q') (h5:0≤i') (h6:i'<16):slAt s (upW ws (slot s.p s.c s.m q i) y) q' i'=if q'=q∧i'=i then y else slAt s ws q' i':=by
 have hb:=(may_iff _ _ _).1 hm
 unfold slAt upW
 rw[slot_yes hm h0 h1 h2 h3]
 by_cases e:q'=q∧i'=i
 ·obtain⟨rfl,rfl⟩:=e;rw[if_pos rfl,if_pos ⟨rfl,rfl⟩]
 ·rw[if_neg e,if_neg (by omega)]
theorem mg_sl (h0:0≤q) (h1:q<s.p) (h2:0≤i) (h3:i<16) (h4:0≤c') (h5:0≤i'):mgAt s (upW ws (slot s.p s.c s.m q i) y) c' i'=mgAt s ws c' i':=by
 have hb:=(may_iff _ _ _).1 hm
 have:=Int.mul_nonneg h4 (by omega:0≤s.m)
 unfold mgAt upW
 rw[slot_yes hm h0 h1 h2 h3,if_neg (by omega)]
theorem pg_mg (h0:0≤c) (h1:c<s.c) (h2:0≤i) (h3:i<s.m) (h4:0≤q') (h5:q'<s.p):pgAt s (upW ws (mag s.p s.c s.m c i) y) q'=pgAt s ws q':=by
 have hb:=(may_iff _ _ _).1 hm
 have:=Int.mul_nonneg h0 (by omega:0≤s.m)
 unfold pgAt upW
 rw[mag_yes hm h0 h1 h2 h3,page_yes hm h4 h5,if_neg (by omega)]
theorem sl_mg (h0:0≤c) (h1:c<s.c) (h2:0≤i) (h3:i<s.m) (h4:0≤q') (h5:q'<s.p) (h6:0≤i') (h7:i'<16):slAt s (upW ws (mag s.p s.c s.m c i) y) q' i'=slAt s ws q' i':=by
 have hb:=(may_iff _ _ _).1 hm
 have:=Int.mul_nonneg h0 (by omega:0≤s.m)
 unfold slAt upW
 rw[mag_yes hm h0 h1 h2 h3,if_neg (by omega)]
theorem mg_mg (h0:0≤c) (h1:c<s.c) (h2:0≤i) (h3:i<s.m) (h4:0≤c') (h6:0≤i') (h7:i'<s.m):mgAt s (upW ws (mag s.p s.c s.m c i) y) c' i'=if c'=c∧i'=i then y else mgAt s ws c' i':=by
 have hb:=(may_iff _ _ _).1 hm
 have g1:=Int.mul_nonneg h0 (by omega:0≤s.m)
 have g2:=Int.mul_nonneg h4 (by omega:0≤s.m)
 unfold mgAt upW
 rw[mag_yes hm h0 h1 h2 h3]
 by_cases e:c'=c∧i'=i
 ·obtain⟨rfl,rfl⟩:=e;rw[if_pos rfl,if_pos ⟨rfl,rfl⟩]
 ·rw[if_neg e,if_neg]
  intro e2
  exact e (mg_inj h6 h7 h2 h3 (by omega))
theorem pg_st (h0:0≤c) (h1:c<s.c) (h4:0≤q') (h5:q'<s.p):pgAt s (upW ws (status s.p s.c s.m c) y) q'=pgAt s ws q':=by
 have hb:=(may_iff _ _ _).1 hm
 unfold pgAt upW
 rw[status_yes hm h0 h1,page_yes hm h4 h5,if_neg (by omega)]
theorem sl_st (h0:0≤c) (h1:c<s.c) (h4:0≤q') (h6:0≤i'):slAt s (upW ws (status s.p s.c s.m c) y) q' i'=slAt s ws q' i':=by
 have hb:=(may_iff _ _ _).1 hm
 unfold slAt upW
 rw[status_yes hm h0 h1,if_neg (by omega)]
theorem mg_st (h0:0≤c) (h1:c<s.c) (h4:0≤c') (h6:0≤i'):mgAt s (upW ws (status s.p s.c s.m c) y) c' i'=mgAt s ws c' i':=by
 have hb:=(may_iff _ _ _).1 hm
 have g2:=Int.mul_nonneg h4 (by omega:0≤s.m)
 unfold mgAt upW
 rw[status_yes hm h0 h1,if_neg (by omega)]
omit hm in
theorem slot_at (hm:may s.p s.c s.m=true) {w:Wd} (h0:0≤q) (h1:q<s.p) (h2:0≤i) (h3:i<16):w.get (slot s.p s.c s.m q i)=slAt s w.ws q i:=by
 unfold Wd.get slAt;rw[slot_yes hm h0 h1 h2 h3]
omit hm in
theorem mag_at (hm:may s.p s.c s.m=true) {w:Wd} (h0:0≤c) (h1:c<s.c) (h2:0≤i) (h3:i<s.m):w.get (mag s.p s.c s.m c i)=mgAt s w.ws c i:=by
 unfold Wd.get mgAt;rw[mag_yes hm h0 h1 h2 h3]
end
/-! ### What words say, once more -/
theorem pgK_no {s:Sh} {q x:Int} (h:okPg s q x=false):pgK s q x=0:=by unfold pgK;rw[h];rfl
theorem pgK_zero (s:Sh) (q:Int):pgK s q 0=0:=by
 unfold pgK
 split
 ·decide
 ·rfl
theorem okPg_zero {s:Sh} {q:Int} (hm:may s.p s.c s.m=true) (h0:0≤q) (h1:q<s.p):okPg s q 0=true:=by
 have hb:=(may_iff _ _ _).1 hm
 have h2:0≤page s.p s.c s.m q:=by rw[page_yes hm h0 h1];omega
 have e:fits s q (0 % 16) (pt 0 16) (pt 0 4096)=true:=by unfold fits;simp
 have e2:decide (putPg (0 % 16) (pt 0 16) (pt 0 4096)=0)=true:=by decide
 unfold okPg
 rw[decide_eq_true h2,e,e2]
 rfl
theorem pgK_ne {s:Sh} {q x:Int} (h:pgK s q x≠0):okPg s q x=true:=by
 cases e:okPg s q x
 ·exact absurd (pgK_no e) h
 ·rfl
theorem way_ne (c:Int) (h0:0≤c) (h1:c≤255):way c≠0∧slK (way c)=2∧slA (way c)=c:=by
 have e:way c=2+16*c:=by unfold way putSl;rw[if_pos (by omega)];try omega
 have hp:pt (2+16*c) 16=c:=by unfold pt;omega
 have hk:(2+16*c) % 16=2:=by omega
 have ho:okSl (2+16*c)=true:=by unfold okSl;rw[hk,hp];exact decide_eq_true e
 rw[e]
 refine⟨by omega,?_,?_⟩
 ·unfold slK;rw[if_pos ho,hk]
 ·unfold slA;rw[if_pos ho,hp]
theorem way_inj {c d:Int} (h0:0≤c) (h1:c≤255) (h2:0≤d) (h3:d≤255) (h:way c=way d):c=d:=by
 have:=congrArg slA h
 rw[(way_ne c h0 h1).2.2,(way_ne d h2 h3).2.2]at this
 exact this
theorem opn_ne (k:Int) (h0:0≤k) (h1:k≤255):opn k≠0∧slK (opn k)=1∧slA (opn k)=k:=by
 have e:opn k=1+16*k:=by unfold opn putSl;rw[if_pos (by omega)];try omega
 have hp:pt (1+16*k) 16=k:=by unfold pt;omega
 have hk:(1+16*k) % 16=1:=by omega
 have ho:okSl (1+16*k)=true:=by unfold okSl;rw[hk,hp];exact decide_eq_true e
 rw[e]
 refine⟨by omega,?_,?_⟩
 ·unfold slK;rw[if_pos ho,hk]
 ·unfold slA;rw[if_pos ho,hp]
theorem taken_ne (k:Int) (h0:0≤k) (h1:k≤255):taken k≠0∧slK (taken k)=3∧slA (taken k)=k:=by
 have e:taken k=3+16*k:=by unfold taken putSl;rw[if_pos (by omega)];try omega
 have hp:pt (3+16*k) 16=k:=by unfold pt;omega
 have hk:(3+16*k) % 16=3:=by omega
 have ho:okSl (3+16*k)=true:=by unfold okSl;rw[hk,hp];exact decide_eq_true e
 rw[e]
 refine⟨by omega,?_,?_⟩
 ·unfold slK;rw[if_pos ho,hk]
 ·unfold slA;rw[if_pos ho,hp]
theorem is_way {x:Int} (hk:slK x=2):x=way (slA x):=by
 have ho:okSl x=true:=by
  cases e:okSl x
  ·unfold slK at hk;rw[e]at hk;cases hk
  ·rfl
 have h1:x % 16=2:=by unfold slK at hk;rw[if_pos ho]at hk;exact hk
 unfold slA way
 rw[if_pos ho]
 unfold okSl at ho
 rw[h1]at ho
 exact(of_decide_eq_true ho).symm
end Go.Ma

namespace Go.Ma
open Go.Pl
theorem Ad.ok_body {s:Sh} {q x:Int} (h:okPg s q x=true) (hk:pgK s q x=4):0≤pgA s q x∧pgA s q x<q∧q - 8<pgA s q x:=by
 have hk':x % 16=4:=by unfold pgK at hk;rw[if_pos h]at hk;exact hk
 have ha:pgA s q x=pt x 16:=by unfold pgA;rw[if_pos h]
 unfold okPg at h
 simp only[Bool.and_eq_true,decide_eq_true_eq]at h
 obtain⟨h1,h2,h3⟩:=h
 rw[hk']at h3
 unfold fits at h3
 simp at h3
 rw[ha]
 have b1:0≤pt x 16:=by unfold pt;omega
 omega
theorem held_ok {s:Sh} {q c:Int} (hm:may s.p s.c s.m=true) (h0:0≤q) (h1:q<s.p) (c0:0≤c) (c1:c<s.c):okPg s q (held c)=true∧pgK s q (held c)=1∧pgA s q (held c)=c:=by
 have hb:=(may_iff _ _ _).1 hm
 have hv:held c=1+16*c:=by unfold held putPg;rw[if_pos (by omega)];omega
 have e1:(1+16*c) % 16=1:=by omega
 have e2:pt (1+16*c) 16=c:=by unfold pt;omega
 have e3:pt (1+16*c) 4096=0:=by unfold pt;omega
 have hp:0≤page s.p s.c s.m q:=by rw[page_yes hm h0 h1];omega
 have ok:okPg s q (held c)=true:=by
  rw[hv]
  unfold okPg
  rw[e1,e2,e3]
  have g1:decide (putPg 1 c 0=1+16*c)=true:=decide_eq_true hv
  have g3:fits s q 1 c 0=true:=by unfold fits;simp;omega
  rw[g1,g3,decide_eq_true hp];rfl
 refine⟨ok,?_,?_⟩
 ·unfold pgK;rw[if_pos ok,hv,e1]
 ·unfold pgA;rw[if_pos ok,hv,e2]
theorem slots_four {k:Int} (h0:0≤k) (h1:k≤3):2≤slots k∧slots k≤16∧slots k*size k=64∧4≤size k∧size k≤32:=by
 rcases (by omega:k=0∨k=1∨k=2∨k=3) with h | h | h | h<;>rw[h]<;>decide
theorem en_put {s:Sh} {p i k:Int} (hm:may s.p s.c s.m=true) (h0:0≤p) (h1:p<s.p) (i0:0≤i) (i1:i<slots k) (k0:0≤k) (k1:k≤3):okEn s (putEn p i k)=true∧enP s (putEn p i k)=p∧enS s (putEn p i k)=i∧enK s (putEn p i k)=k∧putEn p i k≠0:=by
 have hb:=(may_iff _ _ _).1 hm
 have hs:=slots_four k0 k1
 have hv:putEn p i k=1+16*p+4096*i+1048576*k:=by unfold putEn;rw[if_pos (by omega)]
 have e1:pt (putEn p i k) 16=p:=by rw[hv];unfold pt;omega
 have e2:pt (putEn p i k) 4096=i:=by rw[hv];unfold pt;omega
 have e3:pt (putEn p i k) 1048576=k:=by rw[hv];unfold pt;omega
 have hp:0≤page s.p s.c s.m p:=by rw[page_yes hm h0 h1];omega
 have ok:okEn s (putEn p i k)=true:=by
  unfold okEn;rw[e1,e2,e3,decide_eq_true rfl,decide_eq_true hp,decide_eq_true i1];rfl
 refine⟨ok,?_,?_,?_,by rw[hv];omega⟩
 ·unfold enP;rw[if_pos ok,e1]
 ·unfold enS;rw[if_pos ok,e2]
 ·unfold enK;rw[if_pos ok,e3]
section
variable {s:Sh} {ws0 ws:Nat→Int} {d q i n y:Int}
theorem Snd.congr (hm:may s.p s.c s.m=true) (h:Snd s ws0) (hp:∀ q,0≤q→q<s.p→pgAt s ws q=pgAt s ws0 q) (hs:∀ q i,0≤q→q<s.p→0≤i→i<16→slAt s ws q i=slAt s ws0 q i)
  (hg:∀ c i,0≤c→c<s.c→0≤i→i<s.m→mgAt s ws c i=mgAt s ws0 c i):Snd s ws:=by
 refine⟨fun p h1=>?_,fun c i h1 h2 hx=>?_,fun c i c' i' h1 h2 h3 ha hx hy=>?_⟩
 ·obtain⟨e1,e2⟩:=h.pg p h1
  rw[hp p (by omega) h1]
  refine⟨e1,⟨fun k i hi=>?_,fun k k' i hi=>?_,fun k k' k4=>?_,fun k k' k4 k3 i i1 i2=>?_⟩⟩
  ·rw[hs p i (by omega) h1 (by omega) (by omega)];exact e2.sup k i hi
  ·rw[hs p i (by omega) h1 (by omega) (by omega)];exact e2.emp k k' i hi
  ·have hb:=Ad.ok_body e1 (beq_iff_eq.1 k4)
   rw[hp _ hb.1 (by omega)];exact e2.bod k k' k4
  ·have he:=e2.lar k k' k4 k3 i i1 i2
   have hpi:(p:Int)+i<s.p:=by
    have hk:=beq_iff_eq.1 k3
    have hf:okPg s p (pgAt s ws0 p)=true:=e1
    have hk':pgAt s ws0 p % 16=3:=by unfold pgK at hk;rw[if_pos hf]at hk;exact hk
    have hA:pgA s p (pgAt s ws0 p)=pt (pgAt s ws0 p) 16:=by unfold pgA;rw[if_pos hf]
    unfold okPg at hf
    simp only[Bool.and_eq_true,decide_eq_true_eq]at hf
    obtain⟨-,-,hf⟩:=hf
    rw[hk']at hf
    unfold fits at hf
    simp at hf
    omega
   rw[hp _ (by omega) hpi];exact he
 ·rw[hg c i (by omega) h1 (by omega) h2]at hx ⊢
  obtain⟨e1,e2,e3,e4⟩:=h.en c i h1 h2 hx
  have hE:0≤enP s (mgAt s ws0 c i)∧enP s (mgAt s ws0 c i)<s.p∧0≤enS s (mgAt s ws0 c i)∧enS s (mgAt s ws0 c i)<16:=by
   have ho:=e1
   unfold okEn at ho
   simp only[Bool.and_eq_true,decide_eq_true_eq]at ho
   have h5:=page_of (s:=s) (p:=pt (mgAt s ws0 c i) 16) (decide_eq_true ho.2.1)
   have sb:=slots_bd (pt (mgAt s ws0 c i) 1048576)
   have:0≤pt (mgAt s ws0 c i) 4096:=by unfold pt;omega
   unfold enP enS;rw[if_pos e1,if_pos e1];omega
  refine⟨e1,?_,?_,?_⟩
  ·rw[hp _ hE.1 hE.2.1];exact e2
  ·rw[hp _ hE.1 hE.2.1];exact e3
  ·rw[hs _ _ hE.1 hE.2.1 hE.2.2.1 hE.2.2.2];exact e4
 ·have hc':(c':Int)<s.c:=by unfold ahead at ha;omega
  rw[hg c i (by omega) h1 (by omega) h2]at hx ⊢
  rw[hg c' i' (by omega) hc' (by omega) h3]at hy ⊢
  exact h.dj c i c' i' h1 h2 h3 ha hx hy
theorem Snd.sta (hm:may s.p s.c s.m=true) (h:Snd s ws0) {c:Int} (h0:0≤c) (h1:c<s.c):Snd s (upW ws0 (status s.p s.c s.m c) y):=
 h.congr hm (fun q q0 q1=>pg_st hm h0 h1 q0 q1) (fun q i q0 q1 i0 i1=>sl_st hm h0 h1 q0 i0) (fun c i c0 c1 i0 i1=>mg_st hm h0 h1 c0 i0)
theorem en_bd (e1:okEn s y=true):0≤enP s y∧enP s y<s.p∧0≤enS s y∧enS s y<16:=by
 have ho:=e1
 unfold okEn at ho
 simp only[Bool.and_eq_true,decide_eq_true_eq]at ho
 have h5:=page_of (s:=s) (p:=pt y 16) (decide_eq_true ho.2.1)
 have sb:=slots_bd (pt y 1048576)
 have:0≤pt y 4096:=by unfold pt;omega
 unfold enP enS;rw[if_pos e1,if_pos e1];omega
theorem large_bd (e1:okPg s q y=true) (hk:pgK s q y=3):1≤pgA s q y∧pgA s q y≤8∧q+pgA s q y≤s.p:=by
 have hk':y % 16=3:=by unfold pgK at hk;rw[if_pos e1]at hk;exact hk
 have hA:pgA s q y=pt y 16:=by unfold pgA;rw[if_pos e1]
 have hf:=e1
 unfold okPg at hf
 simp only[Bool.and_eq_true,decide_eq_true_eq]at hf
 obtain⟨-,-,hf⟩:=hf
 rw[hk']at hf
 unfold fits at hf
 simp at hf
 omega
end
section
variable {s:Sh} {ws ws':Nat→Int}
theorem blkSl_mem {p A:Int} {y:Int×Int}:∀ {n:Nat},y∈blkSl s ws p A n↔∃ i:Nat,i<n∧slK (slAt s ws p i)=3∧y=(p*64+i*size A,size A)
 | 0=>by simp [blkSl]
 |n+1=>by
  unfold blkSl
  rw[List.mem_append,blkSl_mem (n:=n)]
  constructor
  ·rintro(⟨i,h1,h2⟩| h)
   ·exact⟨i,by omega,h2⟩
   ·split at h
    ·rename_i h3
     exact⟨n,by omega,h3,by simpa using h⟩
    ·cases h
  ·rintro⟨i,h1,h2,h3⟩
   by_cases e:i=n
   ·subst e;right;rw[if_pos h2,h3];simp
   ·exact .inl ⟨i,by omega,h2,h3⟩
end
end Go.Ma
