/-
The program's count of a heap's words. Conditions: none.
-/
import Derived.Test.YtkjpgikjcfhckaaGreatCodeX
import Derived.Test.YtkjpgikjcfhckaaGreatPack
import Derived.Test.YtkjpgikjcfhckaaGreatStat
import Derived.Test.YtkjpgikjcfhckaaGreatMaW
import Derived.Test.YtkjpgikjcfhckaaGreatLawK
import Derived.Test.YtkjpgikjcfhckaaGreatFaX
import Derived.Test.YtkjpgikjcfhckaaGreatRowA
import Derived.Test.YtkjpgikjcfhckaaGreatAlt
import Derived.Test.YtkjpgikjcfhckaaGreatMaT
import Derived.Test.YtkjpgikjcfhckaaGreatModel
open Nat renaming reduceAdd→xA,reduceMul→xB,reduceSub→xC,reduceEqDiff→xD,reduceBEq→xE,reduceLeDiff→xF,reduceLT→xG
open Int renaming reduceAdd→xH,reduceMul→xI,reduceSub→xJ,reduceLT→xK,reduceLE→xL,reduceToNat→xM,reduceEq→xN,reduceNe→xO,reduceBEq→xP,reduceBNe→xQ
set_option linter.unusedVariables false
set_option linter.unusedSectionVars false
set_option linter.unusedSimpArgs false
set_option maxRecDepth 8000
namespace Go.Ma
open Go.Pl
def livW (s:Sh) (ws:Nat→Int) (c:Int):Bool:=if 0≤c∧c<s.c then stK (ws c.toNat) == 1 else false
end Go.Ma
namespace Go.Proofs.YtkjpgikjcfhckaaGreat
open Go Go.Ev Go.Pl Go.Ma
theorem p_readsl {w:Int} (hw:U w):PureC Tryz.prog 100 #[.int .u64 w] (.agg #[.int .i64 (slK w),.int .i64 (slA w)]):=by
 refine PureC.of mixed Tryz.func100 (by kernel_rfl) tr100 (by show 1≤_;decide) fun W H=>?_
 simp only[↓DD,UU,↓reduceIte,xA,xB,xC,xD,xE,xF,xG,xH,xI,xJ,xK,xL,xM,xN,xO,xP,xQ,ne_eq]
 refine newB_intro fun x hx f1 f2=>?_
 simp only[v_kind hw,v_part0 hw,↓DD,UU,↓reduceIte,xA,xB,xC,xD,xE,xF,xG,xH,xI,xJ,xK,xL,xM,xN,xO,xP,xQ,ne_eq]
 refine newB_intro fun y hy f3 f4=>?_
 have nxy:(x=y)=False:=f3 x (by rw[upd_same];rfl)
 have nyx:(y=x)=False:=f4 x (by rw[upd_same];rfl)
 by_cases e1:putSl (w % 16) (pt w 16)=w
 ·have g1:(putSl (w % 16) (pt w 16) != w)=false:=by simp [e1]
  have hok:okSl w=true:=decide_eq_true e1
  simp only[v_putsl,g1,nxy,nyx,↓DD,UU,↓reduceIte,xA,xB,xC,xD,xE,xF,xG,xH,xI,xJ,xK,xL,xM,xN,xO,xP,xQ,ne_eq]
  simp only[slK,slA,hok,if_true]
  exact⟨trivial,((((Sep.one H).new f1 _).new f3 _).p1.set _).tail.tail.head⟩
 ·have g1:(putSl (w % 16) (pt w 16) != w)=true:=by simp [e1]
  have hok:okSl w=false:=decide_eq_false e1
  simp only[v_putsl,g1,nxy,nyx,↓DD,UU,↓reduceIte,xA,xB,xC,xD,xE,xF,xG,xH,xI,xJ,xK,xL,xM,xN,xO,xP,xQ,ne_eq]
  simp only[slK,slA,hok,Bool.false_eq_true,if_false]
  exact⟨trivial,((((Sep.one H).new f1 _).new f3 _).p1.set _).tail.tail.head⟩
theorem v_readsl {w:Int} (hw:U w):pv Tryz.prog 100 #[.int .u64 w] = some (.agg #[.int .i64 (slK w),.int .i64 (slA w)]):=pv_of (p_readsl hw)
theorem aw_cells {H:Hp} {b o:Nat} {v:Value} (h:rd H b o=some v):∃ c T f,H b=some (.cells c T f)∧c[o]? = some v:=by
 unfold rd at h
 split at h
 ·rename_i c T f e;exact⟨c,T,f,e,h⟩
 ·cases h
def bkC (sh:Sh) (a:Option Addr) (n cap:Nat):Array Value:=#[.int .i64 sh.p,.int .i64 sh.c,.int .i64 sh.m,.slice a n cap]
section
variable {W:World} {H h:Hp} {l:List Hp} {n cap:Nat} {a:Option Addr} {ws:Nat→Int} {sh:Sh}
theorem aw_words (hm:may sh.p sh.c sh.m=true) (hn:(n:Int)=words sh.p sh.c sh.m):sh.c+sh.p*17+sh.c*sh.m=(n:Int)∧0≤sh.c*sh.m:=by
 have hb:=(may_iff _ _ _).1 hm
 have:=Int.mul_nonneg (by omega:0≤sh.c) (by omega:0≤sh.m)
 rw[hn];unfold words;rw[if_pos hm];omega
theorem c_bopen (hm:may sh.p sh.c sh.m=true) (hn:(n:Int)=words sh.p sh.c sh.m) (hS:Sep l H) :
  CallP Tryz.prog W 46 #[.agg #[.int .i64 sh.p,.int .i64 sh.c,.int .i64 sh.m],.slice a n cap] H fun v H'=>v=.tuple #[.agg (bkC sh a n cap),.bool true]∧Sep l H':=by
 refine CallP.of mixed Tryz.func46 tr46 (by show 2≤_;decide) fun W _=>?_
 have d1:decide (words sh.p sh.c sh.m≤(n:Int))=true:=decide_eq_true (by omega)
 simp only[↓DD,UU,↓reduceIte,xA,xB,xC,xD,xE,xF,xG,xH,xI,xJ,xK,xL,xM,xN,xO,xP,xQ,ne_eq]
 refine newB_intro fun x hx f1 f2=>?_
 have hS:=hS.new f1 (.cells #[.int .i64 sh.p,.int .i64 sh.c,.int .i64 sh.m] 23 (0,0))
 have hx1:=hS.look
 simp only[hx1,↓DD,UU,↓reduceIte,xA,xB,xC,xD,xE,xF,xG,xH,xI,xJ,xK,xL,xM,xN,xO,xP,xQ,ne_eq]
 refine newB_intro fun y hy f3 f4=>?_
 have nxy:(x=y)=False:=f3 x (by rw[hx1];rfl)
 have nyx:(y=x)=False:=f4 x (by rw[hx1];rfl)
 have hS:=hS.new f3 (.cells #[.int .i64 0,.int .i64 0,.int .i64 0,.slice none 0 0] 104 (0,0))
 have hx1:=hS.lk 1 rfl
 have hy1:=hS.look
 have rx:=fun o n=>rdn_of hx1 o n
 simp only[↓DD,UU,↓reduceIte,xA,xB,xC,xD,xE,xF,xG,xH,xI,xJ,xK,xL,xM,xN,xO,xP,xQ,ne_eq]
 refine draw_intro [(x,#[.int .i64 sh.p,.int .i64 sh.c,.int .i64 sh.m],[])] (by simp only[hx1,↓DD,UU,↓reduceIte,xA,xB,xC,xD,xE,xF,xG,xH,xI,xJ,xK,xL,xM,xN,xO,xP,xQ,ne_eq]) ?_
 simp only[hx1,hy1,rx,nxy,nyx,v_may,hm,v_words,d1,↓DD,UU,↓reduceIte,xA,xB,xC,xD,xE,xF,xG,xH,xI,xJ,xK,xL,xM,xN,xO,xP,xQ,ne_eq]
 have hS:=(hS.set (.cells (bkC sh a n cap) 104 (0,0))).tail.tail
 rw[Ev.upd_upd]at hS
 exact⟨rfl,hS⟩
theorem c_bpage (q:Int) (hm:may sh.p sh.c sh.m=true) (hn:(n:Int)=words sh.p sh.c sh.m) (hr:RowU h a n ws) (hU:∀ i,i<n→U (ws i)) (h0:0≤q) (h1:q<sh.p) (hS:Sep (h :: l) H) :
  CallP Tryz.prog W 47 #[.agg (bkC sh a n cap),.int .i64 q] H fun v H'=>v=.tuple #[.agg #[.int .i64 (pgK sh q (pgAt sh ws q)),.int .i64 (pgA sh q (pgAt sh ws q)),.int .i64 (pgB sh q (pgAt sh ws q))],.bool (okPg sh q (pgAt sh ws q))]∧Sep (h :: l) H':=by
 refine CallP.of mixed Tryz.func47 tr47 (by show 2≤_;decide) fun W _=>?_
 have hw:=aw_words hm hn
 have hpg:page sh.p sh.c sh.m q=sh.c+q:=page_yes hm h0 h1
 have hb:=(may_iff _ _ _).1 hm
 have p0:(0:Int)≤sh.c+q:=by omega
 have p1:sh.c+q<(n:Int):=by omega
 obtain⟨xb,xo,rfl,hrd0⟩:=(hr.sub (hS.sb h (by simp))).at' (i:=(sh.c+q).toNat) (by omega)
 have hu:U (ws (sh.c+q).toNat):=hU _ (by omega)
 obtain⟨c,T,f,hc0,hco⟩:=aw_cells hrd0
 have hpx:pgAt sh ws q=ws (sh.c+q).toNat:=by unfold pgAt;rw[hpg]
 rw[hpx]
 simp only[bkC,↓DD,UU,↓reduceIte,xA,xB,xC,xD,xE,xF,xG,xH,xI,xJ,xK,xL,xM,xN,xO,xP,xQ,ne_eq]
 refine newB_intro fun x hx f1 f2=>?_
 have m1:(xb=x)=False:=f1 xb (by rw[hc0];rfl)
 have hS:=hS.new f1 (.cells (bkC sh (some ⟨xb,xo,none⟩) n cap) 104 (0,0))
 have hx1:=hS.look
 simp only[↓DD,UU,↓reduceIte,xA,xB,xC,xD,xE,xF,xG,xH,xI,xJ,xK,xL,xM,xN,xO,xP,xQ,ne_eq]
 refine newB_intro fun y hy f3 f4=>?_
 have hc1:upd H x (.cells (bkC sh (some ⟨xb,xo,none⟩) n cap) 104 (0,0)) xb=some (.cells c T f):=by
  rw[upd_at,if_neg (fun e=>by rw[e]at m1;simp at m1)];exact hc0
 have m2:(xb=y)=False:=f3 xb (by show(upd H x (.cells (bkC sh (some ⟨xb,xo,none⟩) n cap) 104 (0,0)) xb).isSome=true;rw[hc1];rfl)
 have nxy:(x=y)=False:=f3 x (by show(upd H x (.cells (bkC sh (some ⟨xb,xo,none⟩) n cap) 104 (0,0)) x).isSome=true;rw[hx1];rfl)
 have nyx:(y=x)=False:=eq_false fun e=>by rw[e]at nxy;simp at nxy
 have hS:=hS.new f3 (.cells #[.int .i64 0,.int .i64 0,.int .i64 0] 107 (0,0))
 show mwp Tryz.prog W _ _ _ (upd (upd H x (.cells (bkC sh (some ⟨xb,xo,none⟩) n cap) 104 (0,0))) y (.cells #[.int .i64 0,.int .i64 0,.int .i64 0] 107 (0,0)))
 have hx1:=hS.lk 1 rfl
 have hy1:=hS.look
 have hc:upd (upd H x (.cells (bkC sh (some ⟨xb,xo,none⟩) n cap) 104 (0,0))) y (.cells #[.int .i64 0,.int .i64 0,.int .i64 0] 107 (0,0)) xb=some (.cells c T f):=by
  rw[upd_at,if_neg (fun e=>by rw[e]at m2;simp at m2)];exact hc1
 generalize upd (upd H x (.cells (bkC sh (some ⟨xb,xo,none⟩) n cap) 104 (0,0))) y (.cells #[.int .i64 0,.int .i64 0,.int .i64 0] 107 (0,0))=H2 at *
 have r0:=fun o=>rd_of hx1 o
 have r1:=fun o n=>rdn_of hx1 o n
 have r2:=fun o=>rd_of hc o
 refine draw_intro [(x,bkC sh (some ⟨xb,xo,none⟩) n cap,[]),(xb,c,[])] (by simp only[hx1,hc,bkC,↓DD,UU,↓reduceIte,xA,xB,xC,xD,xE,xF,xG,xH,xI,xJ,xK,xL,xM,xN,xO,xP,xQ,ne_eq]) ?_
 simp only[hx1,hy1,r0,r1,v_page,hpg,p0,p1,hc,r2,hco,m1,m2,v_readpg sh q hu,nyx,nxy,bkC,↓DD,UU,↓reduceIte,xA,xB,xC,xD,xE,xF,xG,xH,xI,xJ,xK,xL,xM,xN,xO,xP,xQ,ne_eq]
 exact(hS.set _).tail.tail
theorem c_bslot (q i:Int) (hm:may sh.p sh.c sh.m=true) (hn:(n:Int)=words sh.p sh.c sh.m) (hr:RowU h a n ws) (hU:∀ i,i<n→U (ws i)) (h0:0≤q) (h1:q<sh.p) (i0:0≤i) (i1:i<16) (hS:Sep (h :: l) H) :
  CallP Tryz.prog W 71 #[.agg (bkC sh a n cap),.int .i64 q,.int .i64 i] H fun v H'=>v=.agg #[.int .i64 (slK (slAt sh ws q i)),.int .i64 (slA (slAt sh ws q i))]∧Sep (h :: l) H':=by
 refine CallP.of mixed Tryz.func71 tr71 (by show 3≤_;decide) fun W _=>?_
 have hw:=aw_words hm hn
 have hpg:slot sh.p sh.c sh.m q i=sh.c+sh.p+q*16+i:=slot_yes hm h0 h1 i0 i1
 have hb:=(may_iff _ _ _).1 hm
 have p0:(0:Int)≤sh.c+sh.p+q*16+i:=by omega
 have p1:sh.c+sh.p+q*16+i<(n:Int):=by omega
 obtain⟨xb,xo,rfl,hrd0⟩:=(hr.sub (hS.sb h (by simp))).at' (i:=(sh.c+sh.p+q*16+i).toNat) (by omega)
 have hu:U (ws (sh.c+sh.p+q*16+i).toNat):=hU _ (by omega)
 obtain⟨c,T,f,hc0,hco⟩:=aw_cells hrd0
 have hpx:slAt sh ws q i=ws (sh.c+sh.p+q*16+i).toNat:=rfl
 rw[hpx]
 simp only[bkC,↓DD,UU,↓reduceIte,xA,xB,xC,xD,xE,xF,xG,xH,xI,xJ,xK,xL,xM,xN,xO,xP,xQ,ne_eq]
 refine newB_intro fun x hx f1 f2=>?_
 have m1:(xb=x)=False:=f1 xb (by rw[hc0];rfl)
 have hS:=hS.new f1 (.cells (bkC sh (some ⟨xb,xo,none⟩) n cap) 104 (0,0))
 have hx1:=hS.look
 simp only[↓DD,UU,↓reduceIte,xA,xB,xC,xD,xE,xF,xG,xH,xI,xJ,xK,xL,xM,xN,xO,xP,xQ,ne_eq]
 refine newB_intro fun y hy f3 f4=>?_
 have hc1:upd H x (.cells (bkC sh (some ⟨xb,xo,none⟩) n cap) 104 (0,0)) xb=some (.cells c T f):=by
  rw[upd_at,if_neg (fun e=>by rw[e]at m1;simp at m1)];exact hc0
 have m2:(xb=y)=False:=f3 xb (by show(upd H x (.cells (bkC sh (some ⟨xb,xo,none⟩) n cap) 104 (0,0)) xb).isSome=true;rw[hc1];rfl)
 have nxy:(x=y)=False:=f3 x (by show(upd H x (.cells (bkC sh (some ⟨xb,xo,none⟩) n cap) 104 (0,0)) x).isSome=true;rw[hx1];rfl)
 have nyx:(y=x)=False:=eq_false fun e=>by rw[e]at nxy;simp at nxy
 have hS:=hS.new f3 (.cells #[.int .i64 0,.int .i64 0] 128 (0,0))
 show mwp Tryz.prog W _ _ _ (upd (upd H x (.cells (bkC sh (some ⟨xb,xo,none⟩) n cap) 104 (0,0))) y (.cells #[.int .i64 0,.int .i64 0] 128 (0,0)))
 have hx1:=hS.lk 1 rfl
 have hy1:=hS.look
 have hc:upd (upd H x (.cells (bkC sh (some ⟨xb,xo,none⟩) n cap) 104 (0,0))) y (.cells #[.int .i64 0,.int .i64 0] 128 (0,0)) xb=some (.cells c T f):=by
  rw[upd_at,if_neg (fun e=>by rw[e]at m2;simp at m2)];exact hc1
 generalize upd (upd H x (.cells (bkC sh (some ⟨xb,xo,none⟩) n cap) 104 (0,0))) y (.cells #[.int .i64 0,.int .i64 0] 128 (0,0))=H2 at *
 have r0:=fun o=>rd_of hx1 o
 have r1:=fun o n=>rdn_of hx1 o n
 have r2:=fun o=>rd_of hc o
 refine draw_intro [(x,bkC sh (some ⟨xb,xo,none⟩) n cap,[]),(xb,c,[])] (by simp only[hx1,hc,bkC,↓DD,UU,↓reduceIte,xA,xB,xC,xD,xE,xF,xG,xH,xI,xJ,xK,xL,xM,xN,xO,xP,xQ,ne_eq]) ?_
 simp only[hx1,hy1,r0,r1,v_slot,hpg,p0,p1,hc,r2,hco,m1,m2,v_readsl hu,nyx,nxy,bkC,↓DD,UU,↓reduceIte,xA,xB,xC,xD,xE,xF,xG,xH,xI,xJ,xK,xL,xM,xN,xO,xP,xQ,ne_eq]
 exact(hS.set _).tail.tail
theorem c_blives (c:Int) (hm:may sh.p sh.c sh.m=true) (hn:(n:Int)=words sh.p sh.c sh.m) (hr:RowU h a n ws) (hU:∀ i,i<n→U (ws i)) (hS:Sep (h :: l) H) :
  CallP Tryz.prog W 50 #[.agg (bkC sh a n cap),.int .i64 c] H fun v H'=>v=.bool (livW sh ws c)∧Sep (h :: l) H':=by
 refine CallP.of mixed Tryz.func50 tr50 (by show 2≤_;decide) fun W _=>?_
 have hw:=aw_words hm hn
 have hb:=(may_iff _ _ _).1 hm
 simp only[bkC,↓DD,UU,↓reduceIte,xA,xB,xC,xD,xE,xF,xG,xH,xI,xJ,xK,xL,xM,xN,xO,xP,xQ,ne_eq]
 refine newB_intro fun x hx f1 f2=>?_
 have hS:=hS.new f1 (.cells (bkC sh a n cap) 104 (0,0))
 unfold bkC at hS
 have hx1:=hS.look
 have r0:=fun o=>rd_of hx1 o
 have r1:=fun o n=>rdn_of hx1 o n
 by_cases hc:0≤c∧c<sh.c
 ·have hs:status sh.p sh.c sh.m c=c:=status_yes hm hc.1 hc.2
  have d1:decide (c<0)=false:=decide_eq_false (by omega)
  obtain⟨xb,xo,rfl,hrd⟩:=(hr.sub (hS.sb h (by simp))).at' (i:=c.toNat) (by omega)
  have q0:=hc.1
  have q1:c<(n:Int):=by omega
  have hrs:=v_readst (hU c.toNat (by omega))
  have hl:livW sh ws c=(stK (ws c.toNat) == 1):=by unfold livW;rw[if_pos hc]
  simp only[hx1,r0,r1,v_status,hs,d1,hrd,q0,q1,hrs,hl,bkC,↓DD,UU,↓reduceIte,xA,xB,xC,xD,xE,xF,xG,xH,xI,xJ,xK,xL,xM,xN,xO,xP,xQ,ne_eq]
  first | exact hS.tail | exact⟨rfl,hS.tail⟩
 ·have hs:status sh.p sh.c sh.m c<0:=by rw[status_lt0];exact fun g=>hc g.2
  have hl:livW sh ws c=false:=by unfold livW;rw[if_neg hc]
  simp only[hx1,r0,r1,v_status,decide_eq_true hs,hl,bkC,↓DD,UU,↓reduceIte,xA,xB,xC,xD,xE,xF,xG,xH,xI,xJ,xK,xL,xM,xN,xO,xP,xQ,ne_eq]
  first | exact hS.tail | exact⟨rfl,hS.tail⟩
theorem c_bholder (q:Int) (hm:may sh.p sh.c sh.m=true) (hn:(n:Int)=words sh.p sh.c sh.m) (hr:RowU h a n ws) (hU:∀ i,i<n→U (ws i)) (h0:0≤q) (h1:q<sh.p) (hS:Sep (h :: l) H) :
  CallP Tryz.prog W 48 #[.agg (bkC sh a n cap),.int .i64 q] H fun v H'=>v=.tuple #[.int .i64 (if Cn.held sh ws q then Cn.who sh ws q else 0),.bool (Cn.held sh ws q)]∧Sep (h :: l) H':=by
 refine CallP.of mixed Tryz.func48 tr48 (by show 2≤_;decide) fun W _=>?_
 have hKn:∀ q x,pgK sh q x≠0→okPg sh q x=true:=fun q x g=>by
  cases e:okPg sh q x
  ·unfold pgK at g;rw[e]at g;simp at g
  ·rfl
 simp only[bkC,↓DD,UU,↓reduceIte,xA,xB,xC,xD,xE,xF,xG,xH,xI,xJ,xK,xL,xM,xN,xO,xP,xQ,ne_eq]
 refine newB_intro fun x hx f1 f2=>?_
 have hS:=hS.new f1 (.cells (bkC sh a n cap) 104 (0,0))
 unfold bkC at hS
 have hx1:=hS.look
 have r1:=fun o n=>rdn_of hx1 o n
 simp only[hx1,r1,↓DD,UU,↓reduceIte,xA,xB,xC,xD,xE,xF,xG,xH,xI,xJ,xK,xL,xM,xN,xO,xP,xQ,ne_eq]
 refine callT_of (c_bpage q hm hn hr hU h0 h1 hS.p1) ?_
 rintro v H' ⟨rfl,hS⟩
 simp only[↓DD,UU,↓reduceIte,xA,xB,xC,xD,xE,xF,xG,xH,xI,xJ,xK,xL,xM,xN,xO,xP,xQ,ne_eq]
 refine newB_intro fun y hy f3 f4=>?_
 have hx1:=hS.lk 1 rfl
 have nxy:(x=y)=False:=f3 x (by rw[hx1];rfl)
 have nyx:(y=x)=False:=f4 x (by rw[hx1];rfl)
 have hS:=hS.new f3 (.cells #[.int .i64 (pgK sh q (pgAt sh ws q)),.int .i64 (pgA sh q (pgAt sh ws q)),.int .i64 (pgB sh q (pgAt sh ws q))] 107 (0,0))
 have hx2:=hS.lk 2 rfl
 have hy1:=hS.look
 have r1:=fun o n=>rdn_of hx1 o n
 have ry:=fun o=>rd_of hy1 o
 unfold Cn.who Cn.held
 by_cases k4:pgK sh q (pgAt sh ws q)=4
 ·have hok:=hKn q (pgAt sh ws q) (by rw[k4];decide)
  have g4:(pgK sh q (pgAt sh ws q) == 4)=true:=beq_iff_eq.2 k4
  rw[show Cn.at' sh ws q=pgA sh q (pgAt sh ws q) from if_pos k4]
  simp only[hok,g4,nxy,nyx,hx1,r1,ry,Ev.upd_upd,↓DD,UU,↓reduceIte,xA,xB,xC,xD,xE,xF,xG,xH,xI,xJ,xK,xL,xM,xN,xO,xP,xQ,ne_eq]
  have hAb:0≤pgA sh q (pgAt sh ws q)∧pgA sh q (pgAt sh ws q)<q:=by
   have hk:=hok
   unfold okPg at hk
   simp only[Bool.and_eq_true,decide_eq_true_eq]at hk
   have e4:pgAt sh ws q % 16=4:=by unfold pgK at k4;rw[if_pos hok]at k4;exact k4
   have hf:=hk.2.2
   unfold fits at hf
   rw[e4]at hf
   simp at hf
   unfold pgA
   rw[if_pos hok]
   unfold pt at hf ⊢
   omega
  refine callT_of (c_bpage (pgA sh q (pgAt sh ws q)) hm hn hr hU hAb.1 (by omega) hS.p1) ?_
  rintro v H' ⟨rfl,hS⟩
  obtain⟨A,hA⟩:∃ A,pgA sh q (pgAt sh ws q)=A:=⟨_,rfl⟩
  have hy1:=hS.lk 1 rfl
  rw[hA]at hy1
  have hS:=(hS.p1.set (.cells #[.int .i64 (pgK sh A (pgAt sh ws A)),.int .i64 (pgA sh A (pgAt sh ws A)),.int .i64 (pgB sh A (pgAt sh ws A))] 107 (0,0)))
  have hy2:=hS.look
  have r2:=fun o=>rd_of hy2 o
  rw[hA]
  cases hok2:okPg sh A (pgAt sh ws A)
  ·have k1:(pgK sh A (pgAt sh ws A) == 1)=false:=by unfold pgK;rw[hok2];rfl
   simp only[hy1,hy2,r2,hok2,k1,Bool.false_eq_true,if_false,Ev.upd_upd,↓DD,UU,↓reduceIte,xA,xB,xC,xD,xE,xF,xG,xH,xI,xJ,xK,xL,xM,xN,xO,xP,xQ,ne_eq]
   exact hS.tail.p1.tail
  ·cases k1:(pgK sh A (pgAt sh ws A) == 1)
   ·have k1':(pgK sh A (pgAt sh ws A) != 1)=true:=by unfold bne;rw[k1];rfl
    simp only[hy1,hy2,r2,hok2,k1,k1',Bool.false_eq_true,if_false,Ev.upd_upd,↓DD,UU,↓reduceIte,xA,xB,xC,xD,xE,xF,xG,xH,xI,xJ,xK,xL,xM,xN,xO,xP,xQ,ne_eq]
    exact hS.tail.p1.tail
   ·have k1':(pgK sh A (pgAt sh ws A) != 1)=false:=by unfold bne;rw[k1];rfl
    simp only[hy1,hy2,r2,hok2,k1,k1',if_true,Ev.upd_upd,↓DD,UU,↓reduceIte,xA,xB,xC,xD,xE,xF,xG,xH,xI,xJ,xK,xL,xM,xN,xO,xP,xQ,ne_eq]
    exact hS.tail.p1.tail
 ·have g4:(pgK sh q (pgAt sh ws q) == 4)=false:=beq_eq_false_iff_ne.2 k4
  rw[show Cn.at' sh ws q=q from if_neg k4]
  cases hok:okPg sh q (pgAt sh ws q)
  ·have k1:(pgK sh q (pgAt sh ws q) == 1)=false:=by unfold pgK;rw[hok];rfl
   simp only[hok,g4,k1,nxy,nyx,hx1,r1,ry,Bool.false_eq_true,if_false,Ev.upd_upd,↓DD,UU,↓reduceIte,xA,xB,xC,xD,xE,xF,xG,xH,xI,xJ,xK,xL,xM,xN,xO,xP,xQ,ne_eq]
   exact hS.tail.p1.tail
  ·cases k1:(pgK sh q (pgAt sh ws q) == 1)
   ·have k1':(pgK sh q (pgAt sh ws q) != 1)=true:=by unfold bne;rw[k1];rfl
    simp only[hok,g4,k1,k1',nxy,nyx,hx1,r1,ry,Bool.false_eq_true,if_false,Ev.upd_upd,↓DD,UU,↓reduceIte,xA,xB,xC,xD,xE,xF,xG,xH,xI,xJ,xK,xL,xM,xN,xO,xP,xQ,ne_eq]
    exact hS.tail.p1.tail
   ·have k1':(pgK sh q (pgAt sh ws q) != 1)=false:=by unfold bne;rw[k1];rfl
    simp only[hok,g4,k1,k1',nxy,nyx,hx1,r1,ry,if_true,Ev.upd_upd,↓DD,UU,↓reduceIte,xA,xB,xC,xD,xE,xF,xG,xH,xI,xJ,xK,xL,xM,xN,xO,xP,xQ,ne_eq]
    exact hS.tail.p1.tail
def awC (c:Cn):Array Value:=#[.int .i64 c.fr,.int .i64 c.ta,.int .i64 c.li,.int .i64 c.lo]
def awB (z:Nat) (c:Cn):Hp:=sg z (.cells (awC c) 41 (0,0))
theorem c_cadd {z:Nat} {c:Cn} (lv:Bool) (x:Int) (hb:c.Bd 100000) (hx:0≤x∧x≤64) (hS:Sep (awB z c :: l) H) :
  CallP Tryz.prog W 49 #[.pointer (some ⟨z,0,none⟩),.bool lv,.int .i64 x] H fun v H'=>v=.tuple #[]∧Sep (awB z (if lv then { c with li:=c.li+x } else { c with lo:=c.lo+x }) :: l) H':=by
 refine CallP.of mixed Tryz.func49 tr49 (by show 3≤_;decide) fun W _=>?_
 unfold Cn.Bd at hb
 have hz:=hS.look
 have r0:=fun o=>rd_of hz o
 have w3:w64 (c.li+x)=c.li+x:=w64_eq (by omega) (by omega)
 have w4:w64 (c.lo+x)=c.lo+x:=w64_eq (by omega) (by omega)
 cases lv<;>simp only[hz,r0,wrap_w64,w3,w4,awC,Bool.false_eq_true,if_false,if_true,↓DD,UU,↓reduceIte,xA,xB,xC,xD,xE,xF,xG,xH,xI,xJ,xK,xL,xM,xN,xO,xP,xQ,ne_eq]
 ·exact hS.set (.cells (awC { c with lo:=c.lo+x }) 41 (0,0))
 ·exact hS.set (.cells (awC { c with li:=c.li+x }) 41 (0,0))
def awI (sh:Sh) (ws:Nat→Int) (q A:Int) (n0:Cn) (x z n cap:Nat) (a:Option Addr) (L:List Hp) (F':Fr) (H':Hp):Prop:=
 ∃ i:Nat,(i:Int)≤slots A∧gt F' 15=.int .i64 (i:Int)∧(gt F' 14=.int .i64 (slots A)∧gt F' 8=.int .i64 (size A)∧gt F' 4=.pointer (some ⟨x,0,none⟩)∧gt F' 3=.pointer (some ⟨z,0,none⟩)∧gt F' 1=.int .i64 q) ∧
  Sep (awB z (Cn.slots (livW sh ws) sh ws q A n0 i) :: sg x (.cells #[.int .i64 sh.p,.int .i64 sh.c,.int .i64 sh.m,.slice a n cap] 104 (0,0)) :: L) H'
theorem c_bslots {z:Nat} (q A:Int) (n0:Cn) (q0:0≤q) (q1:q<sh.p) (hb:n0.Bd 90000) (hm:may sh.p sh.c sh.m=true) (hn:(n:Int)=words sh.p sh.c sh.m) (hr:RowU h a n ws) (hU:∀ i,i<n→U (ws i)) (hS:Sep (awB z n0 :: h :: l) H) :
  CallP Tryz.prog W 51 #[.agg (bkC sh a n cap),.int .i64 q,.int .i64 A,.pointer (some ⟨z,0,none⟩)] H fun v H'=>v=.tuple #[]∧Sep (awB z (Cn.slots (livW sh ws) sh ws q A n0 (slots A).toNat) :: h :: l) H':=by
 refine CallP.of mixed Tryz.func51 tr51 (by show 4≤_;decide) fun W _=>?_
 simp only[bkC,↓DD,UU,↓reduceIte,xA,xB,xC,xD,xE,xF,xG,xH,xI,xJ,xK,xL,xM,xN,xO,xP,xQ,ne_eq]
 refine newB_intro fun x hx f1 f2=>?_
 have hS:=(hS.new f1 (.cells #[.int .i64 sh.p,.int .i64 sh.c,.int .i64 sh.m,.slice a n cap] 104 (0,0))).p1
 have sb:=slots_bd A
 have zb:=Cn.size_bd A
 simp only[v_size,v_slots,↓DD,UU,↓reduceIte,xA,xB,xC,xD,xE,xF,xG,xH,xI,xJ,xK,xL,xM,xN,xO,xP,xQ,ne_eq]
 refine loop_intro (awI sh ws q A n0 x z n cap a (h :: l)) (fun F' _=>(slots A - iv (gt F' 15)).toNat) ⟨0,by omega,rfl,⟨rfl,rfl,rfl,rfl,rfl⟩,hS⟩ ?_
 clear hS
 rintro F' H' ⟨i,hi,e15,⟨e14,e8,e4,e3,e1⟩,hS⟩
 have hx1:=hS.lk 1 rfl
 have r1:=fun o n=>rdn_of hx1 o n
 by_cases hlt:(i:Int)<slots A
 rotate_left
 ·have d1:decide ((i:Int)<slots A)=false:=decide_eq_false hlt
  have hii:(slots A).toNat=i:=by omega
  rw[hii]
  simp only[e15,e14,d1,↓DD,UU,↓reduceIte,xA,xB,xC,xD,xE,xF,xG,xH,xI,xJ,xK,xL,xM,xN,xO,xP,xQ,ne_eq]
  exact hS.p1.tail
 have d1:decide ((i:Int)<slots A)=true:=decide_eq_true hlt
 have wi:w64 ((i:Int)+1)=(i:Int)+1:=w64_eq (by omega) (by omega)
 have hb2:=hb.slots (liv:=livW sh ws) (s:=sh) (ws:=ws) (q:=q) (A:=A) i
 obtain⟨c0,hc0⟩:∃ c0,Cn.slots (livW sh ws) sh ws q A n0 i=c0:=⟨_,rfl⟩
 have hnx:Cn.slots (livW sh ws) sh ws q A n0 (i+1)=Cn.slot (livW sh ws) A (slAt sh ws q i) c0:=by rw[← hc0];rfl
 rw[hc0]at hS hb2
 have hbig:c0.Bd 100000:=hb2.mono (by omega)
 unfold Cn.Bd at hb2
 have w1:w64 (c0.fr+size A)=c0.fr+size A:=w64_eq (by omega) (by omega)
 have w2:w64 (c0.ta+size A)=c0.ta+size A:=w64_eq (by omega) (by omega)
 simp only[e15,e14,e8,e4,e3,e1,d1,hx1,r1,↓DD,UU,↓reduceIte,xA,xB,xC,xD,xE,xF,xG,xH,xI,xJ,xK,xL,xM,xN,xO,xP,xQ,ne_eq]
 refine callT_of (c_bslot q i hm hn hr hU q0 q1 (by omega) (by omega) hS.p2) ?_
 rintro v H' ⟨rfl,hS⟩
 obtain⟨Y,hY⟩:∃ Y,slAt sh ws q i=Y:=⟨_,rfl⟩
 rw[hY]at hnx
 have hx1:=hS.lk 2 rfl
 have hz1:=hS.lk 1 rfl
 have hz0:=hz1
 have hx0:=hx1
 have rz0:=fun o=>rd_of hz0 o
 have rx0:=fun o n=>rdn_of hx0 o n
 simp only[e15,e14,e8,e4,e3,e1,hY,↓DD,UU,↓reduceIte,xA,xB,xC,xD,xE,xF,xG,xH,xI,xJ,xK,xL,xM,xN,xO,xP,xQ,ne_eq]
 refine newB_intro fun t ht f7 f8=>?_
 have nxt:(x=t)=False:=f7 x (by rw[hx1];rfl)
 have ntx:(t=x)=False:=f8 x (by rw[hx1];rfl)
 have nzt:(z=t)=False:=f7 z (by rw[hz1];rfl)
 have ntz:(t=z)=False:=f8 z (by rw[hz1];rfl)
 have hS:=(hS.new f7 (.cells #[.int .i64 (slK Y),.int .i64 (slA Y)] 128 (0,0))).sel 4 [2,0,3,1] (by decide) (by decide)
 have ht1:=hS.lk 1 rfl
 have hz1:=hS.look
 have hx1:=hS.lk 2 rfl
 have rt:=fun o=>rd_of ht1 o
 have rz:=fun o=>rd_of hz1 o
 have r1:=fun o n=>rdn_of hx1 o n
 have fin:∀ (c1:Cn) (F2:Fr) (H2:Hp),Cn.slot (livW sh ws) A Y c0=c1→Sep (awB z c1 :: sg t (.cells #[.int .i64 (slK Y),.int .i64 (slA Y)] 128 (0,0)) :: sg x (.cells #[.int .i64 sh.p,.int .i64 sh.c,.int .i64 sh.m,.slice a n cap] 104 (0,0)) :: h :: l) H2 →
   gt F2 15=.int .i64 ((i:Int)+1)→(gt F2 14=.int .i64 (slots A)∧gt F2 8=.int .i64 (size A)∧gt F2 4=.pointer (some ⟨x,0,none⟩)∧gt F2 3=.pointer (some ⟨z,0,none⟩)∧gt F2 1=.int .i64 q) →
   awI sh ws q A n0 x z n cap a (h :: l) F2 H2:=fun c1 F2 H2 e h2 g15 g=>by
  refine⟨i+1,by omega,by rw[g15];congr 1,g,?_⟩
  rw[hnx,e]
  exact h2.p1.tail
 by_cases k1:slK Y=1
 ·have g1:(slK Y == 1)=true:=beq_iff_eq.2 k1
  have hn1:Cn.slot (livW sh ws) A Y c0 = { c0 with fr:=c0.fr+size A }:=by unfold Cn.slot;rw[if_pos k1]
  simp only[e15,e14,e8,e4,e3,e1,hY,hx1,r1,hz1,rz,hz0,hx0,rz0,rx0,ht1,rt,awC,nxt,ntx,nzt,ntz,g1,wrap_w64,w1,wi,Ev.upd_upd,↓DD,UU,↓reduceIte,xA,xB,xC,xD,xE,xF,xG,xH,xI,xJ,xK,xL,xM,xN,xO,xP,xQ,ne_eq]
  exact⟨fin _ _ _ hn1 (hS.set _) (by simp [gt]) ⟨by simp [gt,e14],by simp [gt,e8],by simp [gt,e4],by simp [gt,e3],by simp [gt,e1]⟩,by simp [gt,iv,e15];omega⟩
 have g1:(slK Y == 1)=false:=beq_eq_false_iff_ne.2 k1
 by_cases k3:slK Y=3
 ·have g3:(slK Y == 3)=true:=beq_iff_eq.2 k3
  have hn1:Cn.slot (livW sh ws) A Y c0 = { c0 with ta:=c0.ta+size A }:=by unfold Cn.slot;rw[if_neg k1,if_pos k3]
  simp only[e15,e14,e8,e4,e3,e1,hY,hx1,r1,hz1,rz,hz0,hx0,rz0,rx0,ht1,rt,awC,nxt,ntx,nzt,ntz,g1,g3,wrap_w64,w2,wi,Ev.upd_upd,↓DD,UU,↓reduceIte,xA,xB,xC,xD,xE,xF,xG,xH,xI,xJ,xK,xL,xM,xN,xO,xP,xQ,ne_eq]
  exact⟨fin _ _ _ hn1 (hS.set _) (by simp [gt]) ⟨by simp [gt,e14],by simp [gt,e8],by simp [gt,e4],by simp [gt,e3],by simp [gt,e1]⟩,by simp [gt,iv,e15];omega⟩
 have g3:(slK Y == 3)=false:=beq_eq_false_iff_ne.2 k3
 by_cases k2:slK Y=2
 ·have g2:(slK Y == 2)=true:=beq_iff_eq.2 k2
  simp only[e15,e14,e8,e4,e3,e1,hY,hx1,r1,hz1,rz,hz0,hx0,rz0,rx0,ht1,rt,awC,nxt,ntx,nzt,ntz,g1,g2,g3,wrap_w64,wi,Ev.upd_upd,↓DD,UU,↓reduceIte,xA,xB,xC,xD,xE,xF,xG,xH,xI,xJ,xK,xL,xM,xN,xO,xP,xQ,ne_eq]
  refine callT_of (c_blives (slA Y) hm hn hr hU (hS.sel 4 [3,0,1,2] (by decide) (by decide))) ?_
  rintro v H' ⟨rfl,hS⟩
  have hn1:Cn.slot (livW sh ws) A Y c0=(if livW sh ws (slA Y) then { c0 with li:=c0.li+size A } else { c0 with lo:=c0.lo+size A }):=by
   unfold Cn.slot;rw[if_neg k1,if_neg k3]
   by_cases hl:livW sh ws (slA Y)=true
   ·rw[if_pos ⟨k2,hl⟩,if_pos hl]
   ·rw[if_neg fun g=>hl g.2,if_neg hl]
  simp only[e15,e14,e8,e4,e3,e1,hY,↓DD,UU,↓reduceIte,xA,xB,xC,xD,xE,xF,xG,xH,xI,xJ,xK,xL,xM,xN,xO,xP,xQ,ne_eq]
  refine callT_of (c_cadd _ (size A) hbig (by omega) (hS.sel 4 [1,0,2,3] (by decide) (by decide))) ?_
  rintro v H' ⟨rfl,hS⟩
  simp only[e15,e14,e8,e4,e3,e1,hY,wrap_w64,wi,↓DD,UU,↓reduceIte,xA,xB,xC,xD,xE,xF,xG,xH,xI,xJ,xK,xL,xM,xN,xO,xP,xQ,ne_eq]
  exact⟨fin _ _ _ hn1 (hS.sel 4 [0,2,3,1] (by decide) (by decide)) (by simp [gt]) ⟨by simp [gt,e14],by simp [gt,e8],by simp [gt,e4],by simp [gt,e3],by simp [gt,e1]⟩,by simp [gt,iv,e15];omega⟩
 ·have g2:(slK Y == 2)=false:=beq_eq_false_iff_ne.2 k2
  have hn1:Cn.slot (livW sh ws) A Y c0=(if false then { c0 with li:=c0.li+size A } else { c0 with lo:=c0.lo+size A }):=by unfold Cn.slot;rw[if_neg k1,if_neg k3,if_neg fun g=>k2 g.1];rfl
  simp only[e15,e14,e8,e4,e3,e1,hY,hx1,r1,hz1,rz,hz0,hx0,rz0,rx0,ht1,rt,awC,nxt,ntx,nzt,ntz,g1,g2,g3,wrap_w64,wi,Ev.upd_upd,↓DD,UU,↓reduceIte,xA,xB,xC,xD,xE,xF,xG,xH,xI,xJ,xK,xL,xM,xN,xO,xP,xQ,ne_eq]
  refine callT_of (c_cadd false (size A) hbig (by omega) hS) ?_
  rintro v H' ⟨rfl,hS⟩
  simp only[e15,e14,e8,e4,e3,e1,hY,wrap_w64,wi,↓DD,UU,↓reduceIte,xA,xB,xC,xD,xE,xF,xG,xH,xI,xJ,xK,xL,xM,xN,xO,xP,xQ,ne_eq]
  exact⟨fin _ _ _ hn1 hS (by simp [gt]) ⟨by simp [gt,e14],by simp [gt,e8],by simp [gt,e4],by simp [gt,e3],by simp [gt,e1]⟩,by simp [gt,iv,e15];omega⟩
def awP (sh:Sh) (ws:Nat→Int) (y z k n cap:Nat) (a:Option Addr) (L:List Hp) (F':Fr) (H':Hp):Prop:=
 ∃ p:Nat,(p:Int)≤sh.p∧gt F' 24=.int .i64 (p:Int)∧(gt F' 23=.int .i64 sh.p∧gt F' 6=.pointer (some ⟨k,0,none⟩)∧gt F' 5=.pointer (some ⟨y,0,none⟩)∧gt F' 4=.pointer (some ⟨z,0,none⟩)) ∧
  Sep (awB y (Cn.all (livW sh ws) sh ws p) :: awB z Cn.z :: sg k (.cells #[.int .i64 sh.p,.int .i64 sh.c,.int .i64 sh.m,.slice a n cap] 104 (0,0)) :: L) H'
theorem c_awords (hm:may sh.p sh.c sh.m=true) (hn:(n:Int)=words sh.p sh.c sh.m) (hr:RowU h a n ws) (hU:∀ i,i<n→U (ws i)) (hS:Sep (h :: l) H) :
  CallP Tryz.prog W 15 #[.agg #[.int .i64 sh.p,.int .i64 sh.c,.int .i64 sh.m],.slice a n cap] H fun v H'=>v=.agg (awC (Cn.all (livW sh ws) sh ws sh.p.toNat))∧Sep (h :: l) H':=by
 refine CallP.of mixed Tryz.func15 tr15 (by show 2≤_;decide) fun W _=>?_
 have hb:=(may_iff _ _ _).1 hm
 simp only[↓DD,UU,↓reduceIte,xA,xB,xC,xD,xE,xF,xG,xH,xI,xJ,xK,xL,xM,xN,xO,xP,xQ,ne_eq]
 refine newB_intro fun x hx f1 f2=>?_
 have hS:=(hS.new f1 (.cells #[.int .i64 sh.p,.int .i64 sh.c,.int .i64 sh.m] 23 (0,0)))
 have hx1:=hS.look
 simp only[↓DD,UU,↓reduceIte,xA,xB,xC,xD,xE,xF,xG,xH,xI,xJ,xK,xL,xM,xN,xO,xP,xQ,ne_eq]
 refine newB_intro fun z hz f3 f4=>?_
 have nxz:(x=z)=False:=f3 x (by rw[hx1];rfl)
 have nzx:(z=x)=False:=f4 x (by rw[hx1];rfl)
 have hS:=hS.new f3 (.cells #[.int .i64 0,.int .i64 0,.int .i64 0,.int .i64 0] 41 (0,0))
 have hz1:=hS.look
 simp only[↓DD,UU,↓reduceIte,xA,xB,xC,xD,xE,xF,xG,xH,xI,xJ,xK,xL,xM,xN,xO,xP,xQ,ne_eq]
 refine newB_intro fun y hy f5 f6=>?_
 have hx1:=hS.lk 1 rfl
 have nxy:(x=y)=False:=f5 x (by rw[hx1];rfl)
 have nyx:(y=x)=False:=f6 x (by rw[hx1];rfl)
 have nzy:(z=y)=False:=f5 z (by rw[hz1];rfl)
 have nyz:(y=z)=False:=f6 z (by rw[hz1];rfl)
 have hS:=hS.new f5 (.cells #[.int .i64 0,.int .i64 0,.int .i64 0,.int .i64 0] 41 (0,0))
 have hx1:=hS.lk 2 rfl
 have r1:=fun o n=>rdn_of hx1 o n
 simp only[hx1,r1,nxy,nyx,nzy,nyz,nxz,nzx,Ev.upd_upd,↓DD,UU,↓reduceIte,xA,xB,xC,xD,xE,xF,xG,xH,xI,xJ,xK,xL,xM,xN,xO,xP,xQ,ne_eq]
 refine callT_of (c_bopen (cap:=cap) (a:=a) hm hn hS) ?_
 rintro v H' ⟨rfl,hS⟩
 simp only[bkC,↓DD,UU,↓reduceIte,xA,xB,xC,xD,xE,xF,xG,xH,xI,xJ,xK,xL,xM,xN,xO,xP,xQ,ne_eq]
 refine newB_intro fun k hk f7 f8=>?_
 have hx1:=hS.lk 2 rfl
 have nxk:(x=k)=False:=f7 x (by rw[hx1];rfl)
 have hS:=hS.new f7 (.cells #[.int .i64 sh.p,.int .i64 sh.c,.int .i64 sh.m,.slice a n cap] 104 (0,0))
 have hx1:=hS.lk 3 rfl
 have r0:=fun o=>rd_of hx1 o
 simp only[hx1,r0,nxk,Ev.upd_upd,↓DD,UU,↓reduceIte,xA,xB,xC,xD,xE,xF,xG,xH,xI,xJ,xK,xL,xM,xN,xO,xP,xQ,ne_eq]
 have hS:=hS.sel 5 [1,2,0,4] (by decide) (by decide)
 refine loop_intro (awP sh ws y z k n cap a (h :: l)) (fun F' _=>(sh.p - iv (gt F' 24)).toNat) ⟨0,by omega,by simp [gt],⟨by simp [gt],by simp [gt],by simp [gt],by simp [gt]⟩,hS⟩ ?_
 clear hS hx1 r1 hz1 r0
 rintro F' H' ⟨p,hp,e24,⟨e23,e6,e5,e4⟩,hS⟩
 have hk1:=hS.lk 2 rfl
 have hz1:=hS.lk 1 rfl
 have hy1:=hS.look
 have r1:=fun o n=>rdn_of hk1 o n
 have ryn:=fun o n=>rdn_of hy1 o n
 by_cases hlt:(p:Int)<sh.p
 rotate_left
 ·have d1:decide ((p:Int)<sh.p)=false:=decide_eq_false hlt
  have hpp:sh.p.toNat=p:=by omega
  rw[hpp]
  have hS:=hS.p1.set (.cells (awC (Cn.all (livW sh ws) sh ws p)) 41 (0,0))
  have hz2:=hS.look
  have rzn:=fun o n=>rdn_of hz2 o n
  unfold awC at hz2 rzn
  simp only[awC,Cn.z]at hz1
  simp only[e24,e23,e6,e5,e4,d1,hy1,hz1,hz2,ryn,rzn,awC,nyz,nzy,↓DD,UU,↓reduceIte,xA,xB,xC,xD,xE,xF,xG,xH,xI,xJ,xK,xL,xM,xN,xO,xP,xQ,ne_eq]
  exact hS.tail.tail.tail
 have d1:decide ((p:Int)<sh.p)=true:=decide_eq_true hlt
 have wi:w64 ((p:Int)+1)=(p:Int)+1:=w64_eq (by omega) (by omega)
 have hb2:=Cn.all_bd (liv:=livW sh ws) (s:=sh) (ws:=ws) p
 obtain⟨c0,hc0⟩:∃ c0,Cn.all (livW sh ws) sh ws p=c0:=⟨_,rfl⟩
 have hnx:Cn.all (livW sh ws) sh ws (p+1)=Cn.page (livW sh ws) sh ws p c0:=by rw[← hc0];rfl
 rw[hc0]at hS hy1 hb2
 have hbig:c0.Bd 90000:=hb2.mono (by omega)
 have hbig2:c0.Bd 100000:=hb2.mono (by omega)
 unfold Cn.Bd at hb2
 have w1:w64 (c0.fr+64)=c0.fr+64:=w64_eq (by omega) (by omega)
 have w2:w64 (c0.ta+64)=c0.ta+64:=w64_eq (by omega) (by omega)
 simp only[e24,e23,e6,e5,e4,d1,hk1,r1,↓DD,UU,↓reduceIte,xA,xB,xC,xD,xE,xF,xG,xH,xI,xJ,xK,xL,xM,xN,xO,xP,xQ,ne_eq]
 refine callT_of (c_bpage p hm hn hr hU (by omega) hlt (hS.sel 4 [3,0,1,2] (by decide) (by decide))) ?_
 rintro v H' ⟨rfl,hS⟩
 obtain⟨X,hX⟩:∃ X,pgAt sh ws p=X:=⟨_,rfl⟩
 have hk1:=hS.lk 3 rfl
 have hy1:=hS.lk 1 rfl
 have r1:=fun o n=>rdn_of hk1 o n
 have ry:=fun o=>rd_of hy1 o
 simp only[e24,e23,e6,e5,e4,hX,↓DD,UU,↓reduceIte,xA,xB,xC,xD,xE,xF,xG,xH,xI,xJ,xK,xL,xM,xN,xO,xP,xQ,ne_eq]
 refine newB_intro fun t ht f9 f10=>?_
 have nkt:(k=t)=False:=f9 k (by rw[hk1];rfl)
 have ntk:(t=k)=False:=f10 k (by rw[hk1];rfl)
 have nyt:(y=t)=False:=f9 y (by rw[hy1];rfl)
 have nty:(t=y)=False:=f10 y (by rw[hy1];rfl)
 have hS:=hS.new f9 (.cells #[.int .i64 (pgK sh p X),.int .i64 (pgA sh p X),.int .i64 (pgB sh p X)] 107 (0,0))
 simp only[e24,e23,e6,e5,e4,hX,hk1,r1,nkt,ntk,nyt,nty,Ev.upd_upd,↓DD,UU,↓reduceIte,xA,xB,xC,xD,xE,xF,xG,xH,xI,xJ,xK,xL,xM,xN,xO,xP,xQ,ne_eq]
 refine callT_of (c_bholder p hm hn hr hU (by omega) hlt (hS.sel 5 [1,2,3,4,0] (by decide) (by decide))) ?_
 rintro v H' ⟨rfl,hS⟩
 have hk1:=hS.lk 3 rfl
 have hy1:=hS.lk 1 rfl
 have ht1:=hS.lk 4 rfl
 have rt:=fun o=>rd_of ht1 o
 have ry:=fun o=>rd_of hy1 o
 have r1:=fun o n=>rdn_of hk1 o n
 obtain⟨hd,hhd⟩:∃ hd,Cn.held sh ws p=hd:=⟨_,rfl⟩
 obtain⟨wh,hwh⟩:∃ wh,Cn.who sh ws p=wh:=⟨_,rfl⟩
 have hpg:Cn.page (livW sh ws) sh ws p c0=(if okPg sh p X=true∧pgK sh p X=0 then { c0 with fr:=c0.fr+64 } else if hd=true∧livW sh ws wh=true then { c0 with li:=c0.li+64 } else if hd=true∨okPg sh p X=false then { c0 with lo:=c0.lo+64 } else if pgK sh p X=2 then Cn.slots (livW sh ws) sh ws p (pgA sh p X) c0 (slots (pgA sh p X)).toNat else { c0 with ta:=c0.ta+64 }):=by
  unfold Cn.page;rw[hhd,hwh,hX]
 have hK0:pgK sh p X=0→hd=false:=fun g=>by
  rw[← hhd]
  unfold Cn.held Cn.at'
  rw[hX,g]
  simp only[show ¬ ((0:Int)=4) by decide,if_false]
  rw[hX,g];rfl
 have fin:∀ (c1:Cn) (F2:Fr) (H2:Hp),Cn.page (livW sh ws) sh ws p c0=c1→Sep (awB y c1 :: h :: awB z Cn.z :: sg k (.cells #[.int .i64 sh.p,.int .i64 sh.c,.int .i64 sh.m,.slice a n cap] 104 (0,0)) :: sg t (.cells #[.int .i64 (pgK sh p X),.int .i64 (pgA sh p X),.int .i64 (pgB sh p X)] 107 (0,0)) :: l) H2 →
   gt F2 24=.int .i64 ((p:Int)+1)→(gt F2 23=.int .i64 sh.p∧gt F2 6=.pointer (some ⟨k,0,none⟩)∧gt F2 5=.pointer (some ⟨y,0,none⟩)∧gt F2 4=.pointer (some ⟨z,0,none⟩)) →
   awP sh ws y z k n cap a (h :: l) F2 H2:=fun c1 F2 H2 e h2 g24 g=>by
  refine⟨p+1,by omega,by rw[g24];congr 1,g,?_⟩
  rw[hnx,e]
  exact h2.sel 5 [0,2,3,1] (by decide) (by decide)
 simp only[e24,e23,e6,e5,e4,hX,hhd,hwh,↓DD,UU,↓reduceIte,xA,xB,xC,xD,xE,xF,xG,xH,xI,xJ,xK,xL,xM,xN,xO,xP,xQ,ne_eq]
 cases hd
 ·cases hok:okPg sh p X
  ·have hn1:Cn.page (livW sh ws) sh ws p c0=(if false then { c0 with li:=c0.li+64 } else { c0 with lo:=c0.lo+64 }):=by rw[hpg];simp [hok]
   simp only[e24,e23,e6,e5,e4,hok,Bool.false_eq_true,if_false,↓DD,UU,↓reduceIte,xA,xB,xC,xD,xE,xF,xG,xH,xI,xJ,xK,xL,xM,xN,xO,xP,xQ,ne_eq]
   refine callT_of (c_cadd false 64 hbig2 (by decide) (hS.sel 5 [1,0,2,3,4] (by decide) (by decide))) ?_
   rintro v H' ⟨rfl,hS⟩
   simp only[e24,e23,e6,e5,e4,wrap_w64,wi,↓DD,UU,↓reduceIte,xA,xB,xC,xD,xE,xF,xG,xH,xI,xJ,xK,xL,xM,xN,xO,xP,xQ,ne_eq]
   exact⟨fin _ _ _ hn1 hS (by simp [gt]) ⟨by simp [gt,e23],by simp [gt,e6],by simp [gt,e5],by simp [gt,e4]⟩,by simp [gt,iv,e24];omega⟩
  by_cases k0:pgK sh p X=0
  ·have g0:(pgK sh p X == 0)=true:=beq_iff_eq.2 k0
   have hn1:Cn.page (livW sh ws) sh ws p c0 = { c0 with fr:=c0.fr+64 }:=by rw[hpg];simp [hok,k0]
   simp only[e24,e23,e6,e5,e4,hok,g0,hy1,ry,ht1,rt,nyt,nty,awC,wrap_w64,w1,wi,Bool.false_eq_true,if_false,Ev.upd_upd,↓DD,UU,↓reduceIte,xA,xB,xC,xD,xE,xF,xG,xH,xI,xJ,xK,xL,xM,xN,xO,xP,xQ,ne_eq]
   exact⟨fin _ _ _ hn1 ((hS.sel 5 [1,0,2,3,4] (by decide) (by decide)).set _) (by simp [gt]) ⟨by simp [gt,e23],by simp [gt,e6],by simp [gt,e5],by simp [gt,e4]⟩,by simp [gt,iv,e24];omega⟩
  have g0:(pgK sh p X == 0)=false:=beq_eq_false_iff_ne.2 k0
  by_cases k2:pgK sh p X=2
  ·have g2:(pgK sh p X == 2)=true:=beq_iff_eq.2 k2
   have hn1:Cn.page (livW sh ws) sh ws p c0=Cn.slots (livW sh ws) sh ws p (pgA sh p X) c0 (slots (pgA sh p X)).toNat:=by rw[hpg];simp [hok,k2]
   simp only[e24,e23,e6,e5,e4,hok,g0,g2,hk1,r1,hy1,ry,ht1,rt,nyt,nty,wrap_w64,wi,Bool.false_eq_true,if_false,Ev.upd_upd,↓DD,UU,↓reduceIte,xA,xB,xC,xD,xE,xF,xG,xH,xI,xJ,xK,xL,xM,xN,xO,xP,xQ,ne_eq]
   refine callT_of (c_bslots p (pgA sh p X) c0 (by omega) hlt hbig hm hn hr hU (hS.sel 5 [1,0,2,3,4] (by decide) (by decide))) ?_
   rintro v H' ⟨rfl,hS⟩
   simp only[e24,e23,e6,e5,e4,wrap_w64,wi,↓DD,UU,↓reduceIte,xA,xB,xC,xD,xE,xF,xG,xH,xI,xJ,xK,xL,xM,xN,xO,xP,xQ,ne_eq]
   exact⟨fin _ _ _ hn1 hS (by simp [gt]) ⟨by simp [gt,e23],by simp [gt,e6],by simp [gt,e5],by simp [gt,e4]⟩,by simp [gt,iv,e24];omega⟩
  have g2:(pgK sh p X == 2)=false:=beq_eq_false_iff_ne.2 k2
  have hn1:Cn.page (livW sh ws) sh ws p c0 = { c0 with ta:=c0.ta+64 }:=by rw[hpg];simp [hok,k0,k2]
  simp only[e24,e23,e6,e5,e4,hok,g0,g2,hy1,ry,ht1,rt,nyt,nty,awC,wrap_w64,w2,wi,Bool.false_eq_true,if_false,Ev.upd_upd,↓DD,UU,↓reduceIte,xA,xB,xC,xD,xE,xF,xG,xH,xI,xJ,xK,xL,xM,xN,xO,xP,xQ,ne_eq]
  exact⟨fin _ _ _ hn1 ((hS.sel 5 [1,0,2,3,4] (by decide) (by decide)).set _) (by simp [gt]) ⟨by simp [gt,e23],by simp [gt,e6],by simp [gt,e5],by simp [gt,e4]⟩,by simp [gt,iv,e24];omega⟩
 ·have hk0:pgK sh p X≠0:=fun g=>by have:=hK0 g;cases this
  have hn1:Cn.page (livW sh ws) sh ws p c0=(if livW sh ws wh then { c0 with li:=c0.li+64 } else { c0 with lo:=c0.lo+64 }):=by
   rw[hpg,if_neg fun g=>hk0 g.2]
   cases hl:livW sh ws wh<;>simp
  simp only[e24,e23,e6,e5,e4,hk1,r1,if_true,↓DD,UU,↓reduceIte,xA,xB,xC,xD,xE,xF,xG,xH,xI,xJ,xK,xL,xM,xN,xO,xP,xQ,ne_eq]
  refine callT_of (c_blives wh hm hn hr hU hS) ?_
  rintro v H' ⟨rfl,hS⟩
  simp only[e24,e23,e6,e5,e4,↓DD,UU,↓reduceIte,xA,xB,xC,xD,xE,xF,xG,xH,xI,xJ,xK,xL,xM,xN,xO,xP,xQ,ne_eq]
  refine callT_of (c_cadd _ 64 hbig2 (by decide) (hS.sel 5 [1,0,2,3,4] (by decide) (by decide))) ?_
  rintro v H' ⟨rfl,hS⟩
  simp only[e24,e23,e6,e5,e4,wrap_w64,wi,↓DD,UU,↓reduceIte,xA,xB,xC,xD,xE,xF,xG,xH,xI,xJ,xK,xL,xM,xN,xO,xP,xQ,ne_eq]
  exact⟨fin _ _ _ hn1 hS (by simp [gt]) ⟨by simp [gt,e23],by simp [gt,e6],by simp [gt,e5],by simp [gt,e4]⟩,by simp [gt,iv,e24];omega⟩
end
end Go.Proofs.YtkjpgikjcfhckaaGreat
namespace Go.Ma

def cnt (p:Nat→Bool):Nat→Nat
 | 0=>0
 | n+1=>cnt p n+(if p n then 1 else 0)
def but (p:Nat→Bool) (k:Nat):Nat→Bool:=fun i=>p i && !(i == k)
end Go.Ma
namespace Go.Proofs.YtkjpgikjcfhckaaGreat
open Go Go.Ev Go.Ma

def brow (n:Nat) (bs:Nat→Bool):Array Value:=Array.ofFn (n:=n) fun j=>.bool (bs j.val)
def irow (n:Nat) (ms:Nat→Int):Array Value:=Array.ofFn (n:=n) fun j=>.int .i64 (ms j.val)
end Go.Proofs.YtkjpgikjcfhckaaGreat
set_option maxRecDepth 8000
namespace Go.Proofs.YtkjpgikjcfhckaaGreat
open Go Go.Ev Go.Pl Go.Ma
section
variable {W:World} {H h:Hp} {l:List Hp} {n cap:Nat} {a:Option Addr} {ws:Nat→Int} {sh:Sh}
def ahC (sh:Sh) (ws:Nat→Int) (q i:Int) (L:List Hp) (F':Fr) (H':Hp):Prop:=
 ∃ z,gt F' 17=.pointer (some ⟨z,0,none⟩)∧Sep (sg z (.cells #[.int .i64 (slK (slAt sh ws q i)),.int .i64 (slA (slAt sh ws q i))] 128 (0,0)) :: L) H'
end
end Go.Proofs.YtkjpgikjcfhckaaGreat
namespace Go.Proofs.YtkjpgikjcfhckaaGreat
open Go Go.Ev Go.Pl Go.Ma

def Gr (T:TypeId) (a:Option Addr) (n cap:Nat) (vs:Nat→Value) (g:Hp):Prop:=
 (a=none∧n=0∧cap=0∧g=fun _=>none) ∨
 ∃ z c,a=some ⟨z,0,none⟩∧g=sg z (.cells c T (0,0))∧n≤cap∧cap≤c.size∧∀ i,i<n→c[i]? = some (vs i)
theorem Gr.none (T:TypeId) (vs:Nat→Value):Gr T Option.none 0 0 vs fun _=>Option.none:=.inl ⟨rfl,rfl,rfl,rfl⟩
theorem Gr.row {T:TypeId} {a:Option Addr} {n cap:Nat} {ws:Nat→Int} {g:Hp} (h:Gr T a n cap (fun i=>.int .u64 (ws i)) g):RowU g a n ws:=by
 rcases h with⟨-,h,-,-⟩|⟨z,c,rfl,rfl,h1,h2,h3⟩
 ·exact .inl h
 ·exact .inr ⟨z,0,rfl,fun i hi=>by rw[rd_of (sg_at _ _),Nat.zero_add,h3 i hi]⟩
theorem Gr.rd {T:TypeId} {a:Option Addr} {n cap:Nat} {vs:Nat→Value} {g H:Hp} {l:List Hp} (h:Gr T a n cap vs g) (hS:Sep l H) (hm:g∈l) {i:Nat} (hi:i<n):∃ z,a=some ⟨z,0,Option.none⟩∧Ev.rd H z i=some (vs i):=by
 rcases h with⟨-,h,-,-⟩|⟨z,c,rfl,rfl,h1,h2,h3⟩
 ·omega
 ·exact⟨z,rfl,by rw[rd_of (hS.sb _ hm z _ (sg_at _ _)),h3 i hi]⟩

theorem grow {W:World} {H g:Hp} {l:List Hp} {T:TypeId} {a:Option Addr} {n cap bytes:Nat} {vs:Nat→Value} {v z0:Value} {K1:Hp→Prop} {K2:Array Value→Nat→Nat→Prop}
  (hG:Gr T a n cap vs g) (hv:v.oneCell'=true) (hn:n+1≤1000000000) (hb:bytes≤8) (hS:Sep (g :: l) H)
  (h1:∀ g2 H',Gr T a (n+1) cap (fun j=>if j=n then v else vs j) g2→Sep (g2 :: l) H'→K1 H')
  (h2:∀ old cap2 b,Gr T (some ⟨b,0,none⟩) (n+1) cap2 (fun j=>if j=n then v else vs j) (sg b (.cells (old ++ #[v] ++ Builtin.zeroCells #[z0] (cap2 - (n+1))) T (0,0))) →
   Sep (sg b (.cells (old ++ #[v] ++ Builtin.zeroCells #[z0] (cap2 - (n+1))) T (0,0)) :: l) (upd H b (.cells (old ++ #[v] ++ Builtin.zeroCells #[z0] (cap2 - (n+1))) T (0,0)))→K2 old cap2 b) :
  if n+1≤cap then stow H a n #[v] K1
  else Builtin.nextslicecap (n+1) cap*bytes≤281474976710656∧n≤9223372036854775806∧onSome (rds H a n) fun old=>allCap (n+1) fun cap=>newB W H fun b=>K2 old cap b:=by
 split
 ·rename_i hroom
  rcases hG with⟨rfl,rfl,rfl,rfl⟩|⟨z,c,rfl,rfl,h4,h5,h3⟩
  ·omega
  have hz:=hS.look
  unfold stow
  rw[if_neg (by simp)]
  show onCells (H z) _
  rw[hz]
  refine⟨by simp;omega,by simp [hv],?_⟩
  refine h1 _ _ (.inr ⟨z,setN c (0+n) [v],rfl,rfl,by omega,by simp [setN];omega,fun i hi=>?_⟩) (hS.set _)
  have e:setN c (0+n) [v] = c.setIfInBounds n v:=by rw[Nat.zero_add];rfl
  rw[e]
  show _=some (if i=n then v else vs i)
  by_cases hin:i=n
  ·subst hin;rw[Array.getElem?_setIfInBounds_self_of_lt (by omega),if_pos rfl]
  ·rw[Array.getElem?_setIfInBounds_ne (by omega),if_neg hin];exact h3 i (by omega)
 ·rename_i hroom
  obtain⟨old,hold,hsz,hat⟩:∃ old:Array Value,rds H a n=some old∧old.size=n∧∀ i,i<n→old[i]? = some (vs i):=by
   rcases hG with⟨rfl,rfl,rfl,rfl⟩|⟨z,c,rfl,rfl,h4,h5,h3⟩
   ·exact⟨#[],rfl,rfl,fun i hi=>by omega⟩
   ·cases n with
    | zero=>exact⟨#[],rfl,rfl,fun i hi=>by omega⟩
    |succ m=>
     refine⟨c.extract 0 (0+(m+1)),?_,by simp;omega,fun i hi=>?_⟩
     ·show rdn H z 0 (m+1)=_
      rw[rdn_of hS.look,if_pos (by omega)]
     ·rw[Array.getElem?_extract,if_pos (by omega),Nat.zero_add];exact h3 i hi
  have hc:=nextslicecap_le (need:=n+1) (old:=cap) (by omega)
  have g1:Builtin.nextslicecap (n+1) cap*bytes≤281474976710656:=Nat.le_trans (Nat.mul_le_mul_left _ hb) (by omega)
  refine⟨g1,by omega,?_⟩
  rw[hold]
  intro cap2 hc2
  refine newB_intro fun b hb0 f1 f2=>?_
  refine h2 _ _ _ (.inr ⟨b,_,rfl,rfl,hc2,?_,fun i hi=>?_⟩) ((hS.tail.new f1 _))
  ·have e:(Builtin.zeroCells #[z0] (cap2 - (n+1))).size=cap2 - (n+1):=by simp [Builtin.zeroCells]
   simp only[Array.size_append,hsz,e]
   show cap2≤n+1+_
   omega
  ·rw[Array.append_assoc]
   show _=some (if i=n then v else vs i)
   by_cases hin:i=n
   ·subst hin;rw[Array.getElem?_append_right (by omega),if_pos rfl,hsz,Nat.sub_self,Array.getElem?_append_left (by simp)];rfl
   ·rw[Array.getElem?_append_left (by omega),if_neg hin];exact hat i (by omega)
end Go.Proofs.YtkjpgikjcfhckaaGreat
