/-
 AdoptCuts, walked: one is killed at any step, and adopted. Conditions: none.
-/
import Derived.Test.YtbcdaglbdnkocaaGreatCodeX
import Derived.Test.YtbcdaglbdnkocaaGreatCliA
import Derived.Test.YtbcdaglbdnkocaaGreatAdoptK
import Derived.Test.YtbcdaglbdnkocaaGreatMaSo
import Derived.Test.YtbcdaglbdnkocaaGreatSoundA
import Derived.Test.YtbcdaglbdnkocaaGreatRowA
import Derived.Test.YtbcdaglbdnkocaaGreatAuL
open Nat renaming reduceAdd→xA,reduceMul→xB,reduceSub→xC,reduceEqDiff→xD,reduceBEq→xE,reduceLeDiff→xF,reduceLT→xG
open Int renaming reduceAdd→xH,reduceMul→xI,reduceSub→xJ,reduceLT→xK,reduceLE→xL,reduceToNat→xM,reduceEq→xN,reduceNe→xO,reduceBEq→xP,reduceBNe→xQ
set_option linter.unusedVariables false
set_option linter.unusedSectionVars false
set_option linter.unusedSimpArgs false
set_option maxRecDepth 8000
namespace Go.Proofs.YtbcdaglbdnkocaaGreat
open Go Go.Ev Go.Pl Go.Ma
theorem ac_and1 (d:Int):0≤bits .and .i64 d 1∧bits .and .i64 d 1≤1:=by
 unfold bits
 have e:(BitVec.ofInt IntKind.i64.bits d &&& BitVec.ofInt IntKind.i64.bits 1).toNat≤1:=by
  rw[BitVec.toNat_and]
  exact Nat.and_le_right
 simp only
 rw[wrap_w64,w64_eq (by omega) (by omega)]
 omega
theorem ac_left_le {t:Ad} (h:t.wf) (hp:0≤t.s.p∧0≤t.s.m):t.left≤54*t.s.p+t.s.m+4:=by
 cases hd:t.dn
 ·obtain⟨hm,he,hcd,ar⟩:=h.of hd
  unfold Ad.Ar at ar
  have sb:=slots_bd t.pA
  rcases (by omega:t.nx=0∨t.nx=1∨t.nx=2∨t.nx=3∨t.nx=4∨t.nx=5∨t.nx=6∨t.nx=7∨t.nx=8∨t.nx=9∨t.nx=10∨t.nx=11∨t.nx=12∨t.nx=13) with hn | hn | hn | hn | hn | hn | hn | hn | hn | hn | hn | hn | hn | hn<;>rw[Ad.left_eq hd hn]
  ·show 54*t.s.p+t.s.m+4≤_;omega
  ·show 54*t.s.p+t.s.m+3≤_;omega
  ·show 54*t.s.p+t.s.m+2≤_;omega
  ·show 3*(t.s.p - t.at')+51*t.s.p+t.s.m+1≤_;omega
  ·show 3*(t.s.p - t.at')+51*t.s.p+t.s.m≤_;omega
  ·show 3*(t.s.p - t.at')+51*t.s.p+t.s.m - 1≤_;omega
  ·show 18*(t.s.p - t.at')+33*t.s.p+t.s.m+1≤_;omega
  ·show 18*(t.s.p - t.at')+33*t.s.p+t.s.m - t.i≤_;omega
  ·show 18*(t.s.p - t.at')+33*t.s.p+t.s.m - 16≤_;omega
  ·show t.s.m - t.i+33*t.s.p+1≤_;omega
  ·show 33*(t.s.p - t.at')+1≤_;omega
  ·show 33*(t.s.p - t.at') - 32+2*(slots t.pA - t.i)≤_;omega
  ·show 33*(t.s.p - t.at') - 33+2*(slots t.pA - t.i)≤_;omega
  ·show(1:Int)≤_;omega
 ·rw[Ad.left_0 hd];omega
theorem ac_left {t:Ad} {w:Wd} {m:Int} (h:t.wf) (hl:t.left≤max 0 m):(t.step w).1.left≤max 0 (m - 1):=by
 cases hd:t.dn
 ·have:=Ad.step_left (w:=w) h hd;omega
 ·rw[Ad.step_dn hd]
  have:=Ad.left_0 hd
  show t.left≤_;omega

theorem ac_row {sh:Sh} {n:Nat} {ws:Nat→Int} (hm:may sh.p sh.c sh.m=true) (hn:(n:Int)=words sh.p sh.c sh.m) (h:Snd sh ws):Snd sh (rowW n ws).ws:=by
 have hb:=(may_iff _ _ _).1 hm
 have hw:=words_ge hm hn
 have key:∀ j:Nat,j<n→(rowW n ws).ws j=ws j:=fun j hj=>if_pos hj
 refine h.congr hm (fun q q0 q1=>?_) (fun q i q0 q1 i0 i1=>?_) (fun c i c0 c1 i0 i1=>?_)
 ·unfold pgAt;rw[page_yes hm q0 q1];exact key _ (by omega)
 ·unfold slAt;exact key _ (by omega)
 ·have:=Int.mul_le_mul_of_nonneg_right (by omega:c+1≤sh.c) (by omega:0≤sh.m)
  rw[Int.add_mul]at this
  have:=Int.mul_nonneg c0 (by omega:0≤sh.m)
  unfold mgAt;exact key _ (by omega)
def acN (d:Bool) (p:Hp):Hp:=if d then p else fun _=>none
theorem ac_nd {P:Program} {W:World} {R:List (Nat×Array Value×List Nat)} {S C:Fr→Hp→Prop} {d:Option Nat} {m:MO} {r more:ST} (hop:∀ F H,S F H→m.wp P W F H fun v H'=>hold R H'∧dwp P W R r C (putD F d v) H') (hm:∀ F H,S F H→dwp P W R more C F H):∀ F H,S F H→dwp P W R (.alt false ⟨d,m,none⟩ r more) C F H:=fun F H h=>by
 have e:(fun v H'=>(false=true∨hold R H')∧dwp P W R r C (putD F d v) H')=fun v H'=>hold R H'∧dwp P W R r C (putD F d v) H':=by funext v H';simp
 show guarded F none (m.wp P W F H (fun v H'=>(false=true∨hold R H')∧dwp P W R r C (putD F d v) H')) (dwp P W R r C (putD F d undef) H)∧dwp P W R more C F H
 rw[e]
 exact⟨hop F H h,hm F H h⟩
theorem ac_stop {P:Program} {W:World} {R:List (Nat×Array Value×List Nat)} {S C:Fr→Hp→Prop}:∀ F H,S F H→dwp P W R .stop C F H:=fun _ _ _=>trivial
def acpD (sh:Sh) (X:Cn) (w:Wd) (x b s:Nat) (kv:Nat→Value) (L:List Hp) (F':Fr) (H':Hp):Prop:=
 ∃ (y1:Nat),(gt F' 3=kv 3∧gt F' 10=kv 10∧gt F' 11=kv 11)∧gt F' 12=.pointer (some ⟨y1,0,none⟩)∧Sep (sg y1 (.cells (auC X) 54 (0,0)) :: wB b s w :: wR s w :: L) H'
def acpS (sh:Sh) (X:Cn) (w:Wd) (x b s:Nat) (kv:Nat→Value) (L:List Hp) (d1 d2 d3:Bool) (F':Fr) (H':Hp):Prop:=
 ∃ (a3:Option Addr) (cap3:Nat) (h3:Hp) (y1:Nat),(gt F' 102=.agg #[.int .i64 sh.p,.int .i64 sh.c,.int .i64 sh.m]∧gt F' 103=.pointer (some ⟨b,0,none⟩))∧(gt F' 3=kv 3∧gt F' 10=kv 10∧gt F' 11=kv 11) ∧
  (d1=true→gt F' 104=.slice a3 w.n cap3∧RowU h3 a3 w.n w.ws)∧(d2=true→gt F' 105=cnV X)∧(d3=true→gt F' 12=.pointer (some ⟨y1,0,none⟩)) ∧
  Sep (acN d1 h3 :: acN d3 (sg y1 (.cells #[.int .i64 0,.int .i64 0,.int .i64 0,.int .i64 0] 54 (0,0))) :: wB b s w :: wR s w :: L) H'
theorem acp_a {W:World} {sh:Sh} {X:Cn} {w:Wd} {x b s:Nat} {kv:Nat→Value} {L:List Hp} (hx:∀ H Q,Sep (Q ++ L) H→H x=some (.cells #[.int .i64 sh.p,.int .i64 sh.c,.int .i64 sh.m] 23 (0,0))) (hwn:w.n≤2000):∀ (d2 d3:Bool) (r more:ST),(∀ F H,acpS sh X w x b s kv L true d2 d3 F H→dwp Tryz.prog W [(x,#[.int .i64 sh.p,.int .i64 sh.c,.int .i64 sh.m],[])] r (acpD sh X w x b s kv L) F H)→(∀ F H,acpS sh X w x b s kv L false d2 d3 F H→dwp Tryz.prog W [(x,#[.int .i64 sh.p,.int .i64 sh.c,.int .i64 sh.m],[])] more (acpD sh X w x b s kv L) F H)→∀ F H,acpS sh X w x b s kv L false d2 d3 F H→dwp Tryz.prog W [(x,#[.int .i64 sh.p,.int .i64 sh.c,.int .i64 sh.m],[])] (.alt false ⟨(some 104),(.call 17 [.tmp 103]),none⟩ r more) (acpD sh X w x b s kv L) F H:=by
 intro d2 d3 r more h1 h2
 refine ac_nd (fun F H hs=>?_) h2
 obtain⟨a3,cap3,h3,y1,⟨g1,g2⟩,⟨q0,q1,q2⟩,k1,k2,k3,hS⟩:=hs
 simp only[g2,↓DD,UU,↓reduceIte,xA,xB,xC,xD,xE,xF,xG,xH,xI,xJ,xK,xL,xM,xN,xO,xP,xQ,ne_eq,eq_self]
 refine callT_of (c_all (w:=w) hwn hS.p3.p3) ?_
 rintro v H' ⟨a4,cap4,h4,rfl,hr4,hS⟩
 have hS:=hS.p3.tail.p3.p1
 have hx1:=hx H' [_,_,_,_] hS
 exact⟨by simp only[hx1,↓DD,UU,↓reduceIte,xA,xB,xC,xD,xE,xF,xG,xH,xI,xJ,xK,xL,xM,xN,xO,xP,xQ,ne_eq,eq_self],h1 _ _ ⟨a4,cap4,h4,y1,⟨by simp [putD,gt,g1],by simp [putD,gt,g2]⟩,⟨by simp [putD,gt,q0],by simp [putD,gt,q1],by simp [putD,gt,q2]⟩,fun _=>⟨by simp [putD,gt],hr4⟩,fun e=>by simp [putD,gt,k2 e],fun e=>by simp [putD,gt,k3 e],hS⟩⟩
theorem acp_b {W:World} {sh:Sh} {X:Cn} {w:Wd} {x b s:Nat} {kv:Nat→Value} {L:List Hp} (hx:∀ H Q,Sep (Q ++ L) H→H x=some (.cells #[.int .i64 sh.p,.int .i64 sh.c,.int .i64 sh.m] 23 (0,0))) (hm:may sh.p sh.c sh.m=true) (hnW:((w.n:Nat):Int)=words sh.p sh.c sh.m) (aw:w.of sh) (hX:Cn.all (livF sh w.ws) sh w.ws sh.p.toNat=X):∀ (d3:Bool) (r more:ST),(∀ F H,acpS sh X w x b s kv L true true d3 F H→dwp Tryz.prog W [(x,#[.int .i64 sh.p,.int .i64 sh.c,.int .i64 sh.m],[])] r (acpD sh X w x b s kv L) F H)→(∀ F H,acpS sh X w x b s kv L true false d3 F H→dwp Tryz.prog W [(x,#[.int .i64 sh.p,.int .i64 sh.c,.int .i64 sh.m],[])] more (acpD sh X w x b s kv L) F H)→∀ F H,acpS sh X w x b s kv L true false d3 F H→dwp Tryz.prog W [(x,#[.int .i64 sh.p,.int .i64 sh.c,.int .i64 sh.m],[])] (.alt false ⟨(some 105),(.call 16 [.tmp 102,.tmp 104]),none⟩ r more) (acpD sh X w x b s kv L) F H:=by
 intro d3 r more h1 h2
 refine ac_nd (fun F H hs=>?_) h2
 obtain⟨a3,cap3,h3,y1,⟨g1,g2⟩,⟨q0,q1,q2⟩,k1,k2,k3,hS⟩:=hs
 obtain⟨k1a,k1b⟩:=k1 rfl
 simp only[g1,k1a,↓DD,UU,↓reduceIte,xA,xB,xC,xD,xE,xF,xG,xH,xI,xJ,xK,xL,xM,xN,xO,xP,xQ,ne_eq,eq_self]
 refine callT_of (c_audit (sh:=sh) (c_livesV hm hnW k1b fun i _=>aw.u i) hm hnW k1b (fun i _=>aw.u i) hS) ?_
 rintro v H' ⟨rfl,hS⟩
 have hx1:=hx H' [_,_,_,_] hS
 rw[hX]
 exact⟨by simp only[hx1,↓DD,UU,↓reduceIte,xA,xB,xC,xD,xE,xF,xG,xH,xI,xJ,xK,xL,xM,xN,xO,xP,xQ,ne_eq,eq_self],h1 _ _ ⟨a3,cap3,h3,y1,⟨by simp [putD,gt,g1],by simp [putD,gt,g2]⟩,⟨by simp [putD,gt,q0],by simp [putD,gt,q1],by simp [putD,gt,q2]⟩,fun _=>⟨by simp [putD,gt,k1a],k1b⟩,fun _=>by simp [putD,gt],fun e=>by simp [putD,gt,k3 e],hS⟩⟩
theorem acp_c {W:World} {sh:Sh} {X:Cn} {w:Wd} {x b s:Nat} {kv:Nat→Value} {L:List Hp} (hx:∀ H Q,Sep (Q ++ L) H→H x=some (.cells #[.int .i64 sh.p,.int .i64 sh.c,.int .i64 sh.m] 23 (0,0))):∀ (d1 d2:Bool) (r more:ST),(∀ F H,acpS sh X w x b s kv L d1 d2 true F H→dwp Tryz.prog W [(x,#[.int .i64 sh.p,.int .i64 sh.c,.int .i64 sh.m],[])] r (acpD sh X w x b s kv L) F H)→(∀ F H,acpS sh X w x b s kv L d1 d2 false F H→dwp Tryz.prog W [(x,#[.int .i64 sh.p,.int .i64 sh.c,.int .i64 sh.m],[])] more (acpD sh X w x b s kv L) F H)→∀ F H,acpS sh X w x b s kv L d1 d2 false F H→dwp Tryz.prog W [(x,#[.int .i64 sh.p,.int .i64 sh.c,.int .i64 sh.m],[])] (.alt false ⟨(some 12),(.alc 54 (.agg #[(.int .i64 0),(.int .i64 0),(.int .i64 0),(.int .i64 0)])),none⟩ r more) (acpD sh X w x b s kv L) F H:=by
 intro d1 d2 r more h1 h2
 refine ac_nd (fun F H hs=>?_) h2
 obtain⟨a3,cap3,h3,y1,⟨g1,g2⟩,⟨q0,q1,q2⟩,k1,k2,k3,hS⟩:=hs
 simp only[↓DD,UU,↓reduceIte,xA,xB,xC,xD,xE,xF,xG,xH,xI,xJ,xK,xL,xM,xN,xO,xP,xQ,ne_eq,eq_self]
 refine newB_intro fun y hy f5 f6=>?_
 have hS:=(hS.new f5 (.cells #[.int .i64 0,.int .i64 0,.int .i64 0,.int .i64 0] 54 (0,0))).p2.tail.p1
 have hx1:=hx _ [_,_,_,_] hS
 exact⟨by simp only[hx1,↓DD,UU,↓reduceIte,xA,xB,xC,xD,xE,xF,xG,xH,xI,xJ,xK,xL,xM,xN,xO,xP,xQ,ne_eq,eq_self],h1 _ _ ⟨a3,cap3,h3,y,⟨by simp [putD,gt,g1],by simp [putD,gt,g2]⟩,⟨by simp [putD,gt,q0],by simp [putD,gt,q1],by simp [putD,gt,q2]⟩,fun e=>⟨by simp [putD,gt,(k1 e).1],(k1 e).2⟩,fun e=>by simp [putD,gt,k2 e],fun _=>by simp [putD,gt],hS⟩⟩
theorem acp_l {W:World} {sh:Sh} {X:Cn} {w:Wd} {x b s:Nat} {kv:Nat→Value} {L:List Hp} (hx:∀ H Q,Sep (Q ++ L) H→H x=some (.cells #[.int .i64 sh.p,.int .i64 sh.c,.int .i64 sh.m] 23 (0,0))):∀ F H,acpS sh X w x b s kv L true true true F H→dwp Tryz.prog W [(x,#[.int .i64 sh.p,.int .i64 sh.c,.int .i64 sh.m],[])] (.alt true ⟨none,.stn 4 (.tmp 12) (.tmp 105),none⟩ .done .stop) (acpD sh X w x b s kv L) F H:=by
 intro F H hs
 obtain⟨a3,cap3,h3,y1,⟨g1,g2⟩,⟨q0,q1,q2⟩,k1,k2,k3,hS⟩:=hs
 have hS:Sep (h3 :: sg y1 _ :: wB b s w :: wR s w :: L) H:=hS
 have k2:=k2 rfl
 have k3:=k3 rfl
 have hy1:=hS.lk 1 rfl
 have hx1:=hx H [_,_,_,_] hS
 have hS:=hS.p1.set (.cells (auC X) 54 (0,0))
 have hS:=hS.p1.tail
 simp only[auC]at hS
 simp only[cnV,k2,k3,hy1,↓DD,UU,↓reduceIte,xA,xB,xC,xD,xE,xF,xG,xH,xI,xJ,xK,xL,xM,xN,xO,xP,xQ,ne_eq,eq_self]
 exact⟨y1,⟨q0,q1,q2⟩,k3,hS⟩
def acqD (sh:Sh) (X:Cn) (w:Wd) (x b s:Nat) (kv:Nat→Value) (L:List Hp) (F':Fr) (H':Hp):Prop:=
 ∃ (y1:Nat),(gt F' 3=kv 3∧gt F' 10=kv 10∧gt F' 11=kv 11∧gt F' 12=kv 12∧gt F' 13=kv 13)∧gt F' 18=.pointer (some ⟨y1,0,none⟩)∧Sep (sg y1 (.cells (auC X) 54 (0,0)) :: wB b s w :: wR s w :: L) H'
def acqS (sh:Sh) (X:Cn) (w:Wd) (x b s:Nat) (kv:Nat→Value) (L:List Hp) (d1 d2 d3:Bool) (F':Fr) (H':Hp):Prop:=
 ∃ (a3:Option Addr) (cap3:Nat) (h3:Hp) (y1:Nat),(gt F' 142=.agg #[.int .i64 sh.p,.int .i64 sh.c,.int .i64 sh.m]∧gt F' 143=.pointer (some ⟨b,0,none⟩))∧(gt F' 3=kv 3∧gt F' 10=kv 10∧gt F' 11=kv 11∧gt F' 12=kv 12∧gt F' 13=kv 13) ∧
  (d1=true→gt F' 144=.slice a3 w.n cap3∧RowU h3 a3 w.n w.ws)∧(d2=true→gt F' 145=cnV X)∧(d3=true→gt F' 18=.pointer (some ⟨y1,0,none⟩)) ∧
  Sep (acN d1 h3 :: acN d3 (sg y1 (.cells #[.int .i64 0,.int .i64 0,.int .i64 0,.int .i64 0] 54 (0,0))) :: wB b s w :: wR s w :: L) H'
theorem acq_a {W:World} {sh:Sh} {X:Cn} {w:Wd} {x b s:Nat} {kv:Nat→Value} {L:List Hp} (hx:∀ H Q,Sep (Q ++ L) H→H x=some (.cells #[.int .i64 sh.p,.int .i64 sh.c,.int .i64 sh.m] 23 (0,0))) (hwn:w.n≤2000):∀ (d2 d3:Bool) (r more:ST),(∀ F H,acqS sh X w x b s kv L true d2 d3 F H→dwp Tryz.prog W [(x,#[.int .i64 sh.p,.int .i64 sh.c,.int .i64 sh.m],[])] r (acqD sh X w x b s kv L) F H)→(∀ F H,acqS sh X w x b s kv L false d2 d3 F H→dwp Tryz.prog W [(x,#[.int .i64 sh.p,.int .i64 sh.c,.int .i64 sh.m],[])] more (acqD sh X w x b s kv L) F H)→∀ F H,acqS sh X w x b s kv L false d2 d3 F H→dwp Tryz.prog W [(x,#[.int .i64 sh.p,.int .i64 sh.c,.int .i64 sh.m],[])] (.alt false ⟨(some 144),(.call 17 [.tmp 143]),none⟩ r more) (acqD sh X w x b s kv L) F H:=by
 intro d2 d3 r more h1 h2
 refine ac_nd (fun F H hs=>?_) h2
 obtain⟨a3,cap3,h3,y1,⟨g1,g2⟩,⟨q0,q1,q2,q3,q4⟩,k1,k2,k3,hS⟩:=hs
 simp only[g2,↓DD,UU,↓reduceIte,xA,xB,xC,xD,xE,xF,xG,xH,xI,xJ,xK,xL,xM,xN,xO,xP,xQ,ne_eq,eq_self]
 refine callT_of (c_all (w:=w) hwn hS.p3.p3) ?_
 rintro v H' ⟨a4,cap4,h4,rfl,hr4,hS⟩
 have hS:=hS.p3.tail.p3.p1
 have hx1:=hx H' [_,_,_,_] hS
 exact⟨by simp only[hx1,↓DD,UU,↓reduceIte,xA,xB,xC,xD,xE,xF,xG,xH,xI,xJ,xK,xL,xM,xN,xO,xP,xQ,ne_eq,eq_self],h1 _ _ ⟨a4,cap4,h4,y1,⟨by simp [putD,gt,g1],by simp [putD,gt,g2]⟩,⟨by simp [putD,gt,q0],by simp [putD,gt,q1],by simp [putD,gt,q2],by simp [putD,gt,q3],by simp [putD,gt,q4]⟩,fun _=>⟨by simp [putD,gt],hr4⟩,fun e=>by simp [putD,gt,k2 e],fun e=>by simp [putD,gt,k3 e],hS⟩⟩
theorem acq_b {W:World} {sh:Sh} {X:Cn} {w:Wd} {x b s:Nat} {kv:Nat→Value} {L:List Hp} (hx:∀ H Q,Sep (Q ++ L) H→H x=some (.cells #[.int .i64 sh.p,.int .i64 sh.c,.int .i64 sh.m] 23 (0,0))) (hm:may sh.p sh.c sh.m=true) (hnW:((w.n:Nat):Int)=words sh.p sh.c sh.m) (aw:w.of sh) (hX:Cn.all (livF sh w.ws) sh w.ws sh.p.toNat=X):∀ (d3:Bool) (r more:ST),(∀ F H,acqS sh X w x b s kv L true true d3 F H→dwp Tryz.prog W [(x,#[.int .i64 sh.p,.int .i64 sh.c,.int .i64 sh.m],[])] r (acqD sh X w x b s kv L) F H)→(∀ F H,acqS sh X w x b s kv L true false d3 F H→dwp Tryz.prog W [(x,#[.int .i64 sh.p,.int .i64 sh.c,.int .i64 sh.m],[])] more (acqD sh X w x b s kv L) F H)→∀ F H,acqS sh X w x b s kv L true false d3 F H→dwp Tryz.prog W [(x,#[.int .i64 sh.p,.int .i64 sh.c,.int .i64 sh.m],[])] (.alt false ⟨(some 145),(.call 16 [.tmp 142,.tmp 144]),none⟩ r more) (acqD sh X w x b s kv L) F H:=by
 intro d3 r more h1 h2
 refine ac_nd (fun F H hs=>?_) h2
 obtain⟨a3,cap3,h3,y1,⟨g1,g2⟩,⟨q0,q1,q2,q3,q4⟩,k1,k2,k3,hS⟩:=hs
 obtain⟨k1a,k1b⟩:=k1 rfl
 simp only[g1,k1a,↓DD,UU,↓reduceIte,xA,xB,xC,xD,xE,xF,xG,xH,xI,xJ,xK,xL,xM,xN,xO,xP,xQ,ne_eq,eq_self]
 refine callT_of (c_audit (sh:=sh) (c_livesV hm hnW k1b fun i _=>aw.u i) hm hnW k1b (fun i _=>aw.u i) hS) ?_
 rintro v H' ⟨rfl,hS⟩
 have hx1:=hx H' [_,_,_,_] hS
 rw[hX]
 exact⟨by simp only[hx1,↓DD,UU,↓reduceIte,xA,xB,xC,xD,xE,xF,xG,xH,xI,xJ,xK,xL,xM,xN,xO,xP,xQ,ne_eq,eq_self],h1 _ _ ⟨a3,cap3,h3,y1,⟨by simp [putD,gt,g1],by simp [putD,gt,g2]⟩,⟨by simp [putD,gt,q0],by simp [putD,gt,q1],by simp [putD,gt,q2],by simp [putD,gt,q3],by simp [putD,gt,q4]⟩,fun _=>⟨by simp [putD,gt,k1a],k1b⟩,fun _=>by simp [putD,gt],fun e=>by simp [putD,gt,k3 e],hS⟩⟩
theorem acq_c {W:World} {sh:Sh} {X:Cn} {w:Wd} {x b s:Nat} {kv:Nat→Value} {L:List Hp} (hx:∀ H Q,Sep (Q ++ L) H→H x=some (.cells #[.int .i64 sh.p,.int .i64 sh.c,.int .i64 sh.m] 23 (0,0))):∀ (d1 d2:Bool) (r more:ST),(∀ F H,acqS sh X w x b s kv L d1 d2 true F H→dwp Tryz.prog W [(x,#[.int .i64 sh.p,.int .i64 sh.c,.int .i64 sh.m],[])] r (acqD sh X w x b s kv L) F H)→(∀ F H,acqS sh X w x b s kv L d1 d2 false F H→dwp Tryz.prog W [(x,#[.int .i64 sh.p,.int .i64 sh.c,.int .i64 sh.m],[])] more (acqD sh X w x b s kv L) F H)→∀ F H,acqS sh X w x b s kv L d1 d2 false F H→dwp Tryz.prog W [(x,#[.int .i64 sh.p,.int .i64 sh.c,.int .i64 sh.m],[])] (.alt false ⟨(some 18),(.alc 54 (.agg #[(.int .i64 0),(.int .i64 0),(.int .i64 0),(.int .i64 0)])),none⟩ r more) (acqD sh X w x b s kv L) F H:=by
 intro d1 d2 r more h1 h2
 refine ac_nd (fun F H hs=>?_) h2
 obtain⟨a3,cap3,h3,y1,⟨g1,g2⟩,⟨q0,q1,q2,q3,q4⟩,k1,k2,k3,hS⟩:=hs
 simp only[↓DD,UU,↓reduceIte,xA,xB,xC,xD,xE,xF,xG,xH,xI,xJ,xK,xL,xM,xN,xO,xP,xQ,ne_eq,eq_self]
 refine newB_intro fun y hy f5 f6=>?_
 have hS:=(hS.new f5 (.cells #[.int .i64 0,.int .i64 0,.int .i64 0,.int .i64 0] 54 (0,0))).p2.tail.p1
 have hx1:=hx _ [_,_,_,_] hS
 exact⟨by simp only[hx1,↓DD,UU,↓reduceIte,xA,xB,xC,xD,xE,xF,xG,xH,xI,xJ,xK,xL,xM,xN,xO,xP,xQ,ne_eq,eq_self],h1 _ _ ⟨a3,cap3,h3,y,⟨by simp [putD,gt,g1],by simp [putD,gt,g2]⟩,⟨by simp [putD,gt,q0],by simp [putD,gt,q1],by simp [putD,gt,q2],by simp [putD,gt,q3],by simp [putD,gt,q4]⟩,fun e=>⟨by simp [putD,gt,(k1 e).1],(k1 e).2⟩,fun e=>by simp [putD,gt,k2 e],fun _=>by simp [putD,gt],hS⟩⟩
theorem acq_l {W:World} {sh:Sh} {X:Cn} {w:Wd} {x b s:Nat} {kv:Nat→Value} {L:List Hp} (hx:∀ H Q,Sep (Q ++ L) H→H x=some (.cells #[.int .i64 sh.p,.int .i64 sh.c,.int .i64 sh.m] 23 (0,0))):∀ F H,acqS sh X w x b s kv L true true true F H→dwp Tryz.prog W [(x,#[.int .i64 sh.p,.int .i64 sh.c,.int .i64 sh.m],[])] (.alt true ⟨none,.stn 4 (.tmp 18) (.tmp 145),none⟩ .done .stop) (acqD sh X w x b s kv L) F H:=by
 intro F H hs
 obtain⟨a3,cap3,h3,y1,⟨g1,g2⟩,⟨q0,q1,q2,q3,q4⟩,k1,k2,k3,hS⟩:=hs
 have hS:Sep (h3 :: sg y1 _ :: wB b s w :: wR s w :: L) H:=hS
 have k2:=k2 rfl
 have k3:=k3 rfl
 have hy1:=hS.lk 1 rfl
 have hx1:=hx H [_,_,_,_] hS
 have hS:=hS.p1.set (.cells (auC X) 54 (0,0))
 have hS:=hS.p1.tail
 simp only[auC]at hS
 simp only[cnV,k2,k3,hy1,↓DD,UU,↓reduceIte,xA,xB,xC,xD,xE,xF,xG,xH,xI,xJ,xK,xL,xM,xN,xO,xP,xQ,ne_eq,eq_self]
 exact⟨y1,⟨q0,q1,q2,q3,q4⟩,k3,hS⟩
theorem ac_one (d:Int) (s:Sh) (ws:Nat→Int) (x:Nat):0≤Kt.one d s ws x∧Kt.one d s ws x≤1:=by unfold Kt.one;split<;>decide
theorem ac_sm (d:Int) (s:Sh) (ws:Nat→Int):∀ n:Nat,0≤Kt.sm (Kt.one d s ws) n∧Kt.sm (Kt.one d s ws) n≤n
 | 0=>⟨Int.le_refl _,Int.le_refl _⟩
 | n+1=>by have h1:=ac_sm d s ws n;have h2:=ac_one d s ws n;show 0≤_+_∧_+_≤_;omega
def acH (sh:Sh) (ws1:Nat→Int) (x y1 b k:Nat) (L:List Hp) (F':Fr) (H':Hp):Prop:=
 ∃ i:Nat,(i:Int)≤sh.p*64∧gt F' 14=.int .i64 i∧gt F' 13=.int .i64 (Kt.sm (Kt.one 0 sh ws1) i)∧(gt F' 3=.pointer (some ⟨x,0,none⟩)∧gt F' 10=.pointer (some ⟨b,0,none⟩)∧gt F' 11=.pointer (some ⟨k,0,none⟩)∧gt F' 12=.pointer (some ⟨y1,0,none⟩))∧Sep L H'
def acI (sh:Sh) (ws0:Nat→Int) (g0:Int→Int) (M:Int) (x y1 b k s n:Nat) (L:List Hp) (F':Fr) (H':Hp):Prop:=
 ∃ (i:Int) (t:Ad) (w:Wd),0≤i∧i≤60*sh.p+sh.m+20∧gt F' 17=.int .i64 i∧gt F' 13=.int .i64 M∧(gt F' 3=.pointer (some ⟨x,0,none⟩)∧gt F' 10=.pointer (some ⟨b,0,none⟩)∧gt F' 11=.pointer (some ⟨k,0,none⟩)∧gt F' 12=.pointer (some ⟨y1,0,none⟩))∧w.n=n ∧
  Ad.Adp sh ws0 1 0 g0 t w∧t.left≤max 0 (60*sh.p+sh.m+20 - i)∧Sep (adB k t :: wB b s w :: wR s w :: L) H'
section
variable {W:World} {H h:Hp} {l:List Hp} {n cap:Nat} {a:Option Addr} {ws:Nat→Int}
def acA (sh:Sh) (ws0:Nat→Int) (ca cn f T n0:Int) (x z b s k cap n:Nat) (a:Option Addr) (L:List Hp) (F':Fr) (H':Hp):Prop:=
 ∃ (i:Int) (j:Jb) (w:Wd) (C:Array Value) (P:List Hp) (ad:Option Addr) (cp:Nat) (g:Hp),0≤i∧i≤T∧gt F' 9=.int .i64 i∧(gt F' 3=.pointer (some ⟨x,0,none⟩)∧gt F' 5=.pointer (some ⟨z,0,none⟩)∧gt F' 7=.pointer (some ⟨b,0,none⟩)∧gt F' 8=.pointer (some ⟨k,0,none⟩)) ∧
  Jb.KI sh ws0 0 ca cn f w j∧w.of sh∧w.n=n∧0≤w.st∧w.st≤i∧CL sh 0 f j C P∧LogOk ad cp w g∧Sep (clB k C :: (P ++ mB b s ad cp w :: wR s w :: g :: L)) H'
set_option maxHeartbeats 8000000 in
theorem c_adoptcuts (sh:Sh) (n0 n1 n2 n3:Int) (hn0:-9223372036854775808≤n0∧n0≤9223372036854775807) (hr:RowU h a n ws) (hU:∀ i,i<n→U (ws i)) (hS:Sep (h :: l) H) :
  CallP Tryz.prog W 3 #[.agg #[.int .i64 sh.p,.int .i64 sh.c,.int .i64 sh.m],.slice a n cap,.agg #[.int .i64 n0,.int .i64 n1,.int .i64 n2,.int .i64 n3]] H fun v H'=>v=.bool true∧Sep (h :: l) H':=by
 refine CallP.of mixed Tryz.func3 tr3 (by show 3≤_;decide) fun W _=>?_
 simp only[↓DD,UU,↓reduceIte,xA,xB,xC,xD,xE,xF,xG,xH,xI,xJ,xK,xL,xM,xN,xO,xP,xQ,ne_eq,eq_self]
 refine newB_intro fun x hx f1 f2=>?_
 simp only[↓DD,UU,↓reduceIte,xA,xB,xC,xD,xE,xF,xG,xH,xI,xJ,xK,xL,xM,xN,xO,xP,xQ,ne_eq,eq_self]
 refine newB_intro fun z hz f3 f4=>?_
 simp only[↓DD,UU,↓reduceIte,xA,xB,xC,xD,xE,xF,xG,xH,xI,xJ,xK,xL,xM,xN,xO,xP,xQ,ne_eq,eq_self]
 have hS:=(hS.new f1 (.cells #[.int .i64 sh.p,.int .i64 sh.c,.int .i64 sh.m] 23 (0,0))).new f3 (.cells #[.int .i64 n0,.int .i64 n1,.int .i64 n2,.int .i64 n3] 25 (0,0))
 have nzx:=hS.neq 0 1 (by decide) rfl rfl
 have nxz:=hS.qen 0 1 (by decide) rfl rfl
 refine callT_of (c_awake18 hS) ?_
 rintro v H' ⟨rfl,hS⟩
 have hx1:=hS.lk 1 rfl
 have r1:=fun o n=>rdn_of hx1 o n
 simp only[hx1,r1,↓DD,UU,↓reduceIte,xA,xB,xC,xD,xE,xF,xG,xH,xI,xJ,xK,xL,xM,xN,xO,xP,xQ,ne_eq,eq_self]
 refine callT_of (c_fair (sh:=sh) hS) ?_
 rintro v H' ⟨rfl,hS⟩
 have hx1:=hS.lk 1 rfl
 have r1:=fun o n=>rdn_of hx1 o n
 cases hfair:(may sh.p sh.c sh.m && ((n:Int) == words sh.p sh.c sh.m))
 ·simp only[hfair,↓DD,UU,↓reduceIte,xA,xB,xC,xD,xE,xF,xG,xH,xI,xJ,xK,xL,xM,xN,xO,xP,xQ,ne_eq,eq_self]
  exact hS.tail.tail
 have hfair':=hfair
 simp only[Bool.and_eq_true,beq_iff_eq]at hfair
 obtain⟨hm,hn⟩:=hfair
 simp only[hfair',hx1,r1,↓DD,UU,↓reduceIte,xA,xB,xC,xD,xE,xF,xG,xH,xI,xJ,xK,xL,xM,xN,xO,xP,xQ,ne_eq,eq_self]
 refine callT_of (c_soundV hm hn hr hU hS.p2) ?_
 rintro v H' ⟨sb,rfl,hsnd,hS⟩
 cases sb
 ·simp only[↓DD,UU,↓reduceIte,xA,xB,xC,xD,xE,xF,xG,xH,xI,xJ,xK,xL,xM,xN,xO,xP,xQ,ne_eq,eq_self]
  exact hS.p1.tail.p1.tail
 have hsnd0:=hsnd.1 rfl
 clear hsnd
 have hx1:=hS.lk 2 rfl
 have hz1:=hS.lk 1 rfl
 have r0:=fun o=>rd_of hx1 o
 have r2:=fun o=>rd_of hz1 o
 have i0:(0:Int)<((4:Nat):Int):=by decide
 have i1:(1:Int)<((4:Nat):Int):=by decide
 have i2:(2:Int)<((4:Nat):Int):=by decide
 have i3:(3:Int)<((4:Nat):Int):=by decide
 by_cases hc2:sh.c<2
 ·have g3:decide (sh.c<2)=true:=decide_eq_true hc2
  simp only[hx1,hz1,r0,r2,g3,i0,↓DD,UU,↓reduceIte,xA,xB,xC,xD,xE,xF,xG,xH,xI,xJ,xK,xL,xM,xN,xO,xP,xQ,ne_eq,eq_self]
  exact hS.p1.tail.p1.tail
 have g3:decide (sh.c<2)=false:=decide_eq_false hc2
 by_cases hneg:n0<0
 ·have g4:decide (n0<0)=true:=decide_eq_true hneg
  simp only[hx1,hz1,r0,r2,g3,g4,i0,↓DD,UU,↓reduceIte,xA,xB,xC,xD,xE,xF,xG,xH,xI,xJ,xK,xL,xM,xN,xO,xP,xQ,ne_eq,eq_self]
  exact hS.p1.tail.p1.tail
 have g4:decide (n0<0)=false:=decide_eq_false hneg
 have hb:=(may_iff _ _ _).1 hm
 have hwl:=words_le hm
 have hwg:=words_ge hm hn
 have hn2:n≤2000:=by omega
 simp only[hx1,hz1,r0,r2,g3,g4,i0,↓DD,UU,↓reduceIte,xA,xB,xC,xD,xE,xF,xG,xH,xI,xJ,xK,xL,xM,xN,xO,xP,xQ,ne_eq,eq_self]
 refine callT_of (c_model hn2 hr hS) ?_
 rintro v H' ⟨b,s,rfl,hS⟩
 obtain⟨w0,hw0⟩:∃ w0,w0=rowW n ws:=⟨_,rfl⟩
 rw[← hw0]at hS
 have hof0:w0.of sh:=by rw[hw0];exact rowW_of hn hU
 have hsw0:Snd sh w0.ws:=by rw[hw0];exact ac_row hm hn hsnd0
 have hwn0:w0.n=n:=by rw[hw0];rfl
 have hst0:w0.st=0:=by rw[hw0];rfl
 have hL0:LogOk none 0 w0 fun _=>none:=by rw[hw0];exact LogOk.row n ws
 have hb1:=hS.look
 have rb:=fun o=>rd_of hb1 o
 have hs1:=hS.lk 1 rfl
 have nbs:=hS.neq 0 1 (by decide) rfl rfl
 have nsb:=hS.qen 0 1 (by decide) rfl rfl
 have us:=fun ws'=>urow_size w0.n ws'
 have hx1:=hS.lk 4 rfl
 have hz1:=hS.lk 3 rfl
 have rx:=fun o n=>rdn_of hx1 o n
 have nxs:=hS.qen 1 4 (by decide) rfl rfl
 have nsx:=hS.neq 1 4 (by decide) rfl rfl
 have hp1:putSt 1 0=1:=rfl
 have w0a:(0:Int)<(w0.n:Int):=by omega
 have w0b:(1:Int)<(w0.n:Int):=by omega
 have w0c:0<w0.n:=by omega
 have w0d:1<w0.n:=by omega
 simp only[mobj,↓DD,UU,↓reduceIte,xA,xB,xC,xD,xE,xF,xG,xH,xI,xJ,xK,xL,xM,xN,xO,xP,xQ,ne_eq,eq_self]
 refine draw_intro [(b,mobj s none 0 w0,[])] (by simp only[hb1,mobj,↓DD,UU,↓reduceIte,xA,xB,xC,xD,xE,xF,xG,xH,xI,xJ,xK,xL,xM,xN,xO,xP,xQ,ne_eq,eq_self]) ?_
 simp only[hb1,rb,hs1,hx1,rx,nbs,nsb,nxs,nsx,u_putst,hp1,us,w0a,w0b,w0c,w0d,urow_set,mobj,Nat.mul_one,Nat.zero_add,Ev.upd_upd,↓DD,UU,↓reduceIte,xA,xB,xC,xD,xE,xF,xG,xH,xI,xJ,xK,xL,xM,xN,xO,xP,xQ,ne_eq,eq_self]
 have hS:=(hS.p1.set (.cells (urow ((w0.put 0 1).put 1 1).n ((w0.put 0 1).put 1 1).ws) 30 (0,0))).p1
 refine callT_of (m_clnew (sh:=sh) (c:=0) hm ⟨by decide,by omega⟩ hS) ?_
 rintro v H' ⟨k,f,rfl,hf0,hf1,hS⟩
 have hof1:((w0.put 0 1).put 1 1).of sh:=Wd.of_put (Wd.of_put hof0 (U_putSt 1 0) _) (U_putSt 1 0) _
 have hsw1:Snd sh ((w0.put 0 1).put 1 1).ws:=by
  have e1:(w0.put 0 1).ws=upW w0.ws (status sh.p sh.c sh.m 0) 1:=by rw[status_yes hm (by decide) (by omega)];rfl
  have e2:((w0.put 0 1).put 1 1).ws=upW (w0.put 0 1).ws (status sh.p sh.c sh.m 1) 1:=by rw[status_yes hm (by decide) (by omega)];rfl
  rw[e2,e1]
  exact(hsw0.sta hm (by decide) (by omega)).sta hm (by decide) (by omega)
 have hwn1:((w0.put 0 1).put 1 1).n=n:=hwn0
 have hst1:((w0.put 0 1).put 1 1).st=0:=hst0
 have hL1:LogOk none 0 ((w0.put 0 1).put 1 1) fun _=>none:=⟨hL0.le,hL0.lo,hL0.hi,hL0.own⟩
 have hS:Sep (clB k (clC sh 0 f false 0 0 0 0 (.pointer none) (.pointer none) (.pointer none) (.pointer none) (.pointer none)) :: mB b s none 0 ((w0.put 0 1).put 1 1) :: wR s ((w0.put 0 1).put 1 1) :: h :: sg z (.cells #[.int .i64 n0,.int .i64 n1,.int .i64 n2,.int .i64 n3] 25 (0,0)) :: sg x (.cells #[.int .i64 sh.p,.int .i64 sh.c,.int .i64 sh.m] 23 (0,0)) :: l) H':=hS
 obtain⟨w1,hw1⟩:∃ w1,(w0.put 0 1).put 1 1=w1:=⟨_,rfl⟩
 rw[hw1]at hof1 hsw1 hwn1 hst1 hL1 hS
 clear hw1 hof0 hsw0 hwn0 hst0 hL0 hw0 us w0a w0b w0c w0d hb1 rb hs1 hx1 hz1 rx nbs nsb nxs nsx
 have hz1:=hS.lk 4 rfl
 have r2:=fun o=>rd_of hz1 o
 have a1:=ac_and1 n1
 have a2:=ac_and1 (n1.fdiv 2)
 have sh1:Int.fdiv n1 (2 ^ min 1 IntKind.i64.bits)=n1.fdiv 2:=rfl
 obtain⟨b1,hb1⟩:∃ b1,bits .and .i64 n1 1=b1:=⟨_,rfl⟩
 obtain⟨b2,hb2⟩:∃ b2,bits .and .i64 (n1.fdiv 2) 1=b2:=⟨_,rfl⟩
 rw[hb1]at a1
 rw[hb2]at a2
 have wb1:w64 (1+b1)=1+b1:=w64_eq (by omega) (by omega)
 have wb2:w64 (1+b1+b2)=1+b1+b2:=w64_eq (by omega) (by omega)
 simp only[hz1,r2,i0,i1,i2,i3,hb1,hb2,sh1,wrap_w64,wb1,wb2,↓DD,UU,↓reduceIte,xA,xB,xC,xD,xE,xF,xG,xH,xI,xJ,xK,xL,xM,xN,xO,xP,xQ,ne_eq,eq_self]
 refine callT_of (m_clinvoke (kd:=1+b1+b2) (ca:=n2) (cn:=n3) (by omega) hm ⟨by decide,by omega⟩ hS) ?_
 rintro v H' ⟨j0,C,P,hini,hCL,hS⟩
 have hKI:Jb.KI sh w1.ws 0 n2 n3 f w1 j0:=by
  cases hini with
  | off=>exact .off hsw1
  | tk h hl=>exact Jb.KI.tk0 hm hof1 (by decide) (by omega) hf0 hf1 hsw1 h hl
  | gv h=>exact Jb.KI.gv0 hm hof1 (by decide) (by omega) hsw1 h
  | re h hl=>exact Jb.KI.re0 hm hof1 (by decide) (by omega) hf0 hf1 hsw1 h hl
 clear hini
 obtain⟨zB,hzB⟩:∃ zB,sg z (.cells #[.int .i64 n0,.int .i64 n1,.int .i64 n2,.int .i64 n3] 25 (0,0))=zB:=⟨_,rfl⟩
 obtain⟨hpX,hxB⟩:∃ hpX,sg x (.cells #[.int .i64 sh.p,.int .i64 sh.c,.int .i64 sh.m] 23 (0,0))=hpX:=⟨_,rfl⟩
 rw[hzB,hxB]at hS
 have eB:∀ (Q M:List Hp) (x1 x2:Hp),(Q ++ [x1,x2]) ++ M=Q ++ x1 :: x2 :: M:=fun Q M x1 x2=>by rw[List.append_assoc];rfl
 have hS:Sep (clB k C :: (P ++ mB b s none 0 w1 :: wR s w1 :: (fun _=>none) :: h :: zB :: hpX :: l)) H':=by
  have h5:=hS.nothing
  rw[← eB]at h5 ⊢
  exact Sep.over (X:=[fun _=>none]) (L:=clB k C :: (P ++ [mB b s none 0 w1,wR s w1])) h5
 have hsteps:steps sh.p sh.c sh.m=110*sh.p+4*sh.m+60:=by unfold steps;rw[hm];rfl
 obtain⟨S1,hS1⟩:∃ S1,steps sh.p sh.c sh.m=S1:=⟨_,rfl⟩
 have hS1b:0≤S1∧S1≤100000:=by omega
 have wS:w64 (S1+1)=S1+1:=w64_eq (by omega) (by omega)
 have neS:(S1+1=0)=False:=eq_false (by omega)
 have tS:n0.tmod (S1+1)=n0 % (S1+1):=Int.tmod_eq_emod_of_nonneg (by omega)
 obtain⟨T,hT⟩:∃ T,n0 % (S1+1)=T:=⟨_,rfl⟩
 have hTb:0≤T∧T≤100000:=by
  have h1:=Int.emod_nonneg n0 (show S1+1≠0 by omega)
  have h2:=Int.emod_lt_of_pos n0 (show 0<S1+1 by omega)
  omega
 simp only[↓DD,UU,↓reduceIte,xA,xB,xC,xD,xE,xF,xG,xH,xI,xJ,xK,xL,xM,xN,xO,xP,xQ,ne_eq,eq_self]
 refine loop_intro (acA sh w1.ws n2 n3 f T n0 x z b s k cap n a (h :: zB :: hpX :: l)) (fun F' _=>(T - iv (gt F' 9)).toNat)
  ⟨0,j0,w1,C,P,none,0,_,Int.le_refl _,hTb.1,by simp [gt],⟨by simp [gt],by simp [gt],by simp [gt],by simp [gt]⟩,hKI,hof1,hwn1,by omega,by omega,hCL,hL1,hS⟩ ?_
 obtain⟨ws0,hws0⟩:∃ ws0,w1.ws=ws0:=⟨_,rfl⟩
 rw[hws0]
 clear hS hKI hCL hL1 hof1 hwn1 hst1 hz1 r2 hsw1 hws0
 rintro F' H' ⟨i,j,w,C,P,ad,cp,g,j0',j1',e9,⟨e3,e5,e7,e8⟩,hKI,hof,hwn,hst0,hst1,hCL,hL,hS⟩
 have lx:∀ Q:List Hp,∀ Z:Hp,Sep (Q ++ hpX :: l) Z→Z x=some (.cells #[.int .i64 sh.p,.int .i64 sh.c,.int .i64 sh.m] 23 (0,0)):=fun Q Z g=>by
  rw[← hxB]at g;exact(Sep.dropF g).lk 0 rfl
 have lz:∀ Q:List Hp,∀ Z:Hp,Sep (Q ++ zB :: hpX :: l) Z→Z z=some (.cells #[.int .i64 n0,.int .i64 n1,.int .i64 n2,.int .i64 n3] 25 (0,0)):=fun Q Z g=>by
  rw[← hzB]at g;exact(Sep.dropF g).lk 0 rfl
 have hx1:=lx [_,_,_,_,_] _ hS.tail.dropF
 have hz1:=lz [_,_,_,_] _ hS.tail.dropF
 have rx:=fun o n=>rdn_of hx1 o n
 have rz:=fun o=>rd_of hz1 o
 have wi:w64 (i+1)=i+1:=w64_eq (by omega) (by omega)
 have wT:w64 T=T:=w64_eq (by omega) (by omega)
 by_cases hlt:i<T
 ·have d1:decide (i<T)=true:=decide_eq_true hlt
  simp only[e9,e3,e5,e7,e8,hx1,hz1,rx,rz,i0,u_steps,hS1,wrap_w64,wS,neS,tS,hT,wT,d1,↓DD,UU,↓reduceIte,xA,xB,xC,xD,xE,xF,xG,xH,xI,xJ,xK,xL,xM,xN,xO,xP,xQ,ne_eq,eq_self]
  refine callT_of (m_clstep hKI hof hCL hL (by omega) hS) ?_
  rintro u H' ⟨C2,P2,a2,cap2,g2,hCL2,hL2,hS2⟩
  obtain⟨hKI2,hof2⟩:=hKI.step hm hof
  have hst:=hKI.st hst0 (by omega)
  have hwn2:(j.step sh 0 w).2.n=n:=by
   have h5:=hof2.n
   have h6:=hof.n
   omega
  simp only[e9,e3,e5,e7,e8,wrap_w64,wi,↓DD,UU,↓reduceIte,xA,xB,xC,xD,xE,xF,xG,xH,xI,xJ,xK,xL,xM,xN,xO,xP,xQ,ne_eq,eq_self]
  exact⟨⟨i+1,_,_,C2,P2,a2,cap2,g2,by omega,by omega,by simp [gt],⟨by simp [gt,e3],by simp [gt,e5],by simp [gt,e7],by simp [gt,e8]⟩,hKI2,hof2,hwn2,by omega,by omega,hCL2,hL2,hS2⟩,by simp [gt,iv,e9];omega⟩
 have d1:decide (i<T)=false:=decide_eq_false hlt
 have hsnw:=hKI.snd hm
 have hS:=hS.tail.dropF
 have hb1:=hS.look
 have rb:=fun o=>rd_of hb1 o
 simp only[mobj]at hb1 rb
 simp only[e9,e3,e5,e7,e8,hx1,hz1,rx,rz,i0,u_steps,hS1,wrap_w64,wS,neS,tS,hT,wT,d1,hb1,rb,↓DD,UU,↓reduceIte,xA,xB,xC,xD,xE,xF,xG,xH,xI,xJ,xK,xL,xM,xN,xO,xP,xQ,ne_eq,eq_self]
 have hS:=hS.tail.p1.tail
 refine callT_of (c_fill (n:=w.n) (ws:=w.ws) (by omega) (RowU.own s w.n w.ws _ _) hS) ?_
 rintro v H' ⟨b2,s2,rfl,hS⟩
 have hS:=hS.p2.tail
 rw[hwn]at hS
 have hx1:=lx [_,_,_,_] _ hS
 have rx:=fun o n=>rdn_of hx1 o n
 simp only[e3,hx1,rx,↓DD,UU,↓reduceIte,xA,xB,xC,xD,xE,xF,xG,xH,xI,xJ,xK,xL,xM,xN,xO,xP,xQ,ne_eq,eq_self]
 refine callT_of (c_adnew (sh:=sh) hS) ?_
 rintro v H' ⟨k2,rfl,hS⟩
 have hp2:putSt 2 0=2:=rfl
 have hp4:putSt 4 0=4:=rfl
 have hof2:(rowW n w.ws).of sh:=rowW_of hn fun i hi=>hof.u i
 have hsn2:=ac_row hm hn hsnw
 simp only[u_putst,hp2,↓DD,UU,↓reduceIte,xA,xB,xC,xD,xE,xF,xG,xH,xI,xJ,xK,xL,xM,xN,xO,xP,xQ,ne_eq,eq_self]
 refine callT_of (c_put 0 2 (by decide) (by show(0:Int)<(n:Int);omega) hS.p2.p2) ?_
 rintro v H' ⟨rfl,hS⟩
 have hof3:((rowW n w.ws).put 0 2).of sh:=Wd.of_put hof2 (U_putSt 2 0) _
 have hsn3:Snd sh ((rowW n w.ws).put 0 2).ws:=by
  have e:((rowW n w.ws).put 0 2).ws=upW (rowW n w.ws).ws (status sh.p sh.c sh.m 0) 2:=by rw[status_yes hm (by decide) (by omega)];rfl
  rw[e];exact hsn2.sta hm (by decide) (by omega)
 have hwin:Ad.Win sh ((rowW n w.ws).put 0 2).get 0:=by
  left
  rw[get_put (by decide) (by decide),if_pos rfl]
  decide
 have hO:=Ad.Adp.init (c:=1) (d:=0) hm hof3 (by decide) (by omega) (by decide) (by omega) (by decide) hwin hsn3
 have hl0:=ac_left_le hO.wf.1 (by show 0≤sh.p∧0≤sh.m;omega)
 have hl1:(Ad.new sh 1 0).left≤54*sh.p+sh.m+4:=hl0
 have hn3:((rowW n w.ws).put 0 2).n=n:=rfl
 generalize ((rowW n w.ws).put 0 2)=w1 at hO hS hof3 hsn3 hwin hn3
 clear hof2 hsn2 hsnw hKI hof hCL hL hb1 rb hst0 hst1 hwn d1 hlt wi wT e9 e7 e8
 have aw1:w1.of sh:=hof3
 have hx1:=lx [_,_,_,_,_] _ hS.p2
 have rx:=fun o n=>rdn_of hx1 o n
 have hwn1:w1.n≤2000:=by omega
 have hnW1:((w1.n:Nat):Int)=words sh.p sh.c sh.m:=by rw[hn3];exact hn
 obtain⟨X,hX⟩:∃ X,Cn.all (livF sh w1.ws) sh w1.ws sh.p.toNat=X:=⟨_,rfl⟩
 obtain⟨L1,hL1⟩:∃ L1,adB k2 (Ad.new sh 1 0) :: h :: zB :: hpX :: l=L1:=⟨_,rfl⟩
 have hxL:∀ H Q,Sep (Q ++ L1) H→H x=some (.cells #[.int .i64 sh.p,.int .i64 sh.c,.int .i64 sh.m] 23 (0,0)):=fun H Q g=>by
  rw[← hL1]at g;exact lx [_,_,_] _ (Sep.dropF g)
 rw[hL1]at hS
 simp only[↓DD,UU,↓reduceIte,xA,xB,xC,xD,xE,xF,xG,xH,xI,xJ,xK,xL,xM,xN,xO,xP,xQ,ne_eq,eq_self]
 refine draw_cut [(x,#[.int .i64 sh.p,.int .i64 sh.c,.int .i64 sh.m],[])] (acpD sh X w1 x b2 s2 (fun r=>if r=3 then .pointer (some ⟨x,0,none⟩) else if r=10 then .pointer (some ⟨b2,0,none⟩) else .pointer (some ⟨k2,0,none⟩)) L1) (by simp only[hx1,↓DD,UU,↓reduceIte,xA,xB,xC,xD,xE,xF,xG,xH,xI,xJ,xK,xL,xM,xN,xO,xP,xQ,ne_eq,eq_self]) ?_ ?_
 ·simp only[e3,hx1,rx,↓DD,UU,↓reduceIte,xA,xB,xC,xD,xE,xF,xG,xH,xI,xJ,xK,xL,xM,xN,xO,xP,xQ,ne_eq,eq_self]
  refine(?_:∀ F' H',acpS sh X w1 x b2 s2 (fun r=>if r=3 then .pointer (some ⟨x,0,none⟩) else if r=10 then .pointer (some ⟨b2,0,none⟩) else .pointer (some ⟨k2,0,none⟩)) L1 false false false F' H'→dwp Tryz.prog W [(x,#[.int .i64 sh.p,.int .i64 sh.c,.int .i64 sh.m],[])] _ (acpD sh X w1 x b2 s2 _ L1) F' H') _ _ ⟨none,0,fun _=>none,0,⟨by simp [gt],by simp [gt]⟩,⟨by simp [gt,e3],by simp [gt],by simp [gt]⟩,fun e=>(by cases e),fun e=>(by cases e),fun e=>(by cases e),hS.nothing.nothing⟩
  repeat' (first | exact acp_l hxL | exact ac_stop | apply acp_a hxL hwn1 | apply acp_b hxL hm hnW1 aw1 hX | apply acp_c hxL)
 ·rintro F' H' ⟨y1,⟨e3,e10,e11⟩,e12,hS⟩
  simp only[if_true,Nat.reduceEqDiff,if_false]at e3 e10 e11
  rw[← hL1]at hS
  clear hxL
  clear hL1
  have wp:w64 (sh.p*64)=sh.p*64:=w64_eq (by omega) (by omega)
  simp only[↓DD,UU,↓reduceIte,xA,xB,xC,xD,xE,xF,xG,xH,xI,xJ,xK,xL,xM,xN,xO,xP,xQ,ne_eq,eq_self]
  refine loop_intro (acH sh w1.ws x y1 b2 k2 (sg y1 (.cells (auC X) 54 (0,0)) :: wB b2 s2 w1 :: wR s2 w1 :: adB k2 (Ad.new sh 1 0) :: h :: zB :: hpX :: l)) (fun F' _=>(sh.p*64 - iv (gt F' 14)).toNat)
   ⟨0,by omega,by simp [gt],by simp [gt,Kt.sm],⟨by simp [gt,e3],by simp [gt,e10],by simp [gt,e11],by simp [gt,e12]⟩,hS⟩ ?_
  clear hS hx1 rx e3 e10 e11 e12 e5
  rintro F' H' ⟨i,hi,e14,e13,⟨e3,e10,e11,e12⟩,hS⟩
  have hx1:=lx [_,_,_,_,_,_] _ hS
  have rx:=fun o n=>rdn_of hx1 o n
  have r0:=fun o=>rd_of hx1 o
  by_cases hlt:(i:Int)<sh.p*64
  ·have d1:decide ((i:Int)<sh.p*64)=true:=decide_eq_true hlt
   have wi:w64 ((i:Int)+1)=((i+1:Nat):Int):=by rw[w64_eq (by omega) (by omega)];omega
   simp only[e14,e13,e3,e10,e11,e12,hx1,rx,r0,wrap_w64,wp,d1,↓DD,UU,↓reduceIte,xA,xB,xC,xD,xE,xF,xG,xH,xI,xJ,xK,xL,xM,xN,xO,xP,xQ,ne_eq,eq_self]
   refine draw_intro [(x,#[.int .i64 sh.p,.int .i64 sh.c,.int .i64 sh.m],[])] (by simp only[hx1,↓DD,UU,↓reduceIte,xA,xB,xC,xD,xE,xF,xG,xH,xI,xJ,xK,xL,xM,xN,xO,xP,xQ,ne_eq,eq_self]) ?_
   simp only[e14,e13,e3,e10,e11,e12,hx1,rx,↓DD,UU,↓reduceIte,xA,xB,xC,xD,xE,xF,xG,xH,xI,xJ,xK,xL,xM,xN,xO,xP,xQ,ne_eq,eq_self]
   refine callT_of (c_all (w:=w1) hwn1 hS.r2) ?_
   rintro v H' ⟨a3,cap3,h3,rfl,hr3,hS⟩
   have hx1:=lx [_,_,_,_,_,_,_] _ hS
   have rx:=fun o n=>rdn_of hx1 o n
   simp only[e14,e13,e3,e10,e11,e12,hx1,rx,↓DD,UU,↓reduceIte,xA,xB,xC,xD,xE,xF,xG,xH,xI,xJ,xK,xL,xM,xN,xO,xP,xQ,ne_eq,eq_self]
   refine callT_of (c_holderE (i:Int) (by omega) hlt hm hsn3 hnW1 hr3 (fun i _=>aw1.u i) hS) ?_
   rintro v H' ⟨rfl,hS⟩
   have hS:=hS.tail.p2
   obtain⟨hc,hh⟩:∃ hc,(Kt.hl sh w1.ws i).1=hc:=⟨_,rfl⟩
   obtain⟨hb2,hh2⟩:∃ hb2,(Kt.hl sh w1.ws i).2=hb2:=⟨_,rfl⟩
   have hsm:Kt.sm (Kt.one 0 sh w1.ws) (i+1)=Kt.sm (Kt.one 0 sh w1.ws) i+if hb2=true∧hc=0 then 1 else 0:=by
    show _+Kt.one 0 sh w1.ws i=_
    unfold Kt.one;rw[hh,hh2]
   have hsb:=ac_sm 0 sh w1.ws i
   have wm:w64 (Kt.sm (Kt.one 0 sh w1.ws) i+1)=Kt.sm (Kt.one 0 sh w1.ws) i+1:=w64_eq (by omega) (by omega)
   rw[hh,hh2]
   have hx1:=lx [_,_,_,_,_,_] _ hS
   cases hb2
   ·simp only[e14,e13,e3,e10,e11,e12,hx1,wrap_w64,wi,↓DD,UU,↓reduceIte,xA,xB,xC,xD,xE,xF,xG,xH,xI,xJ,xK,xL,xM,xN,xO,xP,xQ,ne_eq,eq_self]
    exact⟨⟨i+1,by omega,by simp [gt],by simp [gt,e13,hsm],⟨by simp [gt,e3],by simp [gt,e10],by simp [gt,e11],by simp [gt,e12]⟩,hS⟩,by simp [gt,iv,e14];omega⟩
   ·by_cases hc0:hc=0
    ·have g1:(hc == 0)=true:=beq_iff_eq.2 hc0
     simp only[e14,e13,e3,e10,e11,e12,hx1,g1,wrap_w64,wi,wm,↓DD,UU,↓reduceIte,xA,xB,xC,xD,xE,xF,xG,xH,xI,xJ,xK,xL,xM,xN,xO,xP,xQ,ne_eq,eq_self]
     exact⟨⟨i+1,by omega,by simp [gt],by simp [gt,wm,hsm,hc0],⟨by simp [gt,e3],by simp [gt,e10],by simp [gt,e11],by simp [gt,e12]⟩,hS⟩,by simp [gt,iv,e14];omega⟩
    ·have g1:(hc == 0)=false:=beq_eq_false_iff_ne.2 hc0
     simp only[e14,e13,e3,e10,e11,e12,hx1,g1,wrap_w64,wi,↓DD,UU,↓reduceIte,xA,xB,xC,xD,xE,xF,xG,xH,xI,xJ,xK,xL,xM,xN,xO,xP,xQ,ne_eq,eq_self]
     exact⟨⟨i+1,by omega,by simp [gt],by simp [gt,e13,hsm,hc0],⟨by simp [gt,e3],by simp [gt,e10],by simp [gt,e11],by simp [gt,e12]⟩,hS⟩,by simp [gt,iv,e14];omega⟩
  have d1:decide ((i:Int)<sh.p*64)=false:=decide_eq_false hlt
  have hi64:i=64*sh.p.toNat:=by omega
  obtain⟨M,hM⟩:∃ M,Kt.sm (Kt.one 0 sh w1.ws) i=M:=⟨_,rfl⟩
  have hMb:0≤M∧M≤4096:=by have:=ac_sm 0 sh w1.ws i;omega
  have hMM:M=Kt.mineN 0 sh w1.ws sh.p.toNat:=by rw[← hM,hi64];exact Kt.sm_all hsn3 sh.p.toNat (by omega)
  rw[hM]at e13
  have wm1:w64 (60*sh.p)=60*sh.p:=w64_eq (by omega) (by omega)
  have wm2:w64 (60*sh.p+sh.m)=60*sh.p+sh.m:=w64_eq (by omega) (by omega)
  have wm3:w64 (60*sh.p+sh.m+20)=60*sh.p+sh.m+20:=w64_eq (by omega) (by omega)
  have hS:=hS.r3.p2
  simp only[e14,e13,e3,e10,e11,e12,hx1,r0,wrap_w64,wp,d1,↓DD,UU,↓reduceIte,xA,xB,xC,xD,xE,xF,xG,xH,xI,xJ,xK,xL,xM,xN,xO,xP,xQ,ne_eq,eq_self]
  refine loop_intro (acI sh w1.ws w1.get M x y1 b2 k2 s2 n (sg y1 (.cells (auC X) 54 (0,0)) :: h :: zB :: hpX :: l)) (fun F' _=>(60*sh.p+sh.m+20 - iv (gt F' 17)).toNat)
   ⟨0,_,_,by omega,by omega,by simp [gt],by simp [gt,e13],⟨by simp [gt,e3],by simp [gt,e10],by simp [gt,e11],by simp [gt,e12]⟩,hn3,hO,by omega,hS⟩ ?_
  have hr1:Kt.mineN 0 sh w1.ws sh.p.toNat=M:=hMM.symm
  obtain⟨ws1,hws1⟩:∃ ws1,w1.ws=ws1:=⟨_,rfl⟩
  rw[hws1]at hX hsn3 hr1 ⊢
  generalize w1.get=g0
  clear hS hx1 rx r0 e3 e10 e11 e12 e13 e14 hO hwin hMM hM
  rintro F' H' ⟨i,t,w,h0,h1',e17,e13,⟨e3,e10,e11,e12⟩,hwn,hO,hl,hS⟩
  have hx1:=lx [_,_,_,_,_,_] _ hS
  have rx:=fun o n=>rdn_of hx1 o n
  have r0:=fun o=>rd_of hx1 o
  by_cases hlt:i<60*sh.p+sh.m+20
  ·have d1:decide (i<60*sh.p+sh.m+20)=true:=decide_eq_true hlt
   have wi:w64 (i+1)=i+1:=w64_eq (by omega) (by omega)
   simp only[e17,e13,e3,e10,e11,e12,hx1,r0,wrap_w64,wm1,wm2,wm3,d1,↓DD,UU,↓reduceIte,xA,xB,xC,xD,xE,xF,xG,xH,xI,xJ,xK,xL,xM,xN,xO,xP,xQ,ne_eq,eq_self]
   refine callT_of (c_adstep hO.wf.1 (fun _=>by rw[hO.wf.2.1];exact hO.of) hS) ?_
   rintro v H' ⟨rfl,hS⟩
   have hn3:(t.step w).2.n=n:=by
    have h5:=(Ad.step_of (t:=t) hO.of).n
    have h6:=hO.of.n
    omega
   simp only[e17,e13,e3,e10,e11,e12,wrap_w64,wi,↓DD,UU,↓reduceIte,xA,xB,xC,xD,xE,xF,xG,xH,xI,xJ,xK,xL,xM,xN,xO,xP,xQ,ne_eq,eq_self]
   refine⟨⟨i+1,_,_,by omega,by omega,by simp [gt],by simp [gt,e13],⟨by simp [gt,e3],by simp [gt,e10],by simp [gt,e11],by simp [gt,e12]⟩,hn3,hO.step,?_,hS⟩,by simp [gt,iv,e17];omega⟩
   have:=ac_left (w:=w) hO.wf.1 hl;omega
  have d1:decide (i<60*sh.p+sh.m+20)=false:=decide_eq_false hlt
  have hd:t.dn=true:=Ad.left_dn hO.wf.1 (by have:=Ad.left_nn hO.wf.1;omega)
  obtain⟨herr,-,hgn⟩:=hO.fin hd
  have hsn4:=hgn.snd hm hsn3 (by decide) (by omega)
  have aw:w.of sh:=hO.of
  have hnW:((w.n:Nat):Int)=words sh.p sh.c sh.m:=by rw[hwn];exact hn
  have hwn2:w.n≤2000:=by omega
  obtain⟨Y,hY⟩:∃ Y,Cn.all (livF sh w.ws) sh w.ws sh.p.toNat=Y:=⟨_,rfl⟩
  have hall:=Kt.all_gn (liv:=livF sh ws1) (liv':=livF sh w.ws) hm hsn3 (by decide) (by omega) hgn sh.p.toNat (by omega)
  rw[hX,hY,hr1]at hall
  have hbX:Cn.Bd (512*sh.p.toNat) X:=by rw[← hX];exact Cn.all_bd _
  have hbY:Cn.Bd (512*sh.p.toNat) Y:=by rw[← hY];exact Cn.all_bd _
  obtain⟨L2,hL2⟩:∃ L2,adB k2 t :: sg y1 (.cells (auC X) 54 (0,0)) :: h :: zB :: hpX :: l=L2:=⟨_,rfl⟩
  have hxL:∀ H Q,Sep (Q ++ L2) H→H x=some (.cells #[.int .i64 sh.p,.int .i64 sh.c,.int .i64 sh.m] 23 (0,0)):=fun H Q g=>by
   rw[← hL2]at g;exact lx [_,_,_,_] _ (Sep.dropF g)
  have hS:=hS.r2
  rw[hL2]at hS
  obtain⟨kv,hkv⟩:∃ kv:Nat→Value,kv=fun r=>gt F' r:=⟨_,rfl⟩
  simp only[e17,e13,e3,e10,e11,e12,hx1,r0,wrap_w64,wm1,wm2,wm3,d1,↓DD,UU,↓reduceIte,xA,xB,xC,xD,xE,xF,xG,xH,xI,xJ,xK,xL,xM,xN,xO,xP,xQ,ne_eq,eq_self]
  refine draw_cut [(x,#[.int .i64 sh.p,.int .i64 sh.c,.int .i64 sh.m],[])] (acqD sh Y w x b2 s2 kv L2) (by simp only[hx1,↓DD,UU,↓reduceIte,xA,xB,xC,xD,xE,xF,xG,xH,xI,xJ,xK,xL,xM,xN,xO,xP,xQ,ne_eq,eq_self]) ?_ ?_
  ·simp only[e3,e10,hx1,rx,↓DD,UU,↓reduceIte,xA,xB,xC,xD,xE,xF,xG,xH,xI,xJ,xK,xL,xM,xN,xO,xP,xQ,ne_eq,eq_self]
   refine(?_:∀ F' H',acqS sh Y w x b2 s2 kv L2 false false false F' H'→dwp Tryz.prog W [(x,#[.int .i64 sh.p,.int .i64 sh.c,.int .i64 sh.m],[])] _ (acqD sh Y w x b2 s2 kv L2) F' H') _ _ ⟨none,0,fun _=>none,0,⟨by simp [gt],by simp [gt]⟩,⟨by rw[hkv];simp [gt],by rw[hkv];simp [gt],by rw[hkv];simp [gt],by rw[hkv];simp [gt],by rw[hkv];simp [gt]⟩,fun e=>(by cases e),fun e=>(by cases e),fun e=>(by cases e),hS.nothing.nothing⟩
   repeat' (first | exact acq_l hxL | exact ac_stop | apply acq_a hxL hwn2 | apply acq_b hxL hm hnW aw hY | apply acq_c hxL)
  ·rintro F2 H' ⟨y2,⟨q3,q10,q11,q12,q13⟩,e18,hS⟩
   rw[hkv]at q3 q10 q11 q12 q13
   have q3:=q3.trans e3
   have q10:=q10.trans e10
   have q11:=q11.trans e11
   have q12:=q12.trans e12
   have q13:=q13.trans e13
   rw[← hL2]at hS
   clear hxL hx1 rx r0
   have hx1:=lx [_,_,_,_,_,_,_] _ hS
   have hy2:=hS.lk 0 rfl
   have hy1:=hS.lk 4 rfl
   have rx:=fun o n=>rdn_of hx1 o n
   have ry1:=fun o=>rd_of hy1 o
   have ry2:=fun o=>rd_of hy2 o
   have c1:(Y.fr == X.fr+M)=true:=by rw[hall.1];simp
   have c2:(Y.ta == X.ta)=true:=by rw[hall.2];simp
   have wxm:w64 (X.fr+M)=X.fr+M:=by unfold Cn.Bd at hbX;exact w64_eq (by omega) (by omega)
   refine draw_intro [(x,#[.int .i64 sh.p,.int .i64 sh.c,.int .i64 sh.m],[]),(y1,auC X,[]),(y2,auC Y,[])] (by simp only[hx1,hy1,hy2,↓DD,UU,↓reduceIte,xA,xB,xC,xD,xE,xF,xG,xH,xI,xJ,xK,xL,xM,xN,xO,xP,xQ,ne_eq,eq_self]) ?_
   simp only[q3,q10,q11,q12,q13,e18,hx1,rx,↓DD,UU,↓reduceIte,xA,xB,xC,xD,xE,xF,xG,xH,xI,xJ,xK,xL,xM,xN,xO,xP,xQ,ne_eq,eq_self]
   refine callT_of (c_addone hS.p3) ?_
   rintro v H' ⟨rfl,hS⟩
   have hx1:=lx [_,_,_,_,_,_,_] _ hS
   have hy2:=hS.lk 1 rfl
   have hy1:=hS.lk 4 rfl
   simp only[hd,q3,q10,q11,q12,q13,e18,hx1,hy1,hy2,↓DD,UU,↓reduceIte,xA,xB,xC,xD,xE,xF,xG,xH,xI,xJ,xK,xL,xM,xN,xO,xP,xQ,ne_eq,eq_self]
   refine callT_of (c_aderr hS) ?_
   rintro v H' ⟨rfl,hS⟩
   have hx1:=lx [_,_,_,_,_,_,_] _ hS
   have hy2:=hS.lk 1 rfl
   have hy1:=hS.lk 4 rfl
   have rx:=fun o n=>rdn_of hx1 o n
   simp only[hd,herr,q3,q10,q11,q12,q13,e18,hx1,rx,hy1,hy2,↓DD,UU,↓reduceIte,xA,xB,xC,xD,xE,xF,xG,xH,xI,xJ,xK,xL,xM,xN,xO,xP,xQ,ne_eq,eq_self]
   refine callT_of (c_all (w:=w) hwn2 hS.p3.p3) ?_
   rintro v H' ⟨a3,cap3,h3,rfl,hr3,hS⟩
   have hx1:=lx [_,_,_,_,_,_,_,_] _ hS
   have hy2:=hS.lk 4 rfl
   have hy1:=hS.lk 5 rfl
   have rx:=fun o n=>rdn_of hx1 o n
   simp only[hd,herr,q3,q10,q11,q12,q13,e18,hx1,rx,hy1,hy2,↓DD,UU,↓reduceIte,xA,xB,xC,xD,xE,xF,xG,xH,xI,xJ,xK,xL,xM,xN,xO,xP,xQ,ne_eq,eq_self]
   refine callT_of (c_soundV hm hnW hr3 (fun i _=>aw.u i) hS) ?_
   rintro v H' ⟨sb,rfl,hsb,hS⟩
   have hsb:=hsb.2 hsn4
   subst hsb
   have hx1:=lx [_,_,_,_,_,_,_,_] _ hS
   have hy2:=hS.lk 4 rfl
   have hy1:=hS.lk 5 rfl
   have ry1:=fun o=>rd_of hy1 o
   have ry2:=fun o=>rd_of hy2 o
   simp only[auC]at hy1 hy2 ry1 ry2
   have p1:=hS.neq 4 5 (by decide) rfl rfl
   have p2:=hS.qen 4 5 (by decide) rfl rfl
   have hS2:=hS
   rw[← hxB]at hS2
   have p3:=hS2.neq 4 8 (by decide) rfl rfl
   have p4:=hS2.qen 4 8 (by decide) rfl rfl
   have p5:=hS2.neq 5 8 (by decide) rfl rfl
   have p6:=hS2.qen 5 8 (by decide) rfl rfl
   simp only[auC,hd,herr,q3,q10,q11,q12,q13,e18,hx1,hy1,hy2,ry1,ry2,wrap_w64,wxm,c1,c2,p1,p2,p3,p4,p5,p6,↓DD,UU,↓reduceIte,xA,xB,xC,xD,xE,xF,xG,xH,xI,xJ,xK,xL,xM,xN,xO,xP,xQ,ne_eq,eq_self]
   exact hS.tail.tail.tail.tail.tail.tail.p1.tail.p1.tail
end
theorem l_adoptcuts {W:World} {n cap:Nat} {a:Option Addr} {ws:Nat→Int} (p:Int) (q:Int) (m:Int) (h0:-9223372036854775808≤p∧p≤9223372036854775807) (h1:-9223372036854775808≤q∧q≤9223372036854775807) (h2:-9223372036854775808≤m∧m≤9223372036854775807) (hn:n≤9223372036854775807) (hr:RowU (memOf W) a n ws) (hU:∀ i,i<n→IntKind.u64.has (ws i)) (n0 n1 n2 n3:Int) (g0:-9223372036854775808≤n0∧n0≤9223372036854775807) (g1:-9223372036854775808≤n1∧n1≤9223372036854775807) (g2:-9223372036854775808≤n2∧n2≤9223372036854775807) (g3:-9223372036854775808≤n3∧n3≤9223372036854775807) :
  CallP Tryz.prog W 3 #[.agg #[.int .i64 p,.int .i64 q,.int .i64 m],.slice a n cap,.agg #[.int .i64 n0,.int .i64 n1,.int .i64 n2,.int .i64 n3]] (memOf W) fun v H'=>v=.bool true∧Sub (memOf W) H':=
 (c_adoptcuts ⟨p,q,m⟩ n0 n1 n2 n3 g0 hr (fun i hi=>u64_bd (hU i hi)) (Sep.one _)).mono fun v H' ⟨h1,h2⟩=>⟨h1,h2.head⟩
end Go.Proofs.YtbcdaglbdnkocaaGreat
