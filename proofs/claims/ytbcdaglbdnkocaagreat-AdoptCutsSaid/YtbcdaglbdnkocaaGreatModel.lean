/-
 The document's words: contracts, over heaps in parts. Conditions: none.
-/
import Derived.Test.YtbcdaglbdnkocaaGreatWords
import Derived.Test.YtbcdaglbdnkocaaGreatRefPack
import Derived.Laws.Append
open Nat renaming reduceAdd→xA,reduceMul→xB,reduceSub→xC,reduceEqDiff→xD,reduceBEq→xE,reduceLeDiff→xF,reduceLT→xG
open Int renaming reduceAdd→xH,reduceMul→xI,reduceSub→xJ,reduceLT→xK,reduceLE→xL,reduceToNat→xM,reduceEq→xN,reduceNe→xO,reduceBEq→xP,reduceBNe→xQ
set_option linter.unusedVariables false
set_option linter.unusedSimpArgs false
set_option maxRecDepth 8000
namespace Go.Proofs.YtbcdaglbdnkocaaGreat
open Go Go.Ev Go.Pl Go.Ma

def mobj (s:Nat) (a:Option Addr) (cap:Nat) (w:Wd):Array Value:=
 #[.slice (some ⟨s,0,none⟩) w.n w.n,.int .i64 w.st,.int .i64 w.cl,.int .i64 w.kd,.int .i64 w.pl,.int .u64 w.was,.int .u64 w.pt,.bool w.ok,.slice a w.st.toNat cap]
def mB (b s:Nat) (a:Option Addr) (cap:Nat) (w:Wd):Hp:=sg b (.cells (mobj s a cap w) 36 (0,0))
structure LogOk (a:Option Addr) (cap:Nat) (w:Wd) (g:Hp):Prop where
 le:w.st.toNat≤cap
 lo:0≤w.st
 hi:w.st≤1000000000
 own:(a=none∧cap=0∧g=fun _=>none)∨∃ x c,a=some ⟨x,0,none⟩∧g=sg x (.cells c 33 (0,0))∧c.size=cap*6

section
variable {W:World} {H g:Hp} {b s cap:Nat} {a:Option Addr} {w:Wd} {l:List Hp}

theorem m_note (cl' kd' a' was' pt':Int) (ok':Bool) (hL:LogOk a cap w g) (hl:w.st+1≤1000000000) (hS:Sep (mB b s a cap w :: g :: l) H) :
  CallP Tryz.prog W 122 #[.pointer (some ⟨b,0,none⟩),.agg #[.int .i64 cl',.int .i64 kd',.int .i64 a',.int .u64 was',.int .u64 pt',.bool ok']] H
   fun v H'=>v=.tuple #[]∧∃ a2 cap2 g2,LogOk a2 cap2 { w with st:=w64 (w.st+1),cl:=cl',kd:=kd',pl:=a',was:=was',pt:=pt',ok:=ok' } g2∧Sep (mB b s a2 cap2 { w with st:=w64 (w.st+1),cl:=cl',kd:=kd',pl:=a',was:=was',pt:=pt',ok:=ok' } :: g2 :: l) H':=by
 refine CallP.of mixed Tryz.func122 tr122 (by show 2≤_;decide) fun W _=>?_
 have hb:=hS.look
 have l1:=hL.le
 have l2:=hL.lo
 have hst:w64 (w.st+1)=w.st+1:=w64_eq (by omega) (by omega)
 have hsn:(w.st+1).toNat=w.st.toNat+1:=by omega
 have l4:=hL.own
 simp only[↓DD,UU,↓reduceIte,xA,xB,xC,xD,xE,xF,xG,xH,xI,xJ,xK,xL,xM,xN,xO,xP,xQ,ne_eq,eq_self]
 refine newB_intro fun x hx f1 f2=>?_
 have n1:(b=x)=False:=f1 b (by rw[hb];rfl)
 have n2:(x=b)=False:=f2 b (by rw[hb];rfl)
 have r1:=fun o=>rd_of hb o
 simp only[n1,n2,hb,r1,mobj,wrap_w64,hst,↓DD,UU,↓reduceIte,xA,xB,xC,xD,xE,xF,xG,xH,xI,xJ,xK,xL,xM,xN,xO,xP,xQ,ne_eq,eq_self]
 have hS1:=((hS.new f1 (.cells #[.int .i64 cl',.int .i64 kd',.int .i64 a',.int .u64 was',.int .u64 pt',.bool ok'] 33 (0,0))).p1.set (.cells #[.slice (some ⟨s,0,none⟩) w.n w.n,.int .i64 (w.st+1),.int .i64 cl',.int .i64 kd',.int .i64 a',.int .u64 was',.int .u64 pt',.bool ok',.slice a w.st.toNat cap] 36 (0,0)))
 revert hS1
 generalize hH1:upd (upd H x _) b _=H1
 intro hS1
 clear hH1 hb r1 hS f1 f2
 have hb:=hS1.look
 have hx':=hS1.p1.look
 refine draw_intro [(b,#[.slice (some ⟨s,0,none⟩) w.n w.n,.int .i64 (w.st+1),.int .i64 cl',.int .i64 kd',.int .i64 a',.int .u64 was',.int .u64 pt',.bool ok',.slice a w.st.toNat cap],[]),(x,#[.int .i64 cl',.int .i64 kd',.int .i64 a',.int .u64 was',.int .u64 pt',.bool ok'],[])] ?_ ?_
 ·simp only[hb,hx',↓DD,UU,↓reduceIte,xA,xB,xC,xD,xE,xF,xG,xH,xI,xJ,xK,xL,xM,xN,xO,xP,xQ,ne_eq,eq_self]
 have r1:=fun o=>rd_of hb o
 have r2:=fun o n=>rdn_of hx' o n
 simp only[hb,hx',n1,n2,r1,r2,↓DD,UU,↓reduceIte,xA,xB,xC,xD,xE,xF,xG,xH,xI,xJ,xK,xL,xM,xN,xO,xP,xQ,ne_eq,eq_self]
 refine newB_intro fun y hy f3 f4=>?_
 have n3:(b=y)=False:=f3 b (by rw[hb];rfl)
 have n4:(y=b)=False:=f4 b (by rw[hb];rfl)
 have n5:(x=y)=False:=f3 x (by rw[hx'];rfl)
 have n6:(y=x)=False:=f4 x (by rw[hx'];rfl)
 have hnew:rds (upd H1 y (.cells #[.int .i64 cl',.int .i64 kd',.int .i64 a',.int .u64 was',.int .u64 pt',.bool ok'] 33 (0,0))) (some ⟨y,0,none⟩) 6=some #[.int .i64 cl',.int .i64 kd',.int .i64 a',.int .u64 was',.int .u64 pt',.bool ok']:=by
  simp only[rds,↓DD,UU,↓reduceIte,xA,xB,xC,xD,xE,xF,xG,xH,xI,xJ,xK,xL,xM,xN,xO,xP,xQ,ne_eq,eq_self]
 simp only[hb,hx',n1,n2,n3,n4,n5,n6,r1,r2,hnew,↓DD,UU,↓reduceIte,xA,xB,xC,xD,xE,xF,xG,xH,xI,xJ,xK,xL,xM,xN,xO,xP,xQ,ne_eq,eq_self]
 have hS2:=hS1.new f3 (.cells #[.int .i64 cl',.int .i64 kd',.int .i64 a',.int .u64 was',.int .u64 pt',.bool ok'] 33 (0,0))
 by_cases hroom:w.st.toNat+1≤cap
 ·rcases l4 with⟨rfl,rfl,rfl⟩|⟨z,c,rfl,rfl,hc⟩
  ·omega
  have hz:=hS2.lk 3 rfl
  have n7:=hS2.neq 1 3 (by decide) rfl rfl
  have n7':=hS2.qen 1 3 (by decide) rfl rfl
  have n8:=hS2.neq 2 3 (by decide) rfl rfl
  have n8':=hS2.qen 2 3 (by decide) rfl rfl
  have n9:=hS2.neq 0 3 (by decide) rfl rfl
  have n9':=hS2.qen 0 3 (by decide) rfl rfl
  have hz1:=hS1.lk 2 rfl
  have e1:w.st.toNat*6+6≤c.size:=by omega
  simp only[hroom,stow,hb,hx',hz1,n1,n2,n3,n4,n5,n6,n7,n7',n8,n8',n9,n9',r1,r2,e1,↓DD,UU,↓reduceIte,xA,xB,xC,xD,xE,xF,xG,xH,xI,xJ,xK,xL,xM,xN,xO,xP,xQ,ne_eq,eq_self]
  refine⟨some ⟨z,0,none⟩,cap,?g,?_,?_⟩
  rotate_left 2
  ·unfold mB mobj
   simp only[hst,hsn]
   exact((((hS2.p3.set _).p2.set _).p1.p3.tail).p1.p2.tail)
  ·exact⟨by show(w.st+1).toNat≤cap;omega,by show 0≤w.st+1;omega,by show w.st+1≤_;omega,.inr ⟨z,_,rfl,rfl,by simp only[Array.size_setIfInBounds];exact hc⟩⟩
 ·have g1:Builtin.nextslicecap (w.st.toNat+1) cap*48≤281474976710656:=by
   have:=nextslicecap_le (need:=w.st.toNat+1) (old:=cap) (by omega)
   omega
  have g2:w.st.toNat≤9223372036854775806:=by omega
  have hrn:(w.st.toNat+1≤cap)=False:=eq_false hroom
  obtain⟨old,hold,hsz⟩:∃ old:Array Value,rds (upd H1 y (.cells #[.int .i64 cl',.int .i64 kd',.int .i64 a',.int .u64 was',.int .u64 pt',.bool ok'] 33 (0,0))) a (w.st.toNat*6)=some old∧old.size=w.st.toNat*6:=by
   rcases l4 with⟨rfl,rfl,rfl⟩|⟨z,c,rfl,rfl,hc⟩
   ·have:w.st.toNat=0:=by omega
    rw[this];exact⟨#[],rfl,rfl⟩
   ·have hz:=hS2.lk 3 rfl
    cases hn:w.st.toNat*6 with
    | zero=>exact⟨#[],rfl,rfl⟩
    |succ m=>
     refine⟨c.extract 0 (0+(m+1)),?_,by simp;omega⟩
     show rdn _ z 0 (m+1)=_
     rw[rdn_of hz,if_pos (by omega)]
  simp only[hrn,hold,g1,g2,hb,hx',n1,n2,n3,n4,n5,n6,r1,r2,↓DD,UU,↓reduceIte,xA,xB,xC,xD,xE,xF,xG,xH,xI,xJ,xK,xL,xM,xN,xO,xP,xQ,ne_eq,eq_self]
  intro cap2 hc2
  refine newB_intro fun z hz0 f5 f6=>?_
  have hb2:=hS2.lk 1 rfl
  have hx2:=hS2.lk 2 rfl
  have n7:(b=z)=False:=f5 b (by rw[hb2];rfl)
  have n7':(z=b)=False:=f6 b (by rw[hb2];rfl)
  have n8:(x=z)=False:=f5 x (by rw[hx2];rfl)
  have n8':(z=x)=False:=f6 x (by rw[hx2];rfl)
  simp only[hb,hx',n1,n2,n3,n4,n5,n6,n7,n7',n8,n8',r1,r2,↓DD,UU,↓reduceIte,xA,xB,xC,xD,xE,xF,xG,xH,xI,xJ,xK,xL,xM,xN,xO,xP,xQ,ne_eq,eq_self]
  refine⟨some ⟨z,0,none⟩,cap2,?g2,?_,?_⟩
  rotate_left 2
  ·unfold mB mobj
   simp only[hst,hsn]
   exact((hS2.new f5 _).p2.set _).p2.tail.p2.tail.p2.tail
  ·exact⟨by show(w.st+1).toNat≤cap2;omega,by show 0≤w.st+1;omega,by show w.st+1≤_;omega,.inr ⟨z,_,rfl,rfl,by simp [Builtin.zeroCells,hsz];omega⟩⟩

theorem m_load (cl' at':Int) (h0:0≤at') (h:at'<w.n) (hL:LogOk a cap w g) (hl:w.st+1≤1000000000) (hS:Sep (mB b s a cap w :: wR s w :: g :: l) H) :
  CallP Tryz.prog W 94 #[.pointer (some ⟨b,0,none⟩),.int .i64 cl',.int .i64 at'] H
   fun v H'=>v=.int .u64 (w.get at')∧∃ a2 cap2 g2,LogOk a2 cap2 (w.load cl' at') g2∧Sep (mB b s a2 cap2 (w.load cl' at') :: wR s (w.load cl' at') :: g2 :: l) H':=by
 refine CallP.of mixed Tryz.func94 tr94 (by show 3≤_;decide) fun W _=>?_
 have ht:at'.toNat<w.n:=by omega
 have ra:=urow_at (ws:=w.ws) ht
 have hb:=hS.look
 have hs:=hS.lk 1 rfl
 have rs:=fun o=>rd_of hs o
 have r1:=fun o=>rd_of hb o
 simp only[hb,hs,r1,rs,ra,h0,h,mobj,↓DD,UU,↓reduceIte,xA,xB,xC,xD,xE,xF,xG,xH,xI,xJ,xK,xL,xM,xN,xO,xP,xQ,ne_eq,eq_self]
 refine callT_of (m_note _ _ _ _ _ _ hL hl hS.p2.p1) ?_
 rintro v H' ⟨rfl,a2,cap2,g2,hL,hS⟩
 have hS:=hS.p2.p1
 have hb:=hS.look
 have hs:=hS.lk 1 rfl
 have rs:=fun o=>rd_of hs o
 have r1:=fun o=>rd_of hb o
 simp only[hb,hs,r1,rs,ra,h0,h,mobj,↓DD,UU,↓reduceIte,xA,xB,xC,xD,xE,xF,xG,xH,xI,xJ,xK,xL,xM,xN,xO,xP,xQ,ne_eq,eq_self]
 exact⟨rfl,a2,cap2,g2,hL,hS⟩
theorem m_store (cl' at' y:Int) (h0:0≤at') (h:at'<w.n) (hL:LogOk a cap w g) (hl:w.st+1≤1000000000) (hS:Sep (mB b s a cap w :: wR s w :: g :: l) H) :
  CallP Tryz.prog W 80 #[.pointer (some ⟨b,0,none⟩),.int .i64 cl',.int .i64 at',.int .u64 y] H
   fun v H'=>v=.tuple #[]∧∃ a2 cap2 g2,LogOk a2 cap2 (w.store cl' at' y) g2∧Sep (mB b s a2 cap2 (w.store cl' at' y) :: wR s (w.store cl' at' y) :: g2 :: l) H':=by
 refine CallP.of mixed Tryz.func80 tr80 (by show 4≤_;decide) fun W _=>?_
 have ht:at'.toNat<w.n:=by omega
 have ra:=urow_at (ws:=w.ws) ht
 have hz:=urow_size w.n w.ws
 have hb:=hS.look
 have hs:=hS.lk 1 rfl
 have rs:=fun o=>rd_of hs o
 have r1:=fun o=>rd_of hb o
 simp only[hb,hs,r1,rs,ra,h0,h,mobj,↓DD,UU,↓reduceIte,xA,xB,xC,xD,xE,xF,xG,xH,xI,xJ,xK,xL,xM,xN,xO,xP,xQ,ne_eq,eq_self]
 refine callT_of (m_note _ _ _ _ _ _ hL hl hS.p2.p1) ?_
 rintro v H' ⟨rfl,a2,cap2,g2,hL,hS⟩
 have hS:=hS.p2.p1
 have hb:=hS.look
 have hs:=hS.lk 1 rfl
 have rs:=fun o=>rd_of hs o
 have r1:=fun o=>rd_of hb o
 simp only[hb,hs,r1,rs,ra,h0,h,ht,hz,urow_set,mobj,↓DD,UU,↓reduceIte,xA,xB,xC,xD,xE,xF,xG,xH,xI,xJ,xK,xL,xM,xN,xO,xP,xQ,ne_eq,eq_self]
 exact⟨a2,cap2,g2,⟨hL.le,hL.lo,hL.hi,hL.own⟩,(hS.p1.set _).p1⟩
theorem m_swap (cl' at' x y:Int) (h0:0≤at') (h:at'<w.n) (hL:LogOk a cap w g) (hl:w.st+1≤1000000000) (hS:Sep (mB b s a cap w :: wR s w :: g :: l) H) :
  CallP Tryz.prog W 134 #[.pointer (some ⟨b,0,none⟩),.int .i64 cl',.int .i64 at',.int .u64 x,.int .u64 y] H
   fun v H'=>v=.bool (w.get at' == x)∧∃ a2 cap2 g2,LogOk a2 cap2 (w.swap cl' at' x y) g2∧Sep (mB b s a2 cap2 (w.swap cl' at' x y) :: wR s (w.swap cl' at' x y) :: g2 :: l) H':=by
 refine CallP.of mixed Tryz.func134 tr134 (by show 5≤_;decide) fun W _=>?_
 have ht:at'.toNat<w.n:=by omega
 have ra:=urow_at (ws:=w.ws) ht
 have hz:=urow_size w.n w.ws
 have hb:=hS.look
 have hs:=hS.lk 1 rfl
 have rs:=fun o=>rd_of hs o
 have r1:=fun o=>rd_of hb o
 simp only[hb,hs,r1,rs,ra,h0,h,mobj,↓DD,UU,↓reduceIte,xA,xB,xC,xD,xE,xF,xG,xH,xI,xJ,xK,xL,xM,xN,xO,xP,xQ,ne_eq,eq_self]
 refine callT_of (m_note _ _ _ _ _ _ hL hl hS.p2.p1) ?_
 rintro v H' ⟨rfl,a2,cap2,g2,hL,hS⟩
 have hS:=hS.p2.p1
 have hb:=hS.look
 have hs:=hS.lk 1 rfl
 have rs:=fun o=>rd_of hs o
 have r1:=fun o=>rd_of hb o
 simp only[hb,hs,r1,rs,ra,h0,h,ht,hz,urow_set,mobj,↓DD,UU,↓reduceIte,xA,xB,xC,xD,xE,xF,xG,xH,xI,xJ,xK,xL,xM,xN,xO,xP,xQ,ne_eq,eq_self]
 refine both_intro (fun q=>?_) (fun q=>?_)<;>simp only[q,hb,hs,r1,rs,ra,h0,h,ht,hz,urow_set,mobj,↓DD,UU,↓reduceIte,xA,xB,xC,xD,xE,xF,xG,xH,xI,xJ,xK,xL,xM,xN,xO,xP,xQ,ne_eq,eq_self]
 ·refine⟨by simp [Wd.get,q],a2,cap2,g2,⟨hL.le,hL.lo,hL.hi,hL.own⟩,?_⟩
  have h2:=(hS.p1.set (.cells (urow w.n fun j=>if j=at'.toNat then y else w.ws j) 30 (0,0))).p1
  have e:w.swap cl' at' x y = { w.store cl' at' y with kd:=2,ok:=w.ws at'.toNat == x }:=by unfold Wd.swap Wd.store Wd.get;simp only[q,↓reduceIte]
  rw[e];exact h2
 ·refine⟨by simp [Wd.get,q],a2,cap2,g2,⟨hL.le,hL.lo,hL.hi,hL.own⟩,?_⟩
  have e:w.swap cl' at' x y = { w.load cl' at' with kd:=2,pt:=y,ok:=w.ws at'.toNat == x }:=by
   unfold Wd.swap Wd.load Wd.get;simp only[q,Bool.false_eq_true,↓reduceIte,Wd.mk.injEq,and_true,true_and]
   funext j;split
   ·rename_i e;rw[e]
   ·rfl
  rw[e];exact hS
theorem LogOk.zero (n:Nat):LogOk none 0 (Wd.zero n) fun _=>none:=⟨by simp [Wd.zero],by simp [Wd.zero],by simp [Wd.zero],.inl ⟨rfl,rfl,rfl⟩⟩
theorem m_new (n:Nat) (hn:n≤2000) (hS:Sep l H) :
  CallP Tryz.prog W 32 #[.int .i64 (n:Int)] H fun v H'=>∃ b s,v=.pointer (some ⟨b,0,none⟩)∧Sep (mB b s none 0 (Wd.zero n) :: wR s (Wd.zero n) :: l) H':=by
 refine CallP.of mixed Tryz.func32 tr32 (by show 1≤_;decide) fun W _=>?_
 have g1:decide ((n:Int)<0)=false:=decide_eq_false (by omega)
 have g2:decide ((2000:Int)<(n:Int))=false:=decide_eq_false (by omega)
 have a1:(0:Int)≤(n:Int):=by omega
 have a2:(8:Int)*(n:Int)≤281474976710656:=by omega
 have a3:(n:Int)≤9223372036854775807:=by omega
 simp only[g1,g2,a1,a2,a3,Int.le_refl,Int.toNat_natCast,↓DD,UU,↓reduceIte,xA,xB,xC,xD,xE,xF,xG,xH,xI,xJ,xK,xL,xM,xN,xO,xP,xQ,ne_eq,eq_self]
 refine newB_intro fun x hx f1 f2=>?_
 simp only[↓DD,UU,↓reduceIte,xA,xB,xC,xD,xE,xF,xG,xH,xI,xJ,xK,xL,xM,xN,xO,xP,xQ,ne_eq,eq_self]
 refine newB_intro fun y hy f3 f4=>?_
 simp only[↓DD,UU,↓reduceIte,xA,xB,xC,xD,xE,xF,xG,xH,xI,xJ,xK,xL,xM,xN,xO,xP,xQ,ne_eq,eq_self]
 refine⟨y,x,rfl,?_⟩
 have h1:=(hS.new f1 (.cells (urow n fun _=>0) 30 (0,0)))
 rw[urow_zero]at *
 exact h1.new f3 _
end

end Go.Proofs.YtbcdaglbdnkocaaGreat
