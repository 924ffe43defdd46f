/-
 The shared words: contracts of package words, over heaps in parts. Conditions: none.
-/
import Derived.Test.YtkjpgikjcfhckaaGreatPack
import Derived.Test.YtkjpgikjcfhckaaGreatSep
import Derived.Test.YtkjpgikjcfhckaaGreatMa
open Nat renaming reduceAdd→xA,reduceMul→xB,reduceSub→xC,reduceEqDiff→xD,reduceBEq→xE,reduceLeDiff→xF,reduceLT→xG
open Int renaming reduceAdd→xH,reduceMul→xI,reduceSub→xJ,reduceLT→xK,reduceLE→xL,reduceToNat→xM,reduceEq→xN,reduceNe→xO,reduceBEq→xP,reduceBNe→xQ
set_option linter.unusedVariables false
set_option linter.unusedSimpArgs false
set_option maxRecDepth 8000
namespace Go.Proofs.YtkjpgikjcfhckaaGreat
open Go Go.Ev Go.Pl Go.Ma

def urow (n:Nat) (ws:Nat→Int):Array Value:=Array.ofFn (n:=n) fun j=>.int .u64 (ws j.val)
theorem urow_size (n:Nat) (ws:Nat→Int):(urow n ws).size=n:=by simp [urow]
theorem urow_at {n:Nat} {ws:Nat→Int} {i:Nat} (h:i<n):(urow n ws)[i]? = some (.int .u64 (ws i)):=by simp [urow,h]
theorem urow_set {n:Nat} {ws:Nat→Int} {i:Nat} (x:Int):(urow n ws).setIfInBounds i (.int .u64 x)=urow n (fun j=>if j=i then x else ws j):=by
 apply Array.ext
 ·simp [urow]
 ·intro k h1 h2
  have hk:k<n:=by simpa [urow] using h2
  rw[Array.getElem_setIfInBounds (by simpa [urow] using hk)]
  by_cases h:i=k
  ·subst h;simp [urow]
  ·have h':¬ k=i:=fun e=>h e.symm
   simp [urow,h,h']

def wobj (s:Nat) (w:Wd):Array Value:=
 #[.slice (some ⟨s,0,none⟩) w.n w.n,.int .i64 w.st,.int .i64 w.cl,.int .i64 w.kd,.int .i64 w.pl,.int .u64 w.was,.int .u64 w.pt,.bool w.ok]
def wB (b s:Nat) (w:Wd):Hp:=sg b (.cells (wobj s w) 159 (0,0))
def wR (s:Nat) (w:Wd):Hp:=sg s (.cells (urow w.n w.ws) 50 (0,0))

section
variable {W:World} {H:Hp} {b s:Nat} {w:Wd} {l:List Hp}

theorem c_in (a:Int) (hS:Sep (wB b s w :: l) H) :
  CallP Tryz.prog W 104 #[.pointer (some ⟨b,0,none⟩),.int .i64 a] H fun v H'=>v=.bool (decide (0≤a) && decide (a<w.n))∧Sep (wB b s w :: l) H':=by
 refine CallP.of mixed Tryz.func104 tr104 (by show 2≤_;decide) fun W _=>?_
 have hb:=hS.look
 have r1:=fun o=>rd_of hb o
 simp only[↓DD,UU,↓reduceIte,xA,xE]
 refine both_intro (fun g=>?_) (fun g=>?_)<;>simp only[g,r1,wobj,Bool.false_and,Bool.true_and,↓DD,UU,xA,xE]
 ·exact hS
 ·exact hS
theorem c_must (a:Int) (h0:0≤a) (h:a<w.n) (hS:Sep (wB b s w :: l) H) :
  CallP Tryz.prog W 211 #[.pointer (some ⟨b,0,none⟩),.int .i64 a] H fun v H'=>v=.tuple #[]∧Sep (wB b s w :: l) H':=by
 refine CallP.of mixed Tryz.func211 tr211 (by show 2≤_;decide) fun W _=>?_
 have g1:decide (0≤a)=true:=decide_eq_true h0
 have g2:decide (a<(w.n:Int))=true:=decide_eq_true h
 simp only[↓DD,UU,xA,xE]
 refine callT_of (c_in a hS) ?_
 rintro v H' ⟨rfl,hS⟩
 simp only[g1,g2,↓DD,UU,xA]
 exact hS
theorem c_note (cl' kd' a' was' pt':Int) (ok':Bool) (hS:Sep (wB b s w :: l) H) :
  CallP Tryz.prog W 212 #[.pointer (some ⟨b,0,none⟩),.agg #[.int .i64 cl',.int .i64 kd',.int .i64 a',.int .u64 was',.int .u64 pt',.bool ok']] H
   fun v H'=>v=.tuple #[]∧Sep (wB b s { w with st:=w64 (w.st+1),cl:=cl',kd:=kd',pl:=a',was:=was',pt:=pt',ok:=ok' } :: l) H':=by
 refine CallP.of mixed Tryz.func212 tr212 (by show 2≤_;decide) fun W _=>?_
 have hb:=hS.look
 simp only[↓DD,UU,xA,xE]
 refine newB_intro fun x hx f1 f2=>?_
 have n1:(b=x)=False:=f1 b (by rw[hb];rfl)
 have n2:(x=b)=False:=f2 b (by rw[hb];rfl)
 have r1:=fun o=>rd_of hb o
 simp only[n1,n2,hb,r1,wobj,wrap_w64,↓DD,UU,↓reduceIte,xA,xC,xE,xF,xG]
 exact((hS.new f1 _).p1.set _).p1.tail
theorem c_load (cl' a:Int) (h0:0≤a) (h:a<w.n) (hS:Sep (wB b s w :: wR s w :: l) H) :
  CallP Tryz.prog W 200 #[.pointer (some ⟨b,0,none⟩),.int .i64 cl',.int .i64 a] H
   fun v H'=>v=.int .u64 (w.get a)∧Sep (wB b s (w.load cl' a) :: wR s (w.load cl' a) :: l) H':=by
 refine CallP.of mixed Tryz.func200 tr200 (by show 3≤_;decide) fun W _=>?_
 have ht:a.toNat<w.n:=by omega
 have ra:=urow_at (ws:=w.ws) ht
 simp only[↓DD,UU,xA,xE]
 refine callT_of (c_must a h0 h hS) ?_
 rintro v H' ⟨rfl,hS⟩
 have hb:=hS.look
 have hs:=hS.tail.look
 have rs:=fun o=>rd_of hs o
 have r1:=fun o=>rd_of hb o
 simp only[r1,rs,ra,h0,h,wobj,Nat.mul_one,↓DD,UU,xA,xE]
 refine callT_of (c_note _ _ _ _ _ _ hS) ?_
 rintro v H' ⟨rfl,hS⟩
 have hb:=hS.look
 have hs:=hS.tail.look
 have rs:=fun o=>rd_of hs o
 have r1:=fun o=>rd_of hb o
 simp only[r1,rs,ra,h0,h,wobj,Nat.mul_one,↓DD,UU,xA,xE]
 exact⟨rfl,hS⟩
theorem c_store (cl' a:Int) (y:Int) (h0:0≤a) (h:a<w.n) (hS:Sep (wB b s w :: wR s w :: l) H) :
  CallP Tryz.prog W 199 #[.pointer (some ⟨b,0,none⟩),.int .i64 cl',.int .i64 a,.int .u64 y] H
   fun v H'=>v=.tuple #[]∧Sep (wB b s (w.store cl' a y) :: wR s (w.store cl' a y) :: l) H':=by
 refine CallP.of mixed Tryz.func199 tr199 (by show 4≤_;decide) fun W _=>?_
 have ht:a.toNat<w.n:=by omega
 have ra:=urow_at (ws:=w.ws) ht
 have hz:=urow_size w.n w.ws
 simp only[↓DD,UU,xA,xE]
 refine callT_of (c_must a h0 h hS) ?_
 rintro v H' ⟨rfl,hS⟩
 have hb:=hS.look
 have hs:=hS.tail.look
 have rs:=fun o=>rd_of hs o
 have r1:=fun o=>rd_of hb o
 simp only[r1,rs,ra,h0,h,wobj,Nat.mul_one,↓DD,UU,xA,xE]
 refine callT_of (c_note _ _ _ _ _ _ hS) ?_
 rintro v H' ⟨rfl,hS⟩
 have hb:=hS.look
 have hs:=hS.tail.look
 have rs:=fun o=>rd_of hs o
 have r1:=fun o=>rd_of hb o
 simp only[hs,r1,h0,h,ht,hz,urow_set,wobj,Nat.mul_one,↓DD,UU,xA,xE]
 exact(hS.p1.set _).p1
theorem c_swap (cl' a:Int) (x y:Int) (h0:0≤a) (h:a<w.n) (hS:Sep (wB b s w :: wR s w :: l) H) :
  CallP Tryz.prog W 203 #[.pointer (some ⟨b,0,none⟩),.int .i64 cl',.int .i64 a,.int .u64 x,.int .u64 y] H
   fun v H'=>v=.bool (w.get a == x)∧Sep (wB b s (w.swap cl' a x y) :: wR s (w.swap cl' a x y) :: l) H':=by
 refine CallP.of mixed Tryz.func203 tr203 (by show 5≤_;decide) fun W _=>?_
 have ht:a.toNat<w.n:=by omega
 have ra:=urow_at (ws:=w.ws) ht
 have hz:=urow_size w.n w.ws
 simp only[↓DD,UU,xA,xE]
 refine callT_of (c_must a h0 h hS) ?_
 rintro v H' ⟨rfl,hS⟩
 have hb:=hS.look
 have hs:=hS.tail.look
 have rs:=fun o=>rd_of hs o
 have r1:=fun o=>rd_of hb o
 simp only[r1,rs,ra,h0,h,wobj,Nat.mul_one,↓DD,UU,xA,xE]
 refine callT_of (c_note _ _ _ _ _ _ hS) ?_
 rintro v H' ⟨rfl,hS⟩
 have hb:=hS.look
 have hs:=hS.tail.look
 have rs:=fun o=>rd_of hs o
 have r1:=fun o=>rd_of hb o
 simp only[↓DD,UU,xA,xE]
 refine both_intro (fun g=>?_) (fun g=>?_)<;>simp only[g,hs,r1,h0,h,ht,hz,urow_set,wobj,Nat.mul_one,↓DD,UU,xA,xE]
 ·refine⟨by simp [Wd.get,g],?_⟩
  have h2:=(hS.p1.set (.cells (urow w.n fun j=>if j=a.toNat then y else w.ws j) 50 (0,0))).p1
  have e:w.swap cl' a x y = { w.store cl' a y with kd:=2,ok:=w.ws a.toNat == x }:=by unfold Wd.swap Wd.store Wd.get;simp only[g,↓reduceIte]
  rw[e];exact h2
 ·refine⟨by simp [Wd.get,g],?_⟩
  have e:w.swap cl' a x y = { w.load cl' a with kd:=2,pt:=y,ok:=w.ws a.toNat == x }:=by
   unfold Wd.swap Wd.load Wd.get;simp only[g,Bool.false_eq_true,↓reduceIte,Wd.mk.injEq,and_true,true_and]
   funext j;split
   ·rename_i e;rw[e]
   ·rfl
  rw[e];exact hS

theorem c_look (a:Int) (h0:0≤a) (h:a<w.n) (hS:Sep (wB b s w :: wR s w :: l) H) :
  CallP Tryz.prog W 76 #[.pointer (some ⟨b,0,none⟩),.int .i64 a] H fun v H'=>v=.int .u64 (w.get a)∧Sep (wB b s w :: wR s w :: l) H':=by
 refine CallP.of mixed Tryz.func76 tr76 (by show 2≤_;decide) fun W _=>?_
 have ht:a.toNat<w.n:=by omega
 have ra:=urow_at (ws:=w.ws) ht
 have g1:decide (0≤a)=true:=decide_eq_true h0
 have g2:decide (a<(w.n:Int))=true:=decide_eq_true h
 simp only[↓DD,UU,xA,xE]
 refine callT_of (c_in a hS) ?_
 rintro v H' ⟨rfl,hS⟩
 have hb:=hS.look
 have hs:=hS.tail.look
 have rs:=fun o=>rd_of hs o
 have r1:=fun o=>rd_of hb o
 simp only[r1,rs,ra,h0,h,wobj,Nat.mul_one,↓DD,UU,xA,xE]
 exact⟨rfl,hS⟩
theorem c_put (a y:Int) (h0:0≤a) (h:a<w.n) (hS:Sep (wB b s w :: wR s w :: l) H) :
  CallP Tryz.prog W 91 #[.pointer (some ⟨b,0,none⟩),.int .i64 a,.int .u64 y] H fun v H'=>v=.bool true∧Sep (wB b s (w.put a y) :: wR s (w.put a y) :: l) H':=by
 refine CallP.of mixed Tryz.func91 tr91 (by show 3≤_;decide) fun W _=>?_
 have ht:a.toNat<w.n:=by omega
 have hz:=urow_size w.n w.ws
 have g1:decide (0≤a)=true:=decide_eq_true h0
 have g2:decide (a<(w.n:Int))=true:=decide_eq_true h
 simp only[↓DD,UU,xA,xE]
 refine callT_of (c_in a hS) ?_
 rintro v H' ⟨rfl,hS⟩
 have hb:=hS.look
 have hs:=hS.tail.look
 have rs:=fun o=>rd_of hs o
 have r1:=fun o=>rd_of hb o
 simp only[hs,r1,h0,h,ht,hz,urow_set,wobj,Nat.mul_one,↓DD,UU,xA,xE]
 exact(hS.p1.set _).p1
theorem c_steps (hS:Sep (wB b s w :: l) H) :
  CallP Tryz.prog W 83 #[.pointer (some ⟨b,0,none⟩)] H fun v H'=>v=.int .i64 w.st∧Sep (wB b s w :: l) H':=by
 refine CallP.of mixed Tryz.func83 tr83 (by show 1≤_;decide) fun W _=>?_
 have hb:=hS.look
 have r1:=fun o=>rd_of hb o
 simp only[r1,wobj,↓DD,UU,↓reduceIte,xE]
 exact hS
def wlast (w:Wd):Array Value:=#[.int .i64 w.cl,.int .i64 w.kd,.int .i64 w.pl,.int .u64 w.was,.int .u64 w.pt,.bool w.ok]
theorem c_last (hS:Sep (wB b s w :: l) H) :
  CallP Tryz.prog W 85 #[.pointer (some ⟨b,0,none⟩)] H fun v H'=>v=.agg (wlast w)∧Sep (wB b s w :: l) H':=by
 refine CallP.of mixed Tryz.func85 tr85 (by show 1≤_;decide) fun W _=>?_
 have hb:=hS.look
 simp only[↓DD,UU]
 refine newB_intro fun x hx f1 f2=>?_
 have n1:(b=x)=False:=f1 b (by rw[hb];rfl)
 have n2:(x=b)=False:=f2 b (by rw[hb];rfl)
 have r1:=fun o n=>rdn_of hb o n
 simp only[r1,n1,wobj,↓DD,UU,↓reduceIte,xA,xC,xE,xF]
 exact⟨rfl,(hS.new f1 _).tail⟩
theorem urow_zero (n:Nat):Array.replicate n (Value.int .u64 0)=urow n fun _=>0:=by
 apply Array.ext
 ·simp [urow]
 ·intro i h1 h2;simp [urow]
def Wd.zero (n:Nat):Wd:=⟨n,fun _=>0,0,0,0,0,0,0,false⟩
theorem c_wnew (n:Nat) (hn:n≤2000) (hS:Sep l H) :
  CallP Tryz.prog W 77 #[.int .i64 (n:Int)] H fun v H'=>∃ b s,v=.pointer (some ⟨b,0,none⟩)∧Sep (wB b s (Wd.zero n) :: wR s (Wd.zero n) :: l) H':=by
 refine CallP.of mixed Tryz.func77 tr77 (by show 1≤_;decide) fun W _=>?_
 have g1:decide ((n:Int)<0)=false:=decide_eq_false (by omega)
 have g2:decide ((2000:Int)<(n:Int))=false:=decide_eq_false (by omega)
 have a1:(0:Int)≤(n:Int):=by omega
 have a2:(8:Int)*(n:Int)≤281474976710656:=by omega
 have a3:(n:Int)≤9223372036854775807:=by omega
 simp only[g1,g2,a1,a2,a3,Int.le_refl,Int.toNat_natCast,↓DD,UU,xE]
 refine newB_intro fun x hx f1 f2=>?_
 simp only[↓DD,UU]
 refine newB_intro fun y hy f3 f4=>?_
 simp only[↓DD,UU]
 refine⟨y,x,rfl,?_⟩
 have h1:=(hS.new f1 (.cells (urow n fun _=>0) 50 (0,0)))
 rw[urow_zero]at *
 exact h1.new f3 _
def RowU (h:Hp) (a:Option Addr) (n:Nat) (ws:Nat→Int):Prop:=n=0∨∃ b o,a=some ⟨b,o,none⟩∧∀ i,i<n→rd h b (o+i)=some (.int .u64 (ws i))
theorem RowU.sub {h h':Hp} {a:Option Addr} {n:Nat} {ws:Nat→Int} (hr:RowU h a n ws) (hs:Sub h h'):RowU h' a n ws:=by
 rcases hr with hr |⟨b,o,rfl,hr⟩
 ·exact .inl hr
 ·refine .inr ⟨b,o,rfl,fun i hi=>?_⟩
  have:=hr i hi
  unfold rd at this ⊢
  split at this
  ·rename_i c T f e;rw[hs _ _ e];exact this
  ·cases this
theorem RowU.own (s n:Nat) (ws:Nat→Int) (T:TypeId) (f:Nat×Nat):RowU (sg s (.cells (urow n ws) T f)) (some ⟨s,0,none⟩) n ws:=
 .inr ⟨s,0,rfl,fun i hi=>by rw[rd_of (sg_at _ _),Nat.zero_add,urow_at hi]⟩
theorem RowU.at' {h:Hp} {a:Option Addr} {n:Nat} {ws:Nat→Int} (hr:RowU h a n ws) {i:Nat} (hi:i<n):∃ b o,a=some ⟨b,o,none⟩∧rd h b (o+i)=some (.int .u64 (ws i)):=by
 rcases hr with hr |⟨b,o,rfl,hr⟩
 ·omega
 ·exact⟨b,o,rfl,hr i hi⟩
theorem urow_extract (n:Nat) (ws:Nat→Int):(urow n ws).extract 0 (0+n)=urow n ws:=by
 apply Array.ext<;>simp [urow]
theorem rds_own {H:Hp} {s n:Nat} {ws:Nat→Int} {T:TypeId} {f:Nat×Nat} (h:H s=some (.cells (urow n ws) T f)):rds H (some ⟨s,0,none⟩) n=some (urow n ws):=by
 cases n with
 | zero=>simp [rds,urow]
 |succ n=>
  show rdn H s 0 (n+1)=_
  rw[rdn_of h,if_pos (by rw[urow_size];omega),urow_extract]

theorem c_clone {n:Nat} {ws:Nat→Int} {T:TypeId} (hn:n≤2000) (hS:Sep (sg s (.cells (urow n ws) T (0,0)) :: l) H) :
  CallP Tryz.prog W 95 #[.slice (some ⟨s,0,none⟩) n n] H fun v H'=>∃ a cap h,v=.slice a n cap∧RowU h a n ws∧Sep (h :: sg s (.cells (urow n ws) T (0,0)) :: l) H':=by
 refine CallP.of mixed Tryz.func95 tr95 (by show 1≤_;decide) fun W _=>?_
 have hs:=hS.look
 simp only[↓DD,UU,↓reduceIte,xE]
 refine newB_intro fun x hx f1 f2=>?_
 have n1:(s=x)=False:=f1 s (by rw[hs];rfl)
 have hs':upd H x (.cells #[] 50 (0,0)) s=some (.cells (urow n ws) T (0,0)):=by rw[upd_at,if_neg (fun e=>n1.mp e)];exact hs
 simp only[rds_own hs',↓DD,UU,xB,xE]
 cases n with
 |zero=>
  have e0:(urow 0 ws).size=0:=by simp [urow]
  have e1:(0:Nat)≤0:=Nat.le_refl _
  simp only[stow,e0,e1,↓DD,UU,↓reduceIte,xA]
  exact⟨_,_,_,rfl,.inl rfl,hS.new f1 _⟩
 |succ n=>
  have e1:(n+1≤0)=False:=by simp
  have e2:Builtin.nextslicecap (n+1) 0*8≤281474976710656:=by
   unfold Builtin.nextslicecap;rw[if_pos (by omega)];omega
  have e3:n+1≤9223372036854775807:=by omega
  have e4:rds (upd H x (.cells #[] 50 (0,0))) (some ⟨x,0,none⟩) 0=some #[]:=rfl
  simp only[e1,e2,e3,e4,UU,↓reduceIte]
  intro cap hcap
  refine newB_intro fun y hy f3 f4=>?_
  simp only[↓DD,UU]
  refine⟨_,_,_,rfl,.inr ⟨y,0,rfl,fun i hi=>?_⟩,(hS.new f1 _).tail.new f3 _⟩
  rw[rd_of (sg_at _ _),Nat.zero_add,Array.getElem?_append_left (by simp [urow];omega),Array.getElem?_append_right (by simp),urow_at (by simpa using hi)]
  simp
theorem c_all (hn:w.n≤2000) (hS:Sep (wB b s w :: wR s w :: l) H) :
  CallP Tryz.prog W 52 #[.pointer (some ⟨b,0,none⟩)] H fun v H'=>∃ a cap h,v=.slice a w.n cap∧RowU h a w.n w.ws∧Sep (h :: wB b s w :: wR s w :: l) H':=by
 refine CallP.of mixed Tryz.func52 tr52 (by show 1≤_;decide) fun W _=>?_
 have hb:=hS.look
 have r1:=fun o=>rd_of hb o
 simp only[r1,wobj,↓DD,UU,↓reduceIte,xE]
 refine callT_of (c_clone hn hS.p1) ?_
 rintro v H' ⟨a,cap,h,rfl,hr,hS⟩
 simp only[↓DD,UU]
 exact⟨a,cap,h,rfl,hr,hS.p2.p1⟩
end

end Go.Proofs.YtkjpgikjcfhckaaGreat
