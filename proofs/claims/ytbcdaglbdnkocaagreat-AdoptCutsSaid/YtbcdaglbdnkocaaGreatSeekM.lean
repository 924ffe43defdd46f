/-
 Who seeks a slot: the document's machine goes as the program's plain one. Conditions: none.
-/
import Derived.Test.YtbcdaglbdnkocaaGreatCodeY
import Derived.Test.YtbcdaglbdnkocaaGreatSeek
import Derived.Test.YtbcdaglbdnkocaaGreatSlotM
import Derived.Test.YtbcdaglbdnkocaaGreatMaSk
import Derived.Test.YtbcdaglbdnkocaaGreatAlt
open Nat renaming reduceAdd→xA,reduceMul→xB,reduceSub→xC,reduceEqDiff→xD,reduceBEq→xE,reduceLeDiff→xF,reduceLT→xG
open Int renaming reduceAdd→xH,reduceMul→xI,reduceSub→xJ,reduceLT→xK,reduceLE→xL,reduceToNat→xM,reduceEq→xN,reduceNe→xO,reduceBEq→xP,reduceBNe→xQ
set_option linter.unusedVariables false
set_option linter.unusedSectionVars false
set_option linter.unusedSimpArgs false
set_option maxRecDepth 8000
namespace Go.Ev
theorem Sep.q6 {l:List Hp} {H a b c d e f g:Hp} (h:Sep (a :: b :: c :: d :: e :: f :: g :: l) H):Sep (b :: c :: d :: e :: f :: g :: a :: l) H:=h.perm (List.perm_middle (l₁:=[b,c,d,e,f,g]) (a:=a) (l₂:=l)).symm
theorem Sep.q7 {l:List Hp} {H a b c d e f g i:Hp} (h:Sep (a :: b :: c :: d :: e :: f :: g :: i :: l) H):Sep (b :: c :: d :: e :: f :: g :: i :: a :: l) H:=h.perm (List.perm_middle (l₁:=[b,c,d,e,f,g,i]) (a:=a) (l₂:=l)).symm
theorem Sep.q8 {l:List Hp} {H a b c d e f g i j:Hp} (h:Sep (a :: b :: c :: d :: e :: f :: g :: i :: j :: l) H):Sep (b :: c :: d :: e :: f :: g :: i :: j :: a :: l) H:=h.perm (List.perm_middle (l₁:=[b,c,d,e,f,g,i,j]) (a:=a) (l₂:=l)).symm
end Go.Ev
namespace Go.Ma
theorem Sc.fdn {m:Sc} {w:Wd} (nd:m.dn=false) (nf:m.fd=false) (h:(m.step w).1.fd=true):(m.step w).1.dn=true:=by
 have h1:m.miss.fd=m.fd:=by unfold Sc.miss Sc.turn;split<;>rfl
 revert h;unfold Sc.step;rw[if_neg (by rw[nd];decide)]
 split
 ·show(if m.mine w then { m with nx:=1 } else m.turn).fd=true→(if m.mine w then { m with nx:=1 } else m.turn).dn=true
  split<;>exact fun g=>by have g:m.fd=true:=g;rw[nf]at g;cases g
 ·split
  ·show(if w.get m.at'=opn m.k then { m with nx:=2 } else m.miss).fd=true→(if w.get m.at'=opn m.k then { m with nx:=2 } else m.miss).dn=true
   split
   ·exact fun g=>by have g:m.fd=true:=g;rw[nf]at g;cases g
   ·exact fun g=>by rw[h1,nf]at g;cases g
  ·show(if w.get m.at'=opn m.k then { m with fd:=true,dn:=true } else m.miss).fd=true→(if w.get m.at'=opn m.k then { m with fd:=true,dn:=true } else m.miss).dn=true
   split
   ·exact fun _=>rfl
   ·exact fun g=>by rw[h1,nf]at g;cases g
theorem Pc.fdn {m:Pc} {w:Wd} (nd:m.dn=false) (nf:m.fd=false) (h:(m.step w).1.fd=true):(m.step w).1.dn=true:=by
 have h1:m.next.fd=m.fd:=rfl
 revert h;unfold Pc.step;rw[if_neg (by rw[nd];decide)]
 split
 ·show(if w.get m.at'=0 then { m with fd:=true,dn:=true } else m.next).fd=true→(if w.get m.at'=0 then { m with fd:=true,dn:=true } else m.next).dn=true
  split
  ·exact fun _=>rfl
  ·exact fun g=>by rw[h1,nf]at g;cases g
 ·show(if w.get m.at'=0 then { m with em:=true } else m.next).fd=true→(if w.get m.at'=0 then { m with em:=true } else m.next).dn=true
  split
  ·exact fun g=>by have g:m.fd=true:=g;rw[nf]at g;cases g
  ·exact fun g=>by rw[h1,nf]at g;cases g
theorem St.hdn {m:St} {w:Wd} (nd:m.dn=false) (nf:m.hd=false) (h:(m.step w).1.hd=true):(m.step w).1.dn=true:=by
 revert h
 rcases St.step_cases m w with⟨-,e⟩|⟨hd,⟨hb,e⟩|⟨hb,hi,e⟩|⟨hb,hi,hz,e⟩|⟨hb,hi,hz,e⟩⟩<;>rw[e]
 ·exact fun g=>by rw[nf]at g;cases g
 ·exact fun g=>by rw[show _=m.hd from rfl,nf]at g;cases g
 ·exact fun _=>rfl
 ·exact fun g=>by rw[show _=m.hd from rfl,nf]at g;cases g
 ·exact fun g=>by rw[show _=m.hd from rfl,nf]at g;cases g
end Go.Ma
namespace Go.Proofs.YtbcdaglbdnkocaaGreat
open Go Go.Ev Go.Pl Go.Ma

def sdC (t:Sk) (pg sl:Int) (fd dn:Bool) (kt ks kp:Nat) (vb vs:Value) (n:Int):Array Value:=
 #[.int .i64 t.s.p,.int .i64 t.s.c,.int .i64 t.s.m,.int .i64 t.c,.int .i64 t.k,.int .i64 t.f,.int .i64 pg,.int .i64 sl,.bool fd,.bool dn,.pointer (some ⟨kt,0,none⟩),.pointer (some ⟨ks,0,none⟩),.pointer (some ⟨kp,0,none⟩),vb,vs,.int .i64 n]
def sdB (k:Nat) (c:Array Value):Hp:=sg k (.cells c 145 (0,0))
def sno:Hp:=fun _=>none
inductive SD (t:Sk):Array Value→Hp→Hp→Hp→Hp→Hp→Prop
 | dn (hd:t.dn=true) {pg sl:Int} {kt ks kp:Nat} {vb vs:Value} {n:Int} {X1 X2 X3 X4 X5:Hp} (hf:t.fd=true→pg=t.pg∧sl=t.sl):SD t (sdC t pg sl t.fd true kt ks kp vb vs n) X1 X2 X3 X4 X5
 | tk (hd:t.dn=false) {m:Tk} (e:t.nw=.tk m) {kt ks kp:Nat}:SD t (sdC t 0 0 false false kt ks kp (.pointer none) (.pointer none) 0) (rtB kt m) (rcB ks (Sc.new t.s t.c t.k t.f) t.f) (rpB kp (Pc.new t.s t.c t.f) t.f) sno sno
 | sc (hd:t.dn=false) {m:Sc} (e:t.nw=.sc m) {kt ks kp:Nat} {m1:Tk} (h1:m1.dn=true) {q:Int} (hq:m.dn=false∨m.fd=true→q=m.pg):SD t (sdC t 0 0 false false kt ks kp (.pointer none) (.pointer none) 0) (rtB kt m1) (rcB ks m q) (rpB kp (Pc.new t.s t.c t.f) t.f) sno sno
 | pc (hd:t.dn=false) {m:Pc} (e:t.nw=.pc m) {kt ks kp:Nat} {m1:Tk} (h1:m1.dn=true) {m2:Sc} {q2:Int} (h2:m2.dn=true) {q:Int} (hq:m.dn=false∨m.fd=true→q=m.pg):SD t (sdC t 0 0 false false kt ks kp (.pointer none) (.pointer none) 0) (rtB kt m1) (rcB ks m2 q2) (rpB kp m q) sno sno
 | no (hd:t.dn=false) (e:t.nw=.no) {kt ks kp:Nat} {m1:Tk} (h1:m1.dn=true) {m2:Sc} {q2:Int} (h2:m2.dn=true) {m3:Pc} {q3:Int} (h3:m3.dn=true) {X5:Hp}:SD t (sdC t 0 0 false false kt ks kp (.pointer none) (.pointer none) t.many) (rtB kt m1) (rcB ks m2 q2) (rpB kp m3 q3) sno X5
 | st (hd:t.dn=false) {m:St} (e:t.nw=.st m) {kt ks kp k5:Nat} {m1:Tk} (h1:m1.dn=true) {m2:Sc} {q2:Int} (h2:m2.dn=true) {m3:Pc} {q3:Int} (h3:m3.dn=true):SD t (sdC t 0 0 false false kt ks kp (.pointer none) (.pointer (some ⟨k5,0,none⟩)) t.many) (rtB kt m1) (rcB ks m2 q2) (rpB kp m3 q3) sno (rsB k5 m)
 | bi (hd:t.dn=false) {m:Bi} (e:t.nw=.bi m) {kt ks kp k4:Nat} {vs:Value} {n:Int} {X1 X2 X3 X5:Hp}:SD t (sdC t 0 0 false false kt ks kp (.pointer (some ⟨k4,0,none⟩)) vs n) X1 X2 X3 (rbB k4 m) X5
section
variable {W:World} {H:Hp} {k b s:Nat} {t:Sk} {w:Wd} {l:List Hp} {a:Option Addr} {cap:Nat} {g X1 X2 X3 X4 X5:Hp} {c:Array Value}

theorem m_sdfound {pg sl p i:Int} {fd dn:Bool} {kt ks kp:Nat} {vb vs:Value} {n:Int} (hS:Sep (sdB k (sdC t pg sl fd dn kt ks kp vb vs n) :: l) H) :
  CallP Tryz.prog W 124 #[.pointer (some ⟨k,0,none⟩),.int .i64 p,.int .i64 i] H fun v H'=>v=.tuple #[]∧Sep (sdB k (sdC t p i true true kt ks kp vb vs n) :: l) H':=by
 refine CallP.of mixed Tryz.func124 tr124 (by show 3≤_;decide) fun W _=>?_
 have hk:=hS.look
 simp only[hk,sdC,Ev.upd_upd,↓DD,UU,↓reduceIte,xA,xB,xC,xD,xE,xF,xG,xH,xI,xJ,xK,xL,xM,xN,xO,xP,xQ,ne_eq,eq_self]
 exact hS.set (.cells (sdC t p i true true kt ks kp vb vs n) 145 (0,0))
theorem m_sdbind {pg sl p:Int} {fd dn:Bool} {kt ks kp:Nat} {v4 vs:Value} {n:Int} (hv:v4.oneCell'=true) (hS:Sep (sdB k (sdC t pg sl fd dn kt ks kp v4 vs n) :: l) H) :
  CallP Tryz.prog W 128 #[.pointer (some ⟨k,0,none⟩),.int .i64 p] H fun v H'=>v=.tuple #[]∧∃ k4,Sep (sdB k (sdC t pg sl fd dn kt ks kp (.pointer (some ⟨k4,0,none⟩)) vs n) :: rbB k4 (Bi.new t.s t.c p t.k) :: l) H':=by
 refine CallP.of mixed Tryz.func128 tr128 (by show 2≤_;decide) fun W _=>?_
 have hk:=hS.look
 have r1:=fun o=>rd_of hk o
 have r2:=fun o n=>rdn_of hk o n
 refine draw_intro [(k,sdC t pg sl fd dn kt ks kp v4 vs n,[])] (by simp only[hk,sdC,hv,↓DD,UU,↓reduceIte,xA,xB,xC,xD,xE,xF,xG,xH,xI,xJ,xK,xL,xM,xN,xO,xP,xQ,ne_eq,eq_self]) ?_
 simp only[hk,r1,r2,sdC,↓DD,UU,↓reduceIte,xA,xB,xC,xD,xE,xF,xG,xH,xI,xJ,xK,xL,xM,xN,xO,xP,xQ,ne_eq,eq_self]
 refine callT_of (m_binew (sh:=t.s) hS) ?_
 rintro v H' ⟨k4,rfl,hS⟩
 have hk:=hS.lk 1 rfl
 have r1:=fun o=>rd_of hk o
 simp only[hk,r1,sdC,Ev.upd_upd,↓DD,UU,↓reduceIte,xA,xB,xC,xD,xE,xF,xG,xH,xI,xJ,xK,xL,xM,xN,xO,xP,xQ,ne_eq,eq_self]
 exact⟨k4,hS.p1.set (.cells (sdC t pg sl fd dn kt ks kp (.pointer (some ⟨k4,0,none⟩)) vs n) 145 (0,0))⟩
theorem m_sdon {pg sl:Int} {fd dn:Bool} {kt ks kp:Nat} {vb vs:Value} (hvb:vb.oneCell'=true) (hvs:vs.oneCell'=true) (hc:t.Cfg) (hS:Sep (sdB k (sdC t pg sl fd dn kt ks kp vb vs t.many) :: l) H) :
  CallP Tryz.prog W 130 #[.pointer (some ⟨k,0,none⟩)] H fun v H'=>v=.tuple #[]∧Sep (sdB k (sdC t pg sl fd (decide (t.many+1=t.s.p)) kt ks kp vb (.pointer none) (t.many+1)) :: l) H':=by
 refine CallP.of mixed Tryz.func130 tr130 (by show 1≤_;decide) fun W _=>?_
 have hk:=hS.look
 have r1:=fun o=>rd_of hk o
 have hb:=(may_iff _ _ _).1 hc.m
 have hn:=hc.n
 have w1:w64 (t.many+1)=t.many+1:=w64_eq (by omega) (by omega)
 simp only[hk,r1,sdC,wrap_w64,w1,Ev.upd_upd,↓DD,UU,↓reduceIte,xA,xB,xC,xD,xE,xF,xG,xH,xI,xJ,xK,xL,xM,xN,xO,xP,xQ,ne_eq,eq_self]
 have hS:=hS.set (.cells (sdC t pg sl fd dn kt ks kp vb (.pointer none) (t.many+1)) 145 (0,0))
 have hk:=hS.look
 have r1:=fun o=>rd_of hk o
 refine draw_intro [(k,sdC t pg sl fd dn kt ks kp vb (.pointer none) (t.many+1),[])] (by simp only[hk,sdC,hvb,↓DD,UU,↓reduceIte,xA,xB,xC,xD,xE,xF,xG,xH,xI,xJ,xK,xL,xM,xN,xO,xP,xQ,ne_eq,eq_self]) ?_
 simp only[hk,r1,sdC,Ev.upd_upd,↓DD,UU,↓reduceIte,xA,xB,xC,xD,xE,xF,xG,xH,xI,xJ,xK,xL,xM,xN,xO,xP,xQ,ne_eq,eq_self]
 have hS:=hS.set (.cells (sdC t pg sl fd (decide (t.many+1=t.s.p)) kt ks kp vb (.pointer none) (t.many+1)) 145 (0,0))
 rw[Ev.upd_upd]at hS
 exact hS
theorem m_sdnew {sh:Sh} {c kk f:Int} (hS:Sep l H) :
  CallP Tryz.prog W 75 #[.agg #[.int .i64 sh.p,.int .i64 sh.c,.int .i64 sh.m],.int .i64 c,.int .i64 kk,.int .i64 f] H fun v H'=>∃ k C X1 X2 X3,v=.pointer (some ⟨k,0,none⟩)∧SD (Sk.new sh c kk f) C X1 X2 X3 sno sno∧Sep (sdB k C :: X1 :: X2 :: X3 :: l) H':=by
 refine CallP.of mixed Tryz.func75 tr75 (by show 4≤_;decide) fun W _=>?_
 simp only[↓DD,UU,↓reduceIte,xA,xB,xC,xD,xE,xF,xG,xH,xI,xJ,xK,xL,xM,xN,xO,xP,xQ,ne_eq,eq_self]
 refine newB_intro fun x hx f1 f2=>?_
 have hS:=hS.new f1 (.cells #[.int .i64 sh.p,.int .i64 sh.c,.int .i64 sh.m] 23 (0,0))
 have hx1:=hS.look
 have r1:=fun o n=>rdn_of hx1 o n
 refine draw_intro [(x,#[.int .i64 sh.p,.int .i64 sh.c,.int .i64 sh.m],[])] (by simp only[hx1,↓DD,UU,↓reduceIte,xA,xB,xC,xD,xE,xF,xG,xH,xI,xJ,xK,xL,xM,xN,xO,xP,xQ,ne_eq,eq_self]) ?_
 simp only[hx1,r1,↓DD,UU,↓reduceIte,xA,xB,xC,xD,xE,xF,xG,xH,xI,xJ,xK,xL,xM,xN,xO,xP,xQ,ne_eq,eq_self]
 refine callT_of (m_tknew (sh:=sh) (c:=c) (kk:=kk) hS) ?_
 rintro v H' ⟨kt,rfl,hS⟩
 have hx1:=hS.lk 1 rfl
 simp only[hx1,↓DD,UU,↓reduceIte,xA,xB,xC,xD,xE,xF,xG,xH,xI,xJ,xK,xL,xM,xN,xO,xP,xQ,ne_eq,eq_self]
 refine callT_of (m_scnew (sh:=sh) (c:=c) (kk:=kk) (f:=f) hS) ?_
 rintro v H' ⟨ks,rfl,hS⟩
 have hx1:=hS.lk 2 rfl
 simp only[hx1,↓DD,UU,↓reduceIte,xA,xB,xC,xD,xE,xF,xG,xH,xI,xJ,xK,xL,xM,xN,xO,xP,xQ,ne_eq,eq_self]
 refine callT_of (m_pcnew (sh:=sh) (c:=c) (f:=f) hS) ?_
 rintro v H' ⟨kp,rfl,hS⟩
 have hx1:=hS.lk 3 rfl
 have hs0:=hS.lk 1 rfl
 have rs0:=fun o=>rd_of hs0 o
 simp only[hx1,↓DD,UU,↓reduceIte,xA,xB,xC,xD,xE,xF,xG,xH,xI,xJ,xK,xL,xM,xN,xO,xP,xQ,ne_eq,eq_self]
 refine newB_intro fun y hy f3 f4=>?_
 have nxy:(x=y)=False:=f3 x (by rw[hx1];rfl)
 have nyx:(y=x)=False:=f4 x (by rw[hx1];rfl)
 obtain⟨t0,ht0⟩:∃ t0:Sk,t0=⟨sh,c,kk,f,.no,0,0,0,false,false⟩:=⟨_,rfl⟩
 have hS:=hS.new f3 (.cells (sdC t0 0 0 false false kt ks kp (.pointer none) (.pointer none) 0) 145 (0,0))
 rw[ht0]at hS
 have hs1:=hS.lk 2 rfl
 have hy1:=hS.look
 have rs:=fun o=>rd_of hs1 o
 have ry:=fun o=>rd_of hy1 o
 have nsy:=hS.qen 0 2 (by decide) rfl rfl
 have nys:=hS.neq 0 2 (by decide) rfl rfl
 simp only[sdC]at hS hy1 ry
 simp only[hx1,hy1,ry,hs1,rs,hs0,rs0,nxy,nyx,nsy,nys,Sc.ren,Ev.upd_upd,↓DD,UU,↓reduceIte,xA,xB,xC,xD,xE,xF,xG,xH,xI,xJ,xK,xL,xM,xN,xO,xP,xQ,ne_eq,eq_self]
 have hdn:(Sc.new sh c kk f).dn=(Sk.new sh c kk f).dn:=by
  unfold Sk.new Sc.new
  cases hg:(good sh c kk && decide (0≤page sh.p sh.c sh.m f))
  ·rfl
  ·simp only[Bool.not_true,if_true]
   cases hd:(Tk.new sh c kk).dn
   ·rw[Sa.set_go _ (by exact hd)]
   ·rw[Sa.set_af _ (by exact hd)];rfl
 have hS:=hS.set (.cells (sdC t0 0 0 false (Sk.new sh c kk f).dn kt ks kp (.pointer none) (.pointer none) 0) 145 (0,0))
 rw[Ev.upd_upd]at hS
 rw[hdn]
 rw[ht0]at hS
 refine⟨y,sdC t0 0 0 false (Sk.new sh c kk f).dn kt ks kp (.pointer none) (.pointer none) 0,rtB kt (Tk.new sh c kk),rcB ks (Sc.new sh c kk f) f,rpB kp (Pc.new sh c f) f,rfl,?_,by rw[ht0];exact hS.p4.tail.p1.p2.p3.p3⟩
 have hkp:=Sk.new_kp sh c kk f
 have hC:sdC t0 0 0 false (Sk.new sh c kk f).dn kt ks kp (.pointer none) (.pointer none) 0=sdC (Sk.new sh c kk f) 0 0 false (Sk.new sh c kk f).dn kt ks kp (.pointer none) (.pointer none) 0:=by
  rw[ht0];unfold sdC;rw[hkp.1,hkp.2.1,hkp.2.2.1,hkp.2.2.2]
 rw[hC]
 clear hC hkp
 unfold Sk.new
 cases hg:(good sh c kk && decide (0≤page sh.p sh.c sh.m f))
 ·exact .dn rfl fun g=>by cases g
 ·simp only[if_true]
  simp only[Bool.and_eq_true]at hg
  obtain⟨-,p1,p2⟩:=page_of hg.2
  have hq:f=(Sc.new sh c kk f).pg:=by
   show f=(f+0) % sh.p
   rw[Int.add_zero,Int.emod_eq_of_lt p1 p2]
  cases hd:(Tk.new sh c kk).dn
  ·rw[Sa.set_go _ (by exact hd)]
   exact .tk (t:=⟨sh,c,kk,f,.tk (Tk.new sh c kk),0,0,0,false,false⟩) rfl rfl
  ·rw[Sa.set_af _ (by exact hd)]
   exact .sc (t:=⟨sh,c,kk,f,.sc (Sc.new sh c kk f),0,0,0,false,false⟩) rfl rfl hd fun _=>hq
theorem SD.onn {kt ks kp:Nat} {m1:Tk} {m2:Sc} {m3:Pc} {q2 q3:Int} {a2:Option Addr} {cap2:Nat} {g2:Hp} {w2:Wd} (hd:t.dn=false) (hfd:t.fd=false) (h1:m1.dn=true) (h2:m2.dn=true) (h3:m3.dn=true) (hL2:LogOk a2 cap2 w2 g2)
  (hS:Sep (mB b s a2 cap2 w2 :: wR s w2 :: g2 :: sdB k (sdC t 0 0 false (decide (t.many+1=t.s.p)) kt ks kp (.pointer none) (.pointer none) (t.many+1)) :: rtB kt m1 :: rcB ks m2 q2 :: rpB kp m3 q3 :: sno :: X5 :: l) H) :
  ∃ c' Y1 Y2 Y3 Y4 Y5 a3 cap3 g3,SD t.turn c' Y1 Y2 Y3 Y4 Y5∧LogOk a3 cap3 w2 g3∧Sep (mB b s a3 cap3 w2 :: wR s w2 :: g3 :: sdB k c' :: Y1 :: Y2 :: Y3 :: Y4 :: Y5 :: l) H:=by
 by_cases hn:t.many+1=t.s.p
 ·rw[decide_eq_true hn]at hS
  have hD:=SD.dn (t:=t.turn) (pg:=0) (sl:=0) (kt:=kt) (ks:=ks) (kp:=kp) (vb:=.pointer none) (vs:=.pointer none) (n:=t.many+1) (X1:=rtB kt m1) (X2:=rcB ks m2 q2) (X3:=rpB kp m3 q3) (X4:=sno) (X5:=X5) (by show decide (t.many+1=t.s.p)=true;exact decide_eq_true hn) fun g=>by
   have g:t.fd=true:=g
   rw[hfd]at g;cases g
  rw[show t.turn.fd=false from hfd]at hD
  exact⟨_,_,_,_,_,_,_,_,_,hD,hL2,hS⟩
 ·rw[decide_eq_false hn]at hS
  exact⟨_,_,_,_,_,_,_,_,_,.no (t:=t.turn) (by show decide (t.many+1=t.s.p)=false;exact decide_eq_false hn) rfl h1 h2 h3,hL2,hS⟩
def sdR (k b s:Nat) (kt ks kp:Nat) (t:Sk) (w:Wd) (l:List Hp) (F':Fr) (H':Hp):Prop:=
 gt F' 0=.pointer (some ⟨k,0,none⟩)∧gt F' 4=.int .i64 t.here∧gt F' 6=.bool (okPg t.s t.here (w.get t.pat))∧∃ y,gt F' 5=.pointer (some ⟨y,0,none⟩)∧∃ a2 cap2 g2,LogOk a2 cap2 (w.load t.c t.pat) g2 ∧
  Sep (mB b s a2 cap2 (w.load t.c t.pat) :: wR s (w.load t.c t.pat) :: g2 :: sdB k (sdC t 0 0 false false kt ks kp (.pointer none) (.pointer none) t.many) :: sg y (.cells #[.int .i64 (pgK t.s t.here (w.get t.pat)),.int .i64 (pgA t.s t.here (w.get t.pat)),.int .i64 (pgB t.s t.here (w.get t.pat))] 66 (0,0)) :: l) H'
set_option maxHeartbeats 2000000 in
theorem m_sdstep (ht:t.wf) (hw:t.dn=false→w.of t.s) (hD:SD t c X1 X2 X3 X4 X5) (hL:LogOk a cap w g) (hl:w.st+1≤1000000000) (hS:Sep (mB b s a cap w :: wR s w :: g :: sdB k c :: X1 :: X2 :: X3 :: X4 :: X5 :: l) H) :
  CallP Tryz.prog W 85 #[.pointer (some ⟨k,0,none⟩),.pointer (some ⟨b,0,none⟩)] H fun v H'=>v=.tuple #[] ∧
   ∃ c' Y1 Y2 Y3 Y4 Y5 a2 cap2 g2,SD (t.step w).1 c' Y1 Y2 Y3 Y4 Y5∧LogOk a2 cap2 (t.step w).2 g2∧Sep (mB b s a2 cap2 (t.step w).2 :: wR s (t.step w).2 :: g2 :: sdB k c' :: Y1 :: Y2 :: Y3 :: Y4 :: Y5 :: l) H':=by
 refine CallP.of mixed Tryz.func85 tr85 (by show 2≤_;decide) fun W _=>?_
 have hk:=hS.lk 3 rfl
 have r1:=fun o=>rd_of hk o
 have r2:=fun o n=>rdn_of hk o n
 cases hD with
 |dn hd hf=>
  rw[Sk.step_dn hd]
  simp only[hk,r1,sdC,↓DD,UU,↓reduceIte,xA,xB,xC,xD,xE,xF,xG,xH,xI,xJ,xK,xL,xM,xN,xO,xP,xQ,ne_eq,eq_self]
  exact⟨_,_,_,_,_,_,_,_,_,.dn hd hf,hL,hS⟩
 |tk hd e=>
  rename_i m kt ks kp
  obtain⟨ok,nd⟩:=ht.nw hd
  have hfd:=ht.fd hd
  rw[e]at ok nd
  have nd:m.dn=false:=nd
  obtain⟨o1,o2,o3,o4,-,o6⟩:=ok
  have hcf:=ht.cfg hd
  have hm1:=hS.lk 4 rfl
  have rm:=fun o=>rd_of hm1 o
  rw[Sk.step_tk hd e]
  simp only[hk,r1,hm1,rm,sdC,Tk.ren,nd,↓DD,UU,↓reduceIte,xA,xB,xC,xD,xE,xF,xG,xH,xI,xJ,xK,xL,xM,xN,xO,xP,xQ,ne_eq,eq_self]
  refine callT_of (m_tkstep o1 (fun _=>by rw[o2];exact hw hd) hL hl hS.p4) ?_
  rintro v H' ⟨rfl,a2,cap2,g2,hL2,hS⟩
  have hS:=hS.r4
  have hk:=hS.lk 3 rfl
  have r1:=fun o=>rd_of hk o
  have hm1:=hS.lk 4 rfl
  have rm:=fun o=>rd_of hm1 o
  have hs':(m.step w).1.s=m.s:=by unfold Tk.step;split;rfl;split;rfl;split<;>rfl
  cases hfm:(m.step w).1.fd
  ·simp only[hk,r1,hm1,rm,sdC,Tk.ren,hfm,↓DD,UU,↓reduceIte,xA,xB,xC,xD,xE,xF,xG,xH,xI,xJ,xK,xL,xM,xN,xO,xP,xQ,ne_eq,eq_self]
   cases hdm:(m.step w).1.dn
   ·rw[Sa.set_go _ (by exact hdm)]
    exact⟨_,_,_,_,_,_,a2,cap2,g2,.tk (t:={ t with nw:=.tk (m.step w).1 }) hd rfl,hL2,hS⟩
   ·rw[Sa.set_af _ (by exact hdm)]
    have ea:({ t with nw:=.tk (m.step w).1 }:Sk).after = { t with nw:=.sc (Sc.new t.s t.c t.k t.f) }:=by show(if(m.step w).1.fd then _ else _:Sk)=_;rw[hfm];rfl
    rw[ea]
    have hq:t.f=(Sc.new t.s t.c t.k t.f).pg:=by
     show t.f=(t.f+0) % t.s.p
     rw[Int.add_zero,Int.emod_eq_of_lt hcf.f.1 hcf.f.2]
    exact⟨_,_,_,_,_,_,a2,cap2,g2,.sc (t:={ t with nw:=.sc (Sc.new t.s t.c t.k t.f) }) hd rfl hdm (fun _=>hq),hL2,hS⟩
  ·have hdm:(m.step w).1.dn=true:=by
    revert hfm;unfold Tk.step;rw[if_neg (by rw[nd];decide)];split
    ·exact fun _=>rfl
    ·split
     ·exact fun g=>by have g:m.fd=true:=g;rw[o6 nd]at g;cases g
     ·exact fun g=>by have g:m.fd=true:=g;rw[o6 nd]at g;cases g
   rw[Sa.set_af _ (by exact hdm)]
   have ea:({ t with nw:=.tk (m.step w).1 }:Sk).after=({ t with nw:=.tk (m.step w).1 }:Sk).fin (m.step w).1.ep (m.step w).1.es:=by show(if(m.step w).1.fd then _ else _:Sk)=_;rw[hfm];rfl
   rw[ea]
   simp only[hk,r1,hm1,rm,sdC,Tk.ren,hfm,↓DD,UU,↓reduceIte,xA,xB,xC,xD,xE,xF,xG,xH,xI,xJ,xK,xL,xM,xN,xO,xP,xQ,ne_eq,eq_self]
   refine draw_intro [(k,sdC t 0 0 false false kt ks kp (.pointer none) (.pointer none) 0,[]),(kt,Tk.ren (m.step w).1,[])] (by simp only[hk,hm1,↓DD,UU,↓reduceIte,xA,xB,xC,xD,xE,xF,xG,xH,xI,xJ,xK,xL,xM,xN,xO,xP,xQ,ne_eq,eq_self]) ?_
   simp only[hk,r1,hm1,rm,sdC,Tk.ren,hfm,↓DD,UU,↓reduceIte,xA,xB,xC,xD,xE,xF,xG,xH,xI,xJ,xK,xL,xM,xN,xO,xP,xQ,ne_eq,eq_self]
   have nkt:=hS.neq 3 4 (by decide) rfl rfl
   have ntk:=hS.qen 3 4 (by decide) rfl rfl
   simp only[nkt,ntk,↓DD,UU,↓reduceIte,xA,xB,xC,xD,xE,xF,xG,xH,xI,xJ,xK,xL,xM,xN,xO,xP,xQ,ne_eq,eq_self]
   refine callT_of (m_sdfound hS.p3) ?_
   rintro v H' ⟨rfl,hS⟩
   simp only[↓DD,UU,↓reduceIte,xA,xB,xC,xD,xE,xF,xG,xH,xI,xJ,xK,xL,xM,xN,xO,xP,xQ,ne_eq,eq_self]
   exact⟨_,_,_,_,_,_,a2,cap2,g2,.dn (t:=({ t with nw:=.tk (m.step w).1 }:Sk).fin (m.step w).1.ep (m.step w).1.es) rfl (fun _=>⟨rfl,rfl⟩),hL2,hS.r3⟩
 |sc hd e h1 hq=>
  rename_i m kt ks kp m1 q
  obtain⟨ok,nd⟩:=ht.nw hd
  have hfd:=ht.fd hd
  rw[e]at ok nd
  have nd:m.dn=false:=nd
  obtain⟨o1,o2,o3,o4,o5,-,o7,-⟩:=ok
  have hcf:=ht.cfg hd
  have hm1:=hS.lk 4 rfl
  have rm1:=fun o=>rd_of hm1 o
  have hm:=hS.lk 5 rfl
  have rm:=fun o=>rd_of hm o
  rw[Sk.step_sc hd e]
  simp only[hk,r1,hm1,rm1,hm,rm,sdC,Tk.ren,Sc.ren,nd,h1,↓DD,UU,↓reduceIte,xA,xB,xC,xD,xE,xF,xG,xH,xI,xJ,xK,xL,xM,xN,xO,xP,xQ,ne_eq,eq_self]
  refine callT_of (m_scstep o1 (fun _=>by rw[o2];exact hw hd) (fun _=>o7 nd) hq hL hl hS.p5) ?_
  rintro v H' ⟨rfl,q2,hq2,a2,cap2,g2,hL2,hS⟩
  have hS:=hS.r5
  have hk:=hS.lk 3 rfl
  have r1:=fun o=>rd_of hk o
  have hm:=hS.lk 5 rfl
  have rm:=fun o=>rd_of hm o
  cases hfm:(m.step w).1.fd
  ·simp only[hk,r1,hm,rm,sdC,Sc.ren,hfm,↓DD,UU,↓reduceIte,xA,xB,xC,xD,xE,xF,xG,xH,xI,xJ,xK,xL,xM,xN,xO,xP,xQ,ne_eq,eq_self]
   cases hdm:(m.step w).1.dn
   ·rw[Sa.set_go _ (by exact hdm)]
    exact⟨_,_,_,_,_,_,a2,cap2,g2,.sc (t:={ t with nw:=.sc (m.step w).1 }) hd rfl h1 hq2,hL2,hS⟩
   ·rw[Sa.set_af _ (by exact hdm)]
    have ea:({ t with nw:=.sc (m.step w).1 }:Sk).after = { t with nw:=.pc (Pc.new t.s t.c t.f) }:=by show(if(m.step w).1.fd then _ else _:Sk)=_;rw[hfm];rfl
    rw[ea]
    have hq:t.f=(Pc.new t.s t.c t.f).pg:=by
     show t.f=(t.f+0) % t.s.p
     rw[Int.add_zero,Int.emod_eq_of_lt hcf.f.1 hcf.f.2]
    exact⟨_,_,_,_,_,_,a2,cap2,g2,.pc (t:={ t with nw:=.pc (Pc.new t.s t.c t.f) }) hd rfl h1 hdm (fun _=>hq),hL2,hS⟩
  ·have hdm:(m.step w).1.dn=true:=Sc.fdn nd (o7 nd) hfm
   have hq2:=hq2 (.inr hfm)
   rw[Sa.set_af _ (by exact hdm)]
   have ea:({ t with nw:=.sc (m.step w).1 }:Sk).after=({ t with nw:=.sc (m.step w).1 }:Sk).fin (m.step w).1.pg (m.step w).1.i:=by show(if(m.step w).1.fd then _ else _:Sk)=_;rw[hfm];rfl
   rw[ea]
   subst hq2
   simp only[hk,r1,hm,rm,sdC,Sc.ren,hfm,↓DD,UU,↓reduceIte,xA,xB,xC,xD,xE,xF,xG,xH,xI,xJ,xK,xL,xM,xN,xO,xP,xQ,ne_eq,eq_self]
   refine draw_intro [(k,sdC t 0 0 false false kt ks kp (.pointer none) (.pointer none) 0,[]),(ks,Sc.ren (m.step w).1 (m.step w).1.pg,[])] (by simp only[hk,hm,↓DD,UU,↓reduceIte,xA,xB,xC,xD,xE,xF,xG,xH,xI,xJ,xK,xL,xM,xN,xO,xP,xQ,ne_eq,eq_self]) ?_
   have nkt:=hS.neq 3 5 (by decide) rfl rfl
   have ntk:=hS.qen 3 5 (by decide) rfl rfl
   simp only[hk,r1,hm,rm,sdC,Sc.ren,hfm,nkt,ntk,↓DD,UU,↓reduceIte,xA,xB,xC,xD,xE,xF,xG,xH,xI,xJ,xK,xL,xM,xN,xO,xP,xQ,ne_eq,eq_self]
   refine callT_of (m_sdfound hS.p3) ?_
   rintro v H' ⟨rfl,hS⟩
   simp only[↓DD,UU,↓reduceIte,xA,xB,xC,xD,xE,xF,xG,xH,xI,xJ,xK,xL,xM,xN,xO,xP,xQ,ne_eq,eq_self]
   exact⟨_,_,_,_,_,_,a2,cap2,g2,.dn (t:=({ t with nw:=.sc (m.step w).1 }:Sk).fin (m.step w).1.pg (m.step w).1.i) rfl (fun _=>⟨rfl,rfl⟩),hL2,hS.r3⟩
 |pc hd e h1 h2 hq=>
  rename_i m kt ks kp m1 m2 q2 q
  obtain⟨ok,nd⟩:=ht.nw hd
  have hfd:=ht.fd hd
  rw[e]at ok nd
  have nd:m.dn=false:=nd
  obtain⟨o1,o2,o3,o4,o5,o6,-⟩:=ok
  have hcf:=ht.cfg hd
  have hm1:=hS.lk 4 rfl
  have rm1:=fun o=>rd_of hm1 o
  have hm2:=hS.lk 5 rfl
  have rm2:=fun o=>rd_of hm2 o
  have hm:=hS.lk 6 rfl
  have rm:=fun o=>rd_of hm o
  rw[Sk.step_pc hd e]
  simp only[hk,r1,hm1,rm1,hm2,rm2,hm,rm,sdC,Tk.ren,Sc.ren,Pc.ren,nd,h1,h2,↓DD,UU,↓reduceIte,xA,xB,xC,xD,xE,xF,xG,xH,xI,xJ,xK,xL,xM,xN,xO,xP,xQ,ne_eq,eq_self]
  refine callT_of (m_pcstep o1 (fun _=>by rw[o2];exact hw hd) (fun _=>o6 nd) hq hL hl hS.p6) ?_
  rintro v H' ⟨rfl,q2',hq2,a2,cap2,g2,hL2,hS⟩
  have hS:=hS.q6
  have hk:=hS.lk 3 rfl
  have r1:=fun o=>rd_of hk o
  have hm:=hS.lk 6 rfl
  have rm:=fun o=>rd_of hm o
  cases hfm:(m.step w).1.fd
  ·simp only[hk,r1,hm,rm,sdC,Pc.ren,hfm,↓DD,UU,↓reduceIte,xA,xB,xC,xD,xE,xF,xG,xH,xI,xJ,xK,xL,xM,xN,xO,xP,xQ,ne_eq,eq_self]
   cases hdm:(m.step w).1.dn
   ·rw[Sa.set_go _ (by exact hdm)]
    exact⟨_,_,_,_,_,_,a2,cap2,g2,.pc (t:={ t with nw:=.pc (m.step w).1 }) hd rfl h1 h2 hq2,hL2,hS⟩
   ·rw[Sa.set_af _ (by exact hdm)]
    have ea:({ t with nw:=.pc (m.step w).1 }:Sk).after = { t with nw:=.no }:=by show(if(m.step w).1.fd then _ else _:Sk)=_;rw[hfm];rfl
    rw[ea]
    have hD2:=SD.no (t:={ t with nw:=.no }) (kt:=kt) (ks:=ks) (kp:=kp) (q2:=q2) (q3:=q2') (X5:=sno) hd rfl h1 h2 hdm
    exact⟨_,_,_,_,_,_,a2,cap2,g2,hD2,hL2,by show Sep (_ :: _ :: _ :: sdB k (sdC t 0 0 false false kt ks kp (.pointer none) (.pointer none) t.many) :: _) H';rw[o5];exact hS⟩
  ·have hdm:(m.step w).1.dn=true:=Pc.fdn nd (o6 nd) hfm
   have hq2:=hq2 (.inr hfm)
   rw[Sa.set_af _ (by exact hdm)]
   have ea:({ t with nw:=.pc (m.step w).1 }:Sk).after=({ t with nw:=.pc (m.step w).1 }:Sk).bind (m.step w).1.pg:=by show(if(m.step w).1.fd then _ else _:Sk)=_;rw[hfm];rfl
   rw[ea]
   subst hq2
   simp only[hk,r1,hm,rm,sdC,Pc.ren,hfm,↓DD,UU,↓reduceIte,xA,xB,xC,xD,xE,xF,xG,xH,xI,xJ,xK,xL,xM,xN,xO,xP,xQ,ne_eq,eq_self]
   have nkt:=hS.neq 3 6 (by decide) rfl rfl
   have ntk:=hS.qen 3 6 (by decide) rfl rfl
   refine callT_of (m_sdbind rfl hS.p3) ?_
   rintro v H' ⟨rfl,k4,hS⟩
   simp only[↓DD,UU,↓reduceIte,xA,xB,xC,xD,xE,xF,xG,xH,xI,xJ,xK,xL,xM,xN,xO,xP,xQ,ne_eq,eq_self]
   exact⟨_,_,_,_,_,_,a2,cap2,g2,.bi (t:=({ t with nw:=.pc (m.step w).1 }:Sk).bind (m.step w).1.pg) hd rfl,hL2,hS.p1.q8.p7.tail.r3⟩
 |no hd e h1 h2 h3=>
  rename_i kt ks kp m1 m2 q2 m3 q3
  have hfd:=ht.fd hd
  have hcf:=ht.cfg hd
  have hm1:=hS.lk 4 rfl
  have rm1:=fun o=>rd_of hm1 o
  have hm2:=hS.lk 5 rfl
  have rm2:=fun o=>rd_of hm2 o
  have hm3:=hS.lk 6 rfl
  have rm3:=fun o=>rd_of hm3 o
  rw[Sk.step_no hd e]
  have hh:=Sk.here_bd hcf
  have hw:=hw hd
  have hb:=(may_iff _ _ _).1 hcf.m
  obtain⟨p0,p1⟩:=page_in hw hcf.m hh.1 hh.2
  have hu:U (w.get (page t.s.p t.s.c t.s.m t.here)):=hw.u _
  have u1:=u_round t.s t.f t.many (by omega) (by have:=hcf.f;have:=hcf.n;omega) (by have:=hcf.f;have:=hcf.n;omega)
  rw[show(t.f+t.many) % t.s.p=t.here from rfl]at u1
  simp only[hk,r1,r2,hm1,rm1,hm2,rm2,hm3,rm3,sdC,Tk.ren,Sc.ren,Pc.ren,h1,h2,h3,u1,↓DD,UU,↓reduceIte,xA,xB,xC,xD,xE,xF,xG,xH,xI,xJ,xK,xL,xM,xN,xO,xP,xQ,ne_eq,eq_self]
  refine draw_cut [(k,sdC t 0 0 false false kt ks kp (.pointer none) (.pointer none) t.many,[])] (sdR k b s kt ks kp t w (rtB kt m1 :: rcB ks m2 q2 :: rpB kp m3 q3 :: sno :: X5 :: l)) (by simp only[hk,sdC,↓DD,UU,↓reduceIte,xA,xB,xC,xD,xE,xF,xG,xH,xI,xJ,xK,xL,xM,xN,xO,xP,xQ,ne_eq,eq_self]) ?_ ?_
  ·simp only[hk,r1,r2,u_page,sdC,↓e_dalt2,↓DD,UU,↓reduceIte,xA,xB,xC,xD,xE,xF,xG,xH,xI,xJ,xK,xL,xM,xN,xO,xP,xQ,ne_eq,eq_self]
   refine⟨⟨?_,?_⟩,?_⟩
   ·refine callT_of (m_load _ _ p0 p1 hL hl hS) ?_
    rintro v H' ⟨rfl,a2,cap2,g2,hL2,hS⟩
    have hk:=hS.lk 3 rfl
    have r1:=fun o=>rd_of hk o
    have r2:=fun o n=>rdn_of hk o n
    simp only[hk,r1,r2,u_page,u_readpg t.s t.here hu,sdC,↓e_dalt2,↓DD,UU,↓reduceIte,xA,xB,xC,xD,xE,xF,xG,xH,xI,xJ,xK,xL,xM,xN,xO,xP,xQ,ne_eq,eq_self]
    refine⟨?_,?_⟩
    all_goals
     refine newB_intro fun y hy f3 f4=>?_
     have nky:(k=y)=False:=f3 k (by rw[hk];rfl)
     have nyk:(y=k)=False:=f4 k (by rw[hk];rfl)
     have hS2:=hS.new f3 (.cells #[.int .i64 (pgK t.s t.here (w.get t.pat)),.int .i64 (pgA t.s t.here (w.get t.pat)),.int .i64 (pgB t.s t.here (w.get t.pat))] 66 (0,0))
     simp only[hk,nky,nyk,r1,r2,u_page,u_readpg t.s t.here hu,sdC,Ev.upd_upd,↓DD,UU,↓reduceIte,xA,xB,xC,xD,xE,xF,xG,xH,xI,xJ,xK,xL,xM,xN,xO,xP,xQ,ne_eq,eq_self]
     exact⟨rfl,rfl,rfl,y,rfl,a2,cap2,g2,hL2,hS2.r4⟩
   ·refine newB_intro fun y hy f3 f4=>?_
    have nky:(k=y)=False:=f3 k (by rw[hk];rfl)
    have nyk:(y=k)=False:=f4 k (by rw[hk];rfl)
    have hS2:=hS.new f3 (.cells #[.int .i64 0,.int .i64 0,.int .i64 0] 66 (0,0))
    simp only[hk,nky,nyk,r1,r2,u_page,u_readpg t.s t.here hu,sdC,Ev.upd_upd,↓DD,UU,↓reduceIte,xA,xB,xC,xD,xE,xF,xG,xH,xI,xJ,xK,xL,xM,xN,xO,xP,xQ,ne_eq,eq_self]
    refine callT_of (m_load _ _ p0 p1 hL hl hS2.r4) ?_
    rintro v H' ⟨rfl,a2,cap2,g2,hL2,hS⟩
    have hk:=hS.lk 3 rfl
    have r1:=fun o=>rd_of hk o
    have r2:=fun o n=>rdn_of hk o n
    have hy1:=hS.lk 4 rfl
    simp only[hy1,hk,nky,nyk,r1,r2,u_page,u_readpg t.s t.here hu,sdC,Ev.upd_upd,↓DD,UU,↓reduceIte,xA,xB,xC,xD,xE,xF,xG,xH,xI,xJ,xK,xL,xM,xN,xO,xP,xQ,ne_eq,eq_self]
    exact⟨rfl,rfl,rfl,y,rfl,a2,cap2,g2,hL2,(hS.p4.set (.cells #[.int .i64 (pgK t.s t.here (w.get t.pat)),.int .i64 (pgA t.s t.here (w.get t.pat)),.int .i64 (pgB t.s t.here (w.get t.pat))] 66 (0,0))).r4⟩
   ·refine newB_intro fun y hy f3 f4=>?_
    have nky:(k=y)=False:=f3 k (by rw[hk];rfl)
    have nyk:(y=k)=False:=f4 k (by rw[hk];rfl)
    have hS2:=hS.new f3 (.cells #[.int .i64 0,.int .i64 0,.int .i64 0] 66 (0,0))
    simp only[hk,nky,nyk,r1,r2,u_page,u_readpg t.s t.here hu,sdC,Ev.upd_upd,↓DD,UU,↓reduceIte,xA,xB,xC,xD,xE,xF,xG,xH,xI,xJ,xK,xL,xM,xN,xO,xP,xQ,ne_eq,eq_self]
    refine callT_of (m_load _ _ p0 p1 hL hl hS2.r4) ?_
    rintro v H' ⟨rfl,a2,cap2,g2,hL2,hS⟩
    have hk:=hS.lk 3 rfl
    have r1:=fun o=>rd_of hk o
    have r2:=fun o n=>rdn_of hk o n
    have hy1:=hS.lk 4 rfl
    simp only[hy1,hk,nky,nyk,r1,r2,u_page,u_readpg t.s t.here hu,sdC,Ev.upd_upd,↓DD,UU,↓reduceIte,xA,xB,xC,xD,xE,xF,xG,xH,xI,xJ,xK,xL,xM,xN,xO,xP,xQ,ne_eq,eq_self]
    exact⟨rfl,rfl,rfl,y,rfl,a2,cap2,g2,hL2,(hS.p4.set (.cells #[.int .i64 (pgK t.s t.here (w.get t.pat)),.int .i64 (pgA t.s t.here (w.get t.pat)),.int .i64 (pgB t.s t.here (w.get t.pat))] 66 (0,0))).r4⟩
  ·rintro F' H' ⟨e0,e4,e6,y,e5,a2,cap2,g2',hL2,hS⟩
   have hk:=hS.lk 3 rfl
   have hy1:=hS.lk 4 rfl
   have r1:=fun o=>rd_of hk o
   have r2:=fun o n=>rdn_of hk o n
   have r3:=fun o=>rd_of hy1 o
   have nky:=hS.neq 3 4 (by decide) rfl rfl
   have nyk:=hS.qen 3 4 (by decide) rfl rfl
   cases hsup:t.isSup w
   ·have el:t.look w=t.turn:=by unfold Sk.look;rw[hsup];rfl
    rw[el]
    cases hok:okPg t.s t.here (w.get t.pat)
    ·rw[hok]at e6
     simp only[hk,r1,hy1,r3,e0,e4,e5,e6,nky,nyk,sdC,↓DD,UU,↓reduceIte,xA,xB,xC,xD,xE,xF,xG,xH,xI,xJ,xK,xL,xM,xN,xO,xP,xQ,ne_eq,eq_self]
     refine callT_of (m_sdon rfl rfl hcf hS.p3) ?_
     rintro v H' ⟨rfl,hS⟩
     simp only[↓DD,UU,↓reduceIte,xA,xB,xC,xD,xE,xF,xG,xH,xI,xJ,xK,xL,xM,xN,xO,xP,xQ,ne_eq,eq_self]
     exact SD.onn hd hfd h1 h2 h3 hL2 hS.p4.tail.r3
    ·rw[hok]at e6
     have k2:pgK t.s t.here (w.get t.pat)≠2:=fun k2=>by unfold Sk.isSup at hsup;rw[hok,decide_eq_true k2]at hsup;cases hsup
     have g2:(pgK t.s t.here (w.get t.pat) == 2)=false:=beq_eq_false_iff_ne.2 k2
     simp only[hk,r1,hy1,r3,e0,e4,e5,e6,nky,nyk,g2,sdC,↓DD,UU,↓reduceIte,xA,xB,xC,xD,xE,xF,xG,xH,xI,xJ,xK,xL,xM,xN,xO,xP,xQ,ne_eq,eq_self]
     refine callT_of (m_sdon rfl rfl hcf hS.p3) ?_
     rintro v H' ⟨rfl,hS⟩
     simp only[↓DD,UU,↓reduceIte,xA,xB,xC,xD,xE,xF,xG,xH,xI,xJ,xK,xL,xM,xN,xO,xP,xQ,ne_eq,eq_self]
     exact SD.onn hd hfd h1 h2 h3 hL2 hS.p4.tail.r3
   ·have el:t.look w = { t with nw:=.st (St.new t.s t.c t.here (pgA t.s t.here (w.get t.pat))) }:=by unfold Sk.look;rw[hsup];rfl
    rw[el]
    unfold Sk.isSup at hsup
    simp only[Bool.and_eq_true,decide_eq_true_eq]at hsup
    rw[hsup.1]at e6
    have g2:(pgK t.s t.here (w.get t.pat) == 2)=true:=beq_iff_eq.2 hsup.2
    simp only[hk,r1,hy1,r3,e0,e4,e5,e6,nky,nyk,g2,sdC,↓DD,UU,↓reduceIte,xA,xB,xC,xD,xE,xF,xG,xH,xI,xJ,xK,xL,xM,xN,xO,xP,xQ,ne_eq,eq_self]
    refine draw_intro [(k,sdC t 0 0 false false kt ks kp (.pointer none) (.pointer none) t.many,[]),(y,#[.int .i64 (pgK t.s t.here (w.get t.pat)),.int .i64 (pgA t.s t.here (w.get t.pat)),.int .i64 (pgB t.s t.here (w.get t.pat))],[])] (by simp only[hk,hy1,sdC,↓DD,UU,↓reduceIte,xA,xB,xC,xD,xE,xF,xG,xH,xI,xJ,xK,xL,xM,xN,xO,xP,xQ,ne_eq,eq_self]) ?_
    simp only[hk,r1,r2,hy1,r3,e0,e4,e5,nky,nyk,sdC,↓DD,UU,↓reduceIte,xA,xB,xC,xD,xE,xF,xG,xH,xI,xJ,xK,xL,xM,xN,xO,xP,xQ,ne_eq,eq_self]
    refine callT_of (m_stnew (sh:=t.s) hS) ?_
    rintro v H' ⟨k5,rfl,hS⟩
    have hk:=hS.lk 4 rfl
    have hy1:=hS.lk 5 rfl
    have r1:=fun o=>rd_of hk o
    simp only[hk,hy1,r1,e0,nky,nyk,sdC,Ev.upd_upd,↓DD,UU,↓reduceIte,xA,xB,xC,xD,xE,xF,xG,xH,xI,xJ,xK,xL,xM,xN,xO,xP,xQ,ne_eq,eq_self]
    have hS:=hS.p4.set (.cells (sdC t 0 0 false false kt ks kp (.pointer none) (.pointer (some ⟨k5,0,none⟩)) t.many) 145 (0,0))
    exact⟨_,_,_,_,_,_,a2,cap2,g2',.st (t:={ t with nw:=.st (St.new t.s t.c t.here (pgA t.s t.here (w.get t.pat))) }) hd rfl h1 h2 h3,hL2,hS.p5.tail.p1.q8.r3.p9.tail⟩
 |st hd e h1 h2 h3=>
  rename_i m kt ks kp k5 m1 m2 q2 m3 q3
  obtain⟨ok,nd⟩:=ht.nw hd
  have hfd:=ht.fd hd
  rw[e]at ok nd
  have nd:m.dn=false:=nd
  obtain⟨o1,o2,o3,o4,o5⟩:=ok
  have hcf:=ht.cfg hd
  have hm1:=hS.lk 4 rfl
  have rm1:=fun o=>rd_of hm1 o
  have hm2:=hS.lk 5 rfl
  have rm2:=fun o=>rd_of hm2 o
  have hm3:=hS.lk 6 rfl
  have rm3:=fun o=>rd_of hm3 o
  have hm:=hS.lk 8 rfl
  have rm:=fun o=>rd_of hm o
  rw[Sk.step_st' hd e]
  simp only[hk,r1,hm1,rm1,hm2,rm2,hm3,rm3,hm,rm,sdC,Tk.ren,Sc.ren,Pc.ren,nd,h1,h2,h3,↓DD,UU,↓reduceIte,xA,xB,xC,xD,xE,xF,xG,xH,xI,xJ,xK,xL,xM,xN,xO,xP,xQ,ne_eq,eq_self]
  refine callT_of (m_ststep o1 (fun _=>by rw[o2];exact hw hd) hL hl hS.p8) ?_
  rintro v H' ⟨rfl,a2,cap2,g2,hL2,hS⟩
  have hS:=hS.q8
  have hk:=hS.lk 3 rfl
  have r1:=fun o=>rd_of hk o
  have hm:=hS.lk 8 rfl
  have rm:=fun o=>rd_of hm o
  have hmp:(m.step w).1.p=t.here:=by
   rw[← o4]
   rcases St.step_cases m w with⟨-,e⟩|⟨-,⟨-,e⟩|⟨-,-,e⟩|⟨-,-,-,e⟩|⟨-,-,-,e⟩⟩<;>rw[e]
  cases hfm:(m.step w).1.hd
  ·simp only[hk,r1,hm,rm,sdC,St.ren,hfm,↓DD,UU,↓reduceIte,xA,xB,xC,xD,xE,xF,xG,xH,xI,xJ,xK,xL,xM,xN,xO,xP,xQ,ne_eq,eq_self]
   cases hdm:(m.step w).1.dn
   ·rw[Sa.set_go _ (by exact hdm)]
    simp only[hk,r1,hm,rm,sdC,St.ren,hfm,hdm,↓DD,UU,↓reduceIte,xA,xB,xC,xD,xE,xF,xG,xH,xI,xJ,xK,xL,xM,xN,xO,xP,xQ,ne_eq,eq_self]
    exact⟨_,_,_,_,_,_,a2,cap2,g2,.st (t:={ t with nw:=.st (m.step w).1 }) hd rfl h1 h2 h3,hL2,hS⟩
   ·rw[Sa.set_af _ (by exact hdm)]
    have ea:({ t with nw:=.st (m.step w).1 }:Sk).after=t.turn:=by show(if(m.step w).1.hd then _ else _:Sk)=_;rw[hfm];rfl
    rw[ea]
    simp only[hk,r1,hm,rm,sdC,St.ren,hfm,hdm,↓DD,UU,↓reduceIte,xA,xB,xC,xD,xE,xF,xG,xH,xI,xJ,xK,xL,xM,xN,xO,xP,xQ,ne_eq,eq_self]
    refine callT_of (m_sdon rfl rfl hcf hS.p3) ?_
    rintro v H' ⟨rfl,hS⟩
    simp only[↓DD,UU,↓reduceIte,xA,xB,xC,xD,xE,xF,xG,xH,xI,xJ,xK,xL,xM,xN,xO,xP,xQ,ne_eq,eq_self]
    exact SD.onn hd hfd h1 h2 h3 hL2 hS.r3
  ·have hdm:(m.step w).1.dn=true:=St.hdn nd (o5 nd) hfm
   rw[Sa.set_af _ (by exact hdm)]
   have ea:({ t with nw:=.st (m.step w).1 }:Sk).after=({ t with nw:=.st (m.step w).1 }:Sk).bind t.here:=by show(if(m.step w).1.hd then _ else _:Sk)=_;rw[hfm];rfl
   rw[ea]
   simp only[hk,r1,hm,rm,sdC,St.ren,hfm,hmp,↓DD,UU,↓reduceIte,xA,xB,xC,xD,xE,xF,xG,xH,xI,xJ,xK,xL,xM,xN,xO,xP,xQ,ne_eq,eq_self]
   have nkt:=hS.neq 3 8 (by decide) rfl rfl
   have ntk:=hS.qen 3 8 (by decide) rfl rfl
   refine callT_of (m_sdbind rfl hS.p3) ?_
   rintro v H' ⟨rfl,k4,hS⟩
   simp only[↓DD,UU,↓reduceIte,xA,xB,xC,xD,xE,xF,xG,xH,xI,xJ,xK,xL,xM,xN,xO,xP,xQ,ne_eq,eq_self]
   exact⟨_,_,_,_,_,_,a2,cap2,g2,.bi (t:=({ t with nw:=.st (m.step w).1 }:Sk).bind t.here) hd rfl,hL2,hS.p1.q8.p7.tail.r3⟩
 |bi hd e=>
  rename_i m kt ks kp k4 vs n
  obtain⟨ok,nd⟩:=ht.nw hd
  have hfd:=ht.fd hd
  rw[e]at ok nd
  have nd:m.dn=false:=nd
  obtain⟨o1,o2,o3,o4,o5,-⟩:=ok
  have hm:=hS.lk 7 rfl
  have rm:=fun o=>rd_of hm o
  rw[Sk.step_bi hd e]
  simp only[hk,r1,hm,rm,sdC,Bi.ren,nd,↓DD,UU,↓reduceIte,xA,xB,xC,xD,xE,xF,xG,xH,xI,xJ,xK,xL,xM,xN,xO,xP,xQ,ne_eq,eq_self]
  refine callT_of (m_bistep o1 (fun _=>by rw[o2];exact hw hd) hL hl hS.p7) ?_
  rintro v H' ⟨rfl,a2,cap2,g2,hL2,hS⟩
  have hS:=hS.q7
  have hk:=hS.lk 3 rfl
  have r1:=fun o=>rd_of hk o
  have hm:=hS.lk 7 rfl
  have rm:=fun o=>rd_of hm o
  have hmp:(m.step w).1.p=t.pg:=by
   rw[← o5]
   rcases Bi.step_cases m w with⟨-,e⟩|⟨-,⟨-,e⟩|⟨-,-,e⟩|⟨-,-,e⟩⟩<;>rw[e]
  cases hdm:(m.step w).1.dn
  ·rw[Sa.set_go _ (by exact hdm)]
   simp only[hk,r1,hm,rm,sdC,Bi.ren,hdm,↓DD,UU,↓reduceIte,xA,xB,xC,xD,xE,xF,xG,xH,xI,xJ,xK,xL,xM,xN,xO,xP,xQ,ne_eq,eq_self]
   exact⟨_,_,_,_,_,_,a2,cap2,g2,.bi (t:={ t with nw:=.bi (m.step w).1 }) hd rfl,hL2,hS⟩
  ·rw[Sa.set_af _ (by exact hdm)]
   simp only[hk,r1,hm,rm,sdC,Bi.ren,hdm,hmp,↓DD,UU,↓reduceIte,xA,xB,xC,xD,xE,xF,xG,xH,xI,xJ,xK,xL,xM,xN,xO,xP,xQ,ne_eq,eq_self]
   have nkt:=hS.neq 3 7 (by decide) rfl rfl
   have ntk:=hS.qen 3 7 (by decide) rfl rfl
   refine callT_of (m_sdfound hS.p3) ?_
   rintro v H' ⟨rfl,hS⟩
   simp only[↓DD,UU,↓reduceIte,xA,xB,xC,xD,xE,xF,xG,xH,xI,xJ,xK,xL,xM,xN,xO,xP,xQ,ne_eq,eq_self]
   exact⟨_,_,_,_,_,_,a2,cap2,g2,.dn (t:=({ t with nw:=.bi (m.step w).1 }:Sk).fin t.pg 0) rfl (fun _=>⟨rfl,rfl⟩),hL2,hS.r3⟩
end
end Go.Proofs.YtbcdaglbdnkocaaGreat
