/-
Who gives a block back: the document's putter and undoer. Conditions: none.
Who gives a block back: the document's machine goes as the program's plain one. Conditions: none.
Who gives a block back: a step of the document's machine. Conditions: none.
-/
import Derived.Test.YtbcdaglbdnkocaaGreatCodeX
import Derived.Test.YtbcdaglbdnkocaaGreatCodeY
import Derived.Test.YtbcdaglbdnkocaaGreatMag
import Derived.Test.YtbcdaglbdnkocaaGreatMaGive
import Derived.Test.YtbcdaglbdnkocaaGreatAlt
open Nat renaming reduceAdd→xA,reduceMul→xB,reduceSub→xC,reduceEqDiff→xD,reduceBEq→xE,reduceLeDiff→xF,reduceLT→xG
open Int renaming reduceAdd→xH,reduceMul→xI,reduceSub→xJ,reduceLT→xK,reduceLE→xL,reduceToNat→xM,reduceEq→xN,reduceNe→xO,reduceBEq→xP,reduceBNe→xQ
set_option linter.unusedVariables false
set_option linter.unusedSimpArgs false
set_option maxRecDepth 8000
namespace Go.Proofs.YtbcdaglbdnkocaaGreat
open Go Go.Ev Go.Pl Go.Ma

def Pu.ren (t:Pu):Array Value:=#[.int .i64 t.s.p,.int .i64 t.s.c,.int .i64 t.s.m,.int .i64 t.c,.int .i64 t.i,.int .i64 t.ep,.int .i64 t.es,.int .i64 t.ek,.bool t.put,.bool t.dn,.bool t.hit]
def ruB (k:Nat) (t:Pu):Hp:=sg k (.cells (Pu.ren t) 155 (0,0))
def unL (s:Sh) (c i pg n:Int) (o:Bool):Array Value:=#[.int .i64 s.p,.int .i64 s.c,.int .i64 s.m,.int .i64 c,.int .i64 i,.bool true,.int .i64 pg,.int .i64 0,.int .i64 0,.int .i64 n,.bool o]
def unS (s:Sh) (c pg sl k:Int) (o:Bool):Array Value:=#[.int .i64 s.p,.int .i64 s.c,.int .i64 s.m,.int .i64 c,.int .i64 0,.bool false,.int .i64 pg,.int .i64 sl,.int .i64 k,.int .i64 0,.bool o]
def unB (k:Nat) (v:Array Value):Hp:=sg k (.cells v 157 (0,0))

theorem q_fitsL (s:Sh) (c pg n:Int) (hm:may s.p s.c s.m=true) (hc:0≤c∧c<s.c) (hp:0≤pg∧pg<s.p) (hn:1≤n∧n≤8) (hpn:pg+n≤s.p) :
  PureC Tryz.prog 87 #[.agg #[.int .i64 s.p,.int .i64 s.c,.int .i64 s.m],.int .i64 c,.agg #[.bool true,.int .i64 pg,.int .i64 0,.int .i64 0,.int .i64 n]] (.bool true):=by
 refine PureC.of mixed Tryz.func87 (by kernel_rfl) tr87 (by show 3≤_;decide) fun W H=>?_
 have hb:=(may_iff _ _ _).1 hm
 have h1:decide (0≤status s.p s.c s.m c)=true:=by
  have:¬ status s.p s.c s.m c<0:=by rw[status_lt0];exact fun h=>h ⟨hm,hc.1,hc.2⟩
  exact decide_eq_true (by omega)
 have h2:decide (page s.p s.c s.m pg<0)=false:=decide_eq_false (by have:=page_yes hm hp.1 hp.2;omega)
 have h3:decide (1≤n)=true:=decide_eq_true hn.1
 have h4:decide (n≤8)=true:=decide_eq_true hn.2
 have w1:w64 (s.p - pg)=s.p - pg:=w64_eq (by omega) (by omega)
 have h5:decide (n≤s.p - pg)=true:=decide_eq_true (by omega)
 simp only[↓DD,UU,↓reduceIte,xA,xB,xC,xD,xE,xF,xG,xH,xI,xJ,xK,xL,xM,xN,xO,xP,xQ,ne_eq,eq_self]
 refine newB_intro fun x hx f1 f2=>?_
 refine newB_intro fun y hy f3 f4=>?_
 have nxy:(x=y)=False:=f3 x (by rw[upd_same];rfl)
 have nyx:(y=x)=False:=f4 x (by rw[upd_same];rfl)
 simp only[u_good,u_page,h1,h2,h3,h4,h5,wrap_w64,w1,nxy,nyx,↓DD,UU,↓reduceIte,xA,xB,xC,xD,xE,xF,xG,xH,xI,xJ,xK,xL,xM,xN,xO,xP,xQ,ne_eq,eq_self]
 exact((Sub.refl H).new f1).trans ((Sub.refl _).new f3)
theorem u_fitsL (s:Sh) (c pg n:Int) (hm:may s.p s.c s.m=true) (hc:0≤c∧c<s.c) (hp:0≤pg∧pg<s.p) (hn:1≤n∧n≤8) (hpn:pg+n≤s.p) :
  pv Tryz.prog 87 #[.agg #[.int .i64 s.p,.int .i64 s.c,.int .i64 s.m],.int .i64 c,.agg #[.bool true,.int .i64 pg,.int .i64 0,.int .i64 0,.int .i64 n]] = some (.bool true):=pv_of (q_fitsL s c pg n hm hc hp hn hpn)
theorem q_fitsS (s:Sh) (c pg sl k:Int) (hm:may s.p s.c s.m=true) (hc:0≤c∧c<s.c) (hp:0≤pg∧pg<s.p) (hs:0≤sl∧sl<slots k) :
  PureC Tryz.prog 87 #[.agg #[.int .i64 s.p,.int .i64 s.c,.int .i64 s.m],.int .i64 c,.agg #[.bool false,.int .i64 pg,.int .i64 sl,.int .i64 k,.int .i64 0]] (.bool true):=by
 refine PureC.of mixed Tryz.func87 (by kernel_rfl) tr87 (by show 3≤_;decide) fun W H=>?_
 have hb:=(may_iff _ _ _).1 hm
 have h1:decide (0≤status s.p s.c s.m c)=true:=by
  have:¬ status s.p s.c s.m c<0:=by rw[status_lt0];exact fun h=>h ⟨hm,hc.1,hc.2⟩
  exact decide_eq_true (by omega)
 have h2:decide (page s.p s.c s.m pg<0)=false:=decide_eq_false (by have:=page_yes hm hp.1 hp.2;omega)
 have h3:decide (0≤sl)=true:=decide_eq_true hs.1
 have h4:decide (sl<slots k)=true:=decide_eq_true hs.2
 simp only[↓DD,UU,↓reduceIte,xA,xB,xC,xD,xE,xF,xG,xH,xI,xJ,xK,xL,xM,xN,xO,xP,xQ,ne_eq,eq_self]
 refine newB_intro fun x hx f1 f2=>?_
 refine newB_intro fun y hy f3 f4=>?_
 have nxy:(x=y)=False:=f3 x (by rw[upd_same];rfl)
 have nyx:(y=x)=False:=f4 x (by rw[upd_same];rfl)
 simp only[u_good,u_page,u_slots,h1,h2,h3,h4,nxy,nyx,↓DD,UU,↓reduceIte,xA,xB,xC,xD,xE,xF,xG,xH,xI,xJ,xK,xL,xM,xN,xO,xP,xQ,ne_eq,eq_self]
 exact((Sub.refl H).new f1).trans ((Sub.refl _).new f3)
theorem u_fitsS (s:Sh) (c pg sl k:Int) (hm:may s.p s.c s.m=true) (hc:0≤c∧c<s.c) (hp:0≤pg∧pg<s.p) (hs:0≤sl∧sl<slots k) :
  pv Tryz.prog 87 #[.agg #[.int .i64 s.p,.int .i64 s.c,.int .i64 s.m],.int .i64 c,.agg #[.bool false,.int .i64 pg,.int .i64 sl,.int .i64 k,.int .i64 0]] = some (.bool true):=pv_of (q_fitsS s c pg sl k hm hc hp hs)
section
variable {W:World} {H:Hp} {k b s:Nat} {t:Pu} {w:Wd} {l:List Hp} {a:Option Addr} {cap:Nat} {g:Hp}

theorem m_unnewL {sh:Sh} {c pg n:Int} (hm:may sh.p sh.c sh.m=true) (hc:0≤c∧c<sh.c) (hp:0≤pg∧pg<sh.p) (hn:1≤n∧n≤8) (hpn:pg+n≤sh.p) (hS:Sep l H) :
  CallP Tryz.prog W 92 #[.agg #[.int .i64 sh.p,.int .i64 sh.c,.int .i64 sh.m],.int .i64 c,.agg #[.bool true,.int .i64 pg,.int .i64 0,.int .i64 0,.int .i64 n]] H fun v H'=>∃ k,v=.pointer (some ⟨k,0,none⟩)∧Sep (unB k (unL sh c 0 pg n false) :: l) H':=by
 refine CallP.of mixed Tryz.func92 tr92 (by show 3≤_;decide) fun W _=>?_
 simp only[↓DD,UU,↓reduceIte,xA,xB,xC,xD,xE,xF,xG,xH,xI,xJ,xK,xL,xM,xN,xO,xP,xQ,ne_eq,eq_self]
 refine newB_intro fun x hx f1 f2=>?_
 refine newB_intro fun y hy f3 f4=>?_
 have hS:=(hS.new f1 (.cells #[.int .i64 sh.p,.int .i64 sh.c,.int .i64 sh.m] 23 (0,0))).new f3 (.cells #[.bool true,.int .i64 pg,.int .i64 0,.int .i64 0,.int .i64 n] 102 (0,0))
 have hy1:=hS.look
 have hx1:=hS.lk 1 rfl
 have rx:=fun o n=>rdn_of hx1 o n
 have ry:=fun o n=>rdn_of hy1 o n
 have nyx:=hS.neq 0 1 (by decide) rfl rfl
 have nxy:=hS.qen 0 1 (by decide) rfl rfl
 refine draw_intro [(x,#[.int .i64 sh.p,.int .i64 sh.c,.int .i64 sh.m],[]),(y,#[.bool true,.int .i64 pg,.int .i64 0,.int .i64 0,.int .i64 n],[])] (by simp only[hx1,hy1,nxy,nyx,↓DD,UU,↓reduceIte,xA,xB,xC,xD,xE,xF,xG,xH,xI,xJ,xK,xL,xM,xN,xO,xP,xQ,ne_eq,eq_self]) ?_
 simp only[hx1,hy1,rx,ry,nxy,nyx,u_fitsL sh c pg n hm hc hp hn hpn,↓DD,UU,↓reduceIte,xA,xB,xC,xD,xE,xF,xG,xH,xI,xJ,xK,xL,xM,xN,xO,xP,xQ,ne_eq,eq_self]
 refine newB_intro fun z hz f5 f6=>?_
 have nxz:(x=z)=False:=f5 x (by rw[hx1];rfl)
 have nyz:(y=z)=False:=f5 y (by rw[hy1];rfl)
 simp only[hx1,hy1,nxy,nyx,nxz,nyz,↓DD,UU,↓reduceIte,xA,xB,xC,xD,xE,xF,xG,xH,xI,xJ,xK,xL,xM,xN,xO,xP,xQ,ne_eq,eq_self]
 exact⟨z,rfl,(hS.new f5 (.cells (unL sh c 0 pg n false) 157 (0,0))).p1.tail.p1.tail⟩
theorem m_unnewS {sh:Sh} {c pg sl kk:Int} (hm:may sh.p sh.c sh.m=true) (hc:0≤c∧c<sh.c) (hp:0≤pg∧pg<sh.p) (hs:0≤sl∧sl<slots kk) (hS:Sep l H) :
  CallP Tryz.prog W 92 #[.agg #[.int .i64 sh.p,.int .i64 sh.c,.int .i64 sh.m],.int .i64 c,.agg #[.bool false,.int .i64 pg,.int .i64 sl,.int .i64 kk,.int .i64 0]] H fun v H'=>∃ k,v=.pointer (some ⟨k,0,none⟩)∧Sep (unB k (unS sh c pg sl kk false) :: l) H':=by
 refine CallP.of mixed Tryz.func92 tr92 (by show 3≤_;decide) fun W _=>?_
 simp only[↓DD,UU,↓reduceIte,xA,xB,xC,xD,xE,xF,xG,xH,xI,xJ,xK,xL,xM,xN,xO,xP,xQ,ne_eq,eq_self]
 refine newB_intro fun x hx f1 f2=>?_
 refine newB_intro fun y hy f3 f4=>?_
 have hS:=(hS.new f1 (.cells #[.int .i64 sh.p,.int .i64 sh.c,.int .i64 sh.m] 23 (0,0))).new f3 (.cells #[.bool false,.int .i64 pg,.int .i64 sl,.int .i64 kk,.int .i64 0] 102 (0,0))
 have hy1:=hS.look
 have hx1:=hS.lk 1 rfl
 have rx:=fun o n=>rdn_of hx1 o n
 have ry:=fun o n=>rdn_of hy1 o n
 have nyx:=hS.neq 0 1 (by decide) rfl rfl
 have nxy:=hS.qen 0 1 (by decide) rfl rfl
 refine draw_intro [(x,#[.int .i64 sh.p,.int .i64 sh.c,.int .i64 sh.m],[]),(y,#[.bool false,.int .i64 pg,.int .i64 sl,.int .i64 kk,.int .i64 0],[])] (by simp only[hx1,hy1,nxy,nyx,↓DD,UU,↓reduceIte,xA,xB,xC,xD,xE,xF,xG,xH,xI,xJ,xK,xL,xM,xN,xO,xP,xQ,ne_eq,eq_self]) ?_
 simp only[hx1,hy1,rx,ry,nxy,nyx,u_fitsS sh c pg sl kk hm hc hp hs,↓DD,UU,↓reduceIte,xA,xB,xC,xD,xE,xF,xG,xH,xI,xJ,xK,xL,xM,xN,xO,xP,xQ,ne_eq,eq_self]
 refine newB_intro fun z hz f5 f6=>?_
 have nxz:(x=z)=False:=f5 x (by rw[hx1];rfl)
 have nyz:(y=z)=False:=f5 y (by rw[hy1];rfl)
 simp only[hx1,hy1,nxy,nyx,nxz,nyz,↓DD,UU,↓reduceIte,xA,xB,xC,xD,xE,xF,xG,xH,xI,xJ,xK,xL,xM,xN,xO,xP,xQ,ne_eq,eq_self]
 exact⟨z,rfl,(hS.new f5 (.cells (unS sh c pg sl kk false) 157 (0,0))).p1.tail.p1.tail⟩
theorem m_unstepS {sh:Sh} {c pg sl kk:Int} (hm:may sh.p sh.c sh.m=true) (hp:0≤pg∧pg<sh.p) (hs:0≤sl∧sl<16) (hw:w.of sh) (hL:LogOk a cap w g) (hl:w.st+1≤1000000000) (hS:Sep (unB k (unS sh c pg sl kk false) :: mB b s a cap w :: wR s w :: g :: l) H) :
  CallP Tryz.prog W 91 #[.pointer (some ⟨k,0,none⟩),.pointer (some ⟨b,0,none⟩)] H fun v H'=>v=.tuple #[] ∧
   ∃ a2 cap2 g2,LogOk a2 cap2 (w.store c (slot sh.p sh.c sh.m pg sl) (opn kk)) g2∧Sep (unB k (unS sh c pg sl kk true) :: mB b s a2 cap2 (w.store c (slot sh.p sh.c sh.m pg sl) (opn kk)) :: wR s (w.store c (slot sh.p sh.c sh.m pg sl) (opn kk)) :: g2 :: l) H':=by
 refine CallP.of mixed Tryz.func91 tr91 (by show 2≤_;decide) fun W _=>?_
 have hk:=hS.look
 have r1:=fun o=>rd_of hk o
 have r2:=fun o n=>rdn_of hk o n
 obtain⟨q0,q1⟩:=slot_in hw hm hp.1 hp.2 hs.1 hs.2
 simp only[hk,r1,r2,unS,↓DD,UU,↓reduceIte,xA,xB,xC,xD,xE,xF,xG,xH,xI,xJ,xK,xL,xM,xN,xO,xP,xQ,ne_eq,eq_self]
 refine draw_intro [(k,unS sh c pg sl kk false,[])] (by simp only[hk,unS,↓DD,UU,↓reduceIte,xA,xB,xC,xD,xE,xF,xG,xH,xI,xJ,xK,xL,xM,xN,xO,xP,xQ,ne_eq,eq_self]) ?_
 simp only[hk,r1,r2,u_slot,u_opn,unS,↓DD,UU,↓reduceIte,xA,xB,xC,xD,xE,xF,xG,xH,xI,xJ,xK,xL,xM,xN,xO,xP,xQ,ne_eq,eq_self]
 refine callT_of (m_store _ _ _ q0 q1 hL hl hS.r3) ?_
 rintro v H' ⟨rfl,a2,cap2,g2,hL,hS⟩
 have hS:=hS.p3
 have hk:=hS.look
 simp only[hk,unS,↓DD,UU,↓reduceIte,xA,xB,xC,xD,xE,xF,xG,xH,xI,xJ,xK,xL,xM,xN,xO,xP,xQ,ne_eq,eq_self]
 exact⟨a2,cap2,g2,hL,hS.set (.cells (unS sh c pg sl kk true) 157 (0,0))⟩
theorem m_unstepL {sh:Sh} {c i pg n:Int} (hm:may sh.p sh.c sh.m=true) (hp:0≤pg∧pg<sh.p) (hi:0≤i∧i=n - 1) (hn:n≤8) (hw:w.of sh) (hL:LogOk a cap w g) (hl:w.st+1≤1000000000) (hS:Sep (unB k (unL sh c i pg n false) :: mB b s a cap w :: wR s w :: g :: l) H) :
  CallP Tryz.prog W 91 #[.pointer (some ⟨k,0,none⟩),.pointer (some ⟨b,0,none⟩)] H fun v H'=>v=.tuple #[] ∧
   ∃ a2 cap2 g2,LogOk a2 cap2 (w.store c (page sh.p sh.c sh.m pg) 0) g2∧Sep (unB k (unL sh c (i+1) pg n true) :: mB b s a2 cap2 (w.store c (page sh.p sh.c sh.m pg) 0) :: wR s (w.store c (page sh.p sh.c sh.m pg) 0) :: g2 :: l) H':=by
 refine CallP.of mixed Tryz.func91 tr91 (by show 2≤_;decide) fun W _=>?_
 have hk:=hS.look
 have r1:=fun o=>rd_of hk o
 have r2:=fun o n=>rdn_of hk o n
 obtain⟨q0,q1⟩:=page_in hw hm hp.1 hp.2
 have w1:w64 (i+1)=i+1:=w64_eq (by omega) (by omega)
 have g1:decide (i+1<n)=false:=decide_eq_false (by omega)
 simp only[hk,r1,r2,wrap_w64,w1,g1,unL,Ev.upd_upd,↓DD,UU,↓reduceIte,xA,xB,xC,xD,xE,xF,xG,xH,xI,xJ,xK,xL,xM,xN,xO,xP,xQ,ne_eq,eq_self]
 have hS:=hS.set (.cells (unL sh c (i+1) pg n false) 157 (0,0))
 have hk:=hS.look
 have r1:=fun o=>rd_of hk o
 have r2:=fun o n=>rdn_of hk o n
 refine draw_intro [(k,unL sh c (i+1) pg n false,[])] (by simp only[hk,unL,↓DD,UU,↓reduceIte,xA,xB,xC,xD,xE,xF,xG,xH,xI,xJ,xK,xL,xM,xN,xO,xP,xQ,ne_eq,eq_self]) ?_
 simp only[hk,r1,r2,u_page,unL,↓DD,UU,↓reduceIte,xA,xB,xC,xD,xE,xF,xG,xH,xI,xJ,xK,xL,xM,xN,xO,xP,xQ,ne_eq,eq_self]
 refine callT_of (m_store _ _ _ q0 q1 hL hl hS.r3) ?_
 rintro v H' ⟨rfl,a2,cap2,g2,hL,hS⟩
 have hS:=hS.p3
 have hk:=hS.look
 simp only[hk,unL,↓DD,UU,↓reduceIte,xA,xB,xC,xD,xE,xF,xG,xH,xI,xJ,xK,xL,xM,xN,xO,xP,xQ,ne_eq,eq_self]
 exact⟨a2,cap2,g2,hL,hS.set (.cells (unL sh c (i+1) pg n true) 157 (0,0))⟩
theorem m_unstepM {sh:Sh} {c i pg n:Int} (hm:may sh.p sh.c sh.m=true) (hp:0≤pg) (hpn:pg+n≤sh.p) (hi:0≤i∧i<n - 1) (hn:n≤8) (hw:w.of sh) (hL:LogOk a cap w g) (hl:w.st+1≤1000000000) (hS:Sep (unB k (unL sh c i pg n false) :: mB b s a cap w :: wR s w :: g :: l) H) :
  CallP Tryz.prog W 91 #[.pointer (some ⟨k,0,none⟩),.pointer (some ⟨b,0,none⟩)] H fun v H'=>v=.tuple #[] ∧
   ∃ a2 cap2 g2,LogOk a2 cap2 (w.store c (page sh.p sh.c sh.m (pg+i+1)) 0) g2∧Sep (unB k (unL sh c (i+1) pg n false) :: mB b s a2 cap2 (w.store c (page sh.p sh.c sh.m (pg+i+1)) 0) :: wR s (w.store c (page sh.p sh.c sh.m (pg+i+1)) 0) :: g2 :: l) H':=by
 refine CallP.of mixed Tryz.func91 tr91 (by show 2≤_;decide) fun W _=>?_
 have hk:=hS.look
 have r1:=fun o=>rd_of hk o
 have r2:=fun o n=>rdn_of hk o n
 have ml:=(may_iff _ _ _).1 hm
 obtain⟨q0,q1⟩:=page_in (i:=pg+i+1) hw hm (by omega) (by omega)
 have w1:w64 (i+1)=i+1:=w64_eq (by omega) (by omega)
 have w2:w64 (pg+(i+1))=pg+i+1:=by rw[w64_eq (by omega) (by omega)];omega
 have g1:decide (i+1<n)=true:=decide_eq_true (by omega)
 simp only[hk,r1,r2,wrap_w64,w1,g1,unL,Ev.upd_upd,↓DD,UU,↓reduceIte,xA,xB,xC,xD,xE,xF,xG,xH,xI,xJ,xK,xL,xM,xN,xO,xP,xQ,ne_eq,eq_self]
 have hS:=hS.set (.cells (unL sh c (i+1) pg n false) 157 (0,0))
 have hk:=hS.look
 have r1:=fun o=>rd_of hk o
 have r2:=fun o n=>rdn_of hk o n
 refine draw_intro [(k,unL sh c (i+1) pg n false,[])] (by simp only[hk,unL,↓DD,UU,↓reduceIte,xA,xB,xC,xD,xE,xF,xG,xH,xI,xJ,xK,xL,xM,xN,xO,xP,xQ,ne_eq,eq_self]) ?_
 simp only[hk,r1,r2,u_page,wrap_w64,w2,unL,↓DD,UU,↓reduceIte,xA,xB,xC,xD,xE,xF,xG,xH,xI,xJ,xK,xL,xM,xN,xO,xP,xQ,ne_eq,eq_self]
 refine callT_of (m_store _ _ _ q0 q1 hL hl hS.r3) ?_
 rintro v H' ⟨rfl,a2,cap2,g2,hL,hS⟩
 simp only[↓DD,UU,↓reduceIte,xA,xB,xC,xD,xE,xF,xG,xH,xI,xJ,xK,xL,xM,xN,xO,xP,xQ,ne_eq,eq_self]
 exact⟨a2,cap2,g2,hL,hS.p3⟩
theorem m_punew {sh:Sh} {c p i kk:Int} (hS:Sep l H) :
  CallP Tryz.prog W 138 #[.agg #[.int .i64 sh.p,.int .i64 sh.c,.int .i64 sh.m],.int .i64 c,.int .i64 p,.int .i64 i,.int .i64 kk] H fun v H'=>∃ k,v=.pointer (some ⟨k,0,none⟩)∧Sep (ruB k (Pu.new sh c p i kk) :: l) H':=by
 refine CallP.of mixed Tryz.func138 tr138 (by show 5≤_;decide) fun W _=>?_
 simp only[↓DD,UU,↓reduceIte,xA,xB,xC,xD,xE,xF,xG,xH,xI,xJ,xK,xL,xM,xN,xO,xP,xQ,ne_eq,eq_self]
 refine newB_intro fun x hx f1 f2=>?_
 have hS:=hS.new f1 (.cells #[.int .i64 sh.p,.int .i64 sh.c,.int .i64 sh.m] 23 (0,0))
 have hx1:=hS.look
 have r1:=fun o=>rd_of hx1 o
 have r2:=fun o n=>rdn_of hx1 o n
 have sb:=slots_bd kk
 have pdn:(Pu.new sh c p i kk).dn = !(decide (0≤status sh.p sh.c sh.m c) && (decide (0≤page sh.p sh.c sh.m p) && (decide (0≤i) && (decide (i<slots kk) && decide (0<sh.m))))):=by
  show(!(good sh c kk && decide (0≤page sh.p sh.c sh.m p) && decide (0≤i) && decide (i<slots kk)) || decide (sh.m=0))=_
  unfold good
  cases h1:decide (0≤status sh.p sh.c sh.m c)
  ·rfl
  ·have hst:¬ status sh.p sh.c sh.m c<0:=by have:=of_decide_eq_true h1;omega
   rw[status_lt0]at hst
   have hmay:=(may_iff _ _ _).1 (Classical.not_not.1 hst).1
   by_cases q1:0≤page sh.p sh.c sh.m p<;>by_cases q2:0≤i<;>by_cases q3:i<slots kk<;>by_cases q4:sh.m=0<;>simp [q1,q2,q3,q4]<;>omega
 have hP:Pu.new sh c p i kk=⟨sh,c,0,p,i,kk,false,false,!(decide (0≤status sh.p sh.c sh.m c) && (decide (0≤page sh.p sh.c sh.m p) && (decide (0≤i) && (decide (i<slots kk) && decide (0<sh.m)))))⟩:=by
  rw[← pdn];rfl
 rw[hP]
 cases h1:decide (0≤status sh.p sh.c sh.m c)<;>cases h2:decide (0≤page sh.p sh.c sh.m p)<;>cases h3:decide (0≤i)<;>cases h4:decide (i<slots kk)<;>cases h5:decide (0<sh.m)
 all_goals
  simp only[hx1,r1,r2,u_good,u_page,u_slots,h1,h2,h3,h4,h5,↓DD,UU,↓reduceIte,xA,xB,xC,xD,xE,xF,xG,xH,xI,xJ,xK,xL,xM,xN,xO,xP,xQ,ne_eq,eq_self]
  refine newB_intro fun y hy f3 f4=>?_
  have nxy:(x=y)=False:=f3 x (by rw[hx1];rfl)
  have nyx:(y=x)=False:=f4 x (by rw[hx1];rfl)
  simp only[hx1,r1,r2,nxy,nyx,↓DD,UU,↓reduceIte,xA,xB,xC,xD,xE,xF,xG,xH,xI,xJ,xK,xL,xM,xN,xO,xP,xQ,ne_eq,eq_self]
  refine⟨y,rfl,?_⟩
  exact(hS.new f3 _).p1.tail
theorem m_pustep (ht:t.wf) (hw:t.dn=false→w.of t.s) (hL:LogOk a cap w g) (hl:w.st+1≤1000000000) (hS:Sep (ruB k t :: mB b s a cap w :: wR s w :: g :: l) H) :
  CallP Tryz.prog W 90 #[.pointer (some ⟨k,0,none⟩),.pointer (some ⟨b,0,none⟩)] H fun v H'=>v=.tuple #[] ∧
   ∃ a2 cap2 g2,LogOk a2 cap2 (t.step w).2 g2∧Sep (ruB k (t.step w).1 :: mB b s a2 cap2 (t.step w).2 :: wR s (t.step w).2 :: g2 :: l) H':=by
 refine CallP.of mixed Tryz.func90 tr90 (by show 2≤_;decide) fun W _=>?_
 have hk:=hS.look
 have r1:=fun o=>rd_of hk o
 have r2:=fun o n=>rdn_of hk o n
 rcases Pu.step_cases t w with⟨hd,e⟩|⟨hd,⟨hb,e⟩|⟨hb,hh,e⟩|⟨hb,hh,e⟩⟩<;>rw[e]
 ·simp only[hk,r1,Pu.ren,hd,↓DD,UU,↓reduceIte,xA,xB,xC,xD,xE,xF,xG,xH,xI,xJ,xK,xL,xM,xN,xO,xP,xQ,ne_eq,eq_self]
  exact⟨a,cap,g,hL,hS⟩
 all_goals
  obtain⟨hm,c0,c1,i0,i1⟩:=ht.of hd
  have hw:=hw hd
  obtain⟨q0,q1⟩:=mag_in hw hm c0 c1 i0 i1
  have ml:=(may_iff _ _ _).1 hm
  simp only[hk,r1,r2,u_mag,Pu.ren,hd,hb,↓DD,UU,↓reduceIte,xA,xB,xC,xD,xE,xF,xG,xH,xI,xJ,xK,xL,xM,xN,xO,xP,xQ,ne_eq,eq_self]
  refine draw_intro [(k,Pu.ren t,[])] (by simp only[hk,↓DD,UU,↓reduceIte,xA,xB,xC,xD,xE,xF,xG,xH,xI,xJ,xK,xL,xM,xN,xO,xP,xQ,ne_eq,eq_self]) ?_
  simp only[hk,r1,r2,u_mag,u_puten,Pu.ren,hd,hb,↓DD,UU,↓reduceIte,xA,xB,xC,xD,xE,xF,xG,xH,xI,xJ,xK,xL,xM,xN,xO,xP,xQ,ne_eq,eq_self]
 ·refine callT_of (m_store _ _ _ q0 q1 hL hl hS.r3) ?_
  rintro v H' ⟨rfl,a2,cap2,g2,hL,hS⟩
  have hS:=hS.p3
  have hk:=hS.look
  have r1:=fun o=>rd_of hk o
  simp only[hk,r1,Pu.ren,hd,hb,Ev.upd_upd,↓DD,UU,↓reduceIte,xA,xB,xC,xD,xE,xF,xG,xH,xI,xJ,xK,xL,xM,xN,xO,xP,xQ,ne_eq,eq_self]
  refine⟨a2,cap2,g2,hL,?_⟩
  have:=hS.set (.cells (Pu.ren { t with put:=true,dn:=true }) 155 (0,0))
  unfold Pu.ren at this
  simp only[hb]at this
  unfold ruB Pu.ren
  simp only[hb]
  exact this
 ·refine callT_of (m_load _ _ q0 q1 hL hl hS.r3) ?_
  rintro v H' ⟨rfl,a2,cap2,g2,hL,hS⟩
  have hS:=hS.p3
  have hk:=hS.look
  have r1:=fun o=>rd_of hk o
  have gz:(w.get (mag t.s.p t.s.c t.s.m t.c t.i) == 0)=true:=beq_iff_eq.2 hh
  simp only[hk,r1,gz,Pu.ren,hd,hb,Ev.upd_upd,↓DD,UU,↓reduceIte,xA,xB,xC,xD,xE,xF,xG,xH,xI,xJ,xK,xL,xM,xN,xO,xP,xQ,ne_eq,eq_self]
  refine⟨a2,cap2,g2,hL,?_⟩
  have:=hS.set (.cells (Pu.ren { t with hit:=true }) 155 (0,0))
  unfold Pu.ren at this
  simp only[hd]at this
  unfold ruB Pu.ren
  simp only[hd]
  exact this
 ·refine callT_of (m_load _ _ q0 q1 hL hl hS.r3) ?_
  rintro v H' ⟨rfl,a2,cap2,g2,hL,hS⟩
  have hS:=hS.p3
  have hk:=hS.look
  have r1:=fun o=>rd_of hk o
  have gz:(w.get (mag t.s.p t.s.c t.s.m t.c t.i) == 0)=false:=beq_eq_false_iff_ne.2 hh
  have w1:w64 (t.i+1)=t.i+1:=w64_eq (by omega) (by omega)
  simp only[hk,r1,gz,wrap_w64,w1,Pu.ren,hd,hb,Ev.upd_upd,↓DD,UU,↓reduceIte,xA,xB,xC,xD,xE,xF,xG,xH,xI,xJ,xK,xL,xM,xN,xO,xP,xQ,ne_eq,eq_self]
  have hS1:=hS.set (.cells (Pu.ren { t with i:=t.i+1,dn:=false,hit:=false }) 155 (0,0))
  have hk1:=hS1.look
  have r3:=fun o=>rd_of hk1 o
  refine draw_intro [(k,Pu.ren { t with i:=t.i+1,dn:=false,hit:=false },[])] (by simp only[hk1,Pu.ren,↓DD,UU,↓reduceIte,xA,xB,xC,xD,xE,xF,xG,xH,xI,xJ,xK,xL,xM,xN,xO,xP,xQ,ne_eq,eq_self]) ?_
  simp only[hk1,r3,Pu.ren,Ev.upd_upd,↓DD,UU,↓reduceIte,xA,xB,xC,xD,xE,xF,xG,xH,xI,xJ,xK,xL,xM,xN,xO,xP,xQ,ne_eq,eq_self]
  refine⟨a2,cap2,g2,hL,?_⟩
  have hdd:decide (t.i+1=t.s.m)=(t.i+1 == t.s.m):=by by_cases h:t.i+1=t.s.m<;>simp [h]
  have:=hS.set (.cells (Pu.ren { t with i:=t.i+1,dn:=decide (t.i+1=t.s.m) }) 155 (0,0))
  unfold Pu.ren at this
  simp only[hb,hdd]at this
  unfold ruB Pu.ren
  simp only[hb,hdd]
  exact this
end
end Go.Proofs.YtbcdaglbdnkocaaGreat
set_option maxRecDepth 8000
namespace Go.Proofs.YtbcdaglbdnkocaaGreat
open Go Go.Ev Go.Pl Go.Ma

def frC (t:Gv) (gv dn:Bool) (line:Int) (lg:Bool) (pg sl cl n:Int) (own:Bool) (was:Int) (pu pp:Value):Array Value:=
 #[.int .i64 t.s.p,.int .i64 t.s.c,.int .i64 t.s.m,.int .i64 t.c,.int .i64 t.a,.bool gv,.bool dn,.int .i64 line,.bool lg,.int .i64 pg,.int .i64 sl,.int .i64 cl,.int .i64 n,.bool own,.int .u64 was,pu,pp]
def pno:Value:=.pointer none
def pat' (k:Nat):Value:=.pointer (some ⟨k,0,none⟩)
def frB (k:Nat) (c:Array Value):Hp:=sg k (.cells c 113 (0,0))
def emp:Hp:=fun _=>none
def FR (t:Gv) (c:Array Value) (X Y:Hp):Prop:=
 t.dn=true ∨
 (t.nx=0∧c=frC t false false 0 false 0 0 0 0 false 0 pno pno∧X=emp∧Y=emp) ∨
 (t.nx=1∧t.pK=3∧c=frC t false false 1 true t.pg 0 0 t.pA false t.wd pno pno∧X=emp∧Y=emp) ∨
 (t.nx=1∧t.pK=2∧c=frC t false false 1 false t.pg t.sl t.pA 0 (t.pB == t.c) t.wd pno pno∧X=emp∧Y=emp) ∨
 (t.nx=4∧∃ ku,c=frC t true false 2 true t.pg 0 0 t.pA false t.wd (pat' ku) pno∧X=unB ku (unL t.s t.c t.i t.pg t.pA false)∧Y=emp) ∨
 (t.nx=3∧∃ ku,X=unB ku (unS t.s t.c t.pg t.sl t.pA false) ∧
  ((c=frC t true false 2 false t.pg t.sl t.pA 0 false t.wd (pat' ku) pno∧Y=emp)∨(∃ kp p,c=frC t true false 2 false t.pg t.sl t.pA 0 true t.wd (pat' ku) (pat' kp)∧Y=ruB kp p∧p.dn=true))) ∨
 (t.nx=2∧∃ ku kp p,t.put=some p∧X=unB ku (unS t.s t.c t.pg t.sl t.pA false)∧c=frC t true false 2 false t.pg t.sl t.pA 0 true t.wd (pat' ku) (pat' kp)∧Y=ruB kp p)
def frR (t:Gv) (w:Wd):Array Value:=
 if t.isL w then frC t false false 1 true t.pg 0 0 (pgA t.s t.pg (w.get t.pat)) false (w.get t.pat) pno pno else
 if t.isS w then frC t false false 1 false t.pg (t.off / size (pgA t.s t.pg (w.get t.pat))) (pgA t.s t.pg (w.get t.pat)) 0 (pgB t.s t.pg (w.get t.pat) == t.c) (w.get t.pat) pno pno else
 frC t false true 1 false 0 0 0 0 false (w.get t.pat) pno pno
section
variable {W:World} {H:Hp} {k b s:Nat} {t:Gv} {w:Wd} {l:List Hp} {a:Option Addr} {cap:Nat} {g X Y:Hp} {c:Array Value}

theorem m_frnew {sh:Sh} {c a:Int} (hS:Sep l H) :
  CallP Tryz.prog W 40 #[.agg #[.int .i64 sh.p,.int .i64 sh.c,.int .i64 sh.m],.int .i64 c,.int .i64 a] H fun v H'=>∃ k,v=.pointer (some ⟨k,0,none⟩)∧Sep (frB k (frC (Gv.new sh c a) false (Gv.new sh c a).dn 0 false 0 0 0 0 false 0 pno pno) :: l) H':=by
 refine CallP.of mixed Tryz.func40 tr40 (by show 3≤_;decide) fun W _=>?_
 simp only[↓DD,UU,↓reduceIte,xA,xB,xC,xD,xE,xF,xG,xH,xI,xJ,xK,xL,xM,xN,xO,xP,xQ,ne_eq,eq_self]
 refine newB_intro fun x hx f1 f2=>?_
 have hS:=hS.new f1 (.cells #[.int .i64 sh.p,.int .i64 sh.c,.int .i64 sh.m] 23 (0,0))
 have hx1:=hS.look
 have r1:=fun o=>rd_of hx1 o
 have r2:=fun o n=>rdn_of hx1 o n
 simp only[hx1,r1,r2,u_split,↓DD,UU,↓reduceIte,xA,xB,xC,xD,xE,xF,xG,xH,xI,xJ,xK,xL,xM,xN,xO,xP,xQ,ne_eq,eq_self]
 refine draw_intro [(x,#[.int .i64 sh.p,.int .i64 sh.c,.int .i64 sh.m],[])] (by simp only[hx1,↓DD,UU,↓reduceIte,xA,xB,xC,xD,xE,xF,xG,xH,xI,xJ,xK,xL,xM,xN,xO,xP,xQ,ne_eq,eq_self]) ?_
 have n1:decide (0≤status sh.p sh.c sh.m c) = !decide (status sh.p sh.c sh.m c<0):=by rw[← decide_not];exact decide_eq_decide.2 (by omega)
 cases h1:there sh.p sh.c sh.m a<;>cases h2:decide (status sh.p sh.c sh.m c<0)
 all_goals
  rw[h2]at n1
  simp only[hx1,r1,r2,u_good,h1,n1,↓DD,UU,↓reduceIte,xA,xB,xC,xD,xE,xF,xG,xH,xI,xJ,xK,xL,xM,xN,xO,xP,xQ,ne_eq,eq_self]
  refine newB_intro fun y hy f3 f4=>?_
  have nxy:(x=y)=False:=f3 x (by rw[hx1];rfl)
  have nyx:(y=x)=False:=f4 x (by rw[hx1];rfl)
  simp only[hx1,r1,r2,nxy,nyx,↓DD,UU,↓reduceIte,xA,xB,xC,xD,xE,xF,xG,xH,xI,xJ,xK,xL,xM,xN,xO,xP,xQ,ne_eq,eq_self]
  refine⟨y,rfl,?_⟩
  have:=(hS.new f3 (.cells (frC (Gv.new sh c a) false (Gv.new sh c a).dn 0 false 0 0 0 0 false 0 pno pno) 113 (0,0))).p1.tail
  unfold Gv.new frC pno at this
  unfold Gv.new frB frC pno
  simp only[h1,h2]at this ⊢
  exact this
def frD (k b s:Nat) (t:Gv) (w:Wd) (M:Hp) (l:List Hp) (F':Fr) (H':Hp):Prop:=
 gt F' 0=.pointer (some ⟨k,0,none⟩)∧gt F' 4=.int .i64 t.pg∧gt F' 5=.int .i64 t.off∧gt F' 8=.bool (okPg t.s t.pg (w.get t.pat))∧∃ y,gt F' 7=.pointer (some ⟨y,0,none⟩) ∧
  Sep (frB k (frC t false false 0 false 0 0 0 0 false (w.get t.pat) pno pno) :: sg y (.cells #[.int .i64 (pgK t.s t.pg (w.get t.pat)),.int .i64 (pgA t.s t.pg (w.get t.pat)),.int .i64 (pgB t.s t.pg (w.get t.pat))] 66 (0,0)) :: M :: wR s (w.load t.c t.pat) :: l) H'
theorem m_frread (hm:may t.s.p t.s.c t.s.m=true) (hth:there t.s.p t.s.c t.s.m t.a=true) (hsp:t.pg=sp t.s.p t.s.c t.s.m t.a) (hp0:0≤t.pg) (hp1:t.pg<t.s.p) (hw:w.of t.s) (hL:LogOk a cap w g) (hl:w.st+1≤1000000000)
  (hS:Sep (frB k (frC t false false 0 false 0 0 0 0 false 0 pno pno) :: mB b s a cap w :: wR s w :: g :: l) H) :
  CallP Tryz.prog W 88 #[.pointer (some ⟨k,0,none⟩),.pointer (some ⟨b,0,none⟩)] H fun v H'=>v=.tuple #[] ∧
   ∃ a2 cap2 g2,LogOk a2 cap2 (w.load t.c t.pat) g2∧Sep (frB k (frR t w) :: mB b s a2 cap2 (w.load t.c t.pat) :: wR s (w.load t.c t.pat) :: g2 :: l) H':=by
 refine CallP.of mixed Tryz.func88 tr88 (by show 2≤_;decide) fun W _=>?_
 have hk:=hS.look
 have r1:=fun o=>rd_of hk o
 have r2:=fun o n=>rdn_of hk o n
 obtain⟨q0,q1⟩:=page_in hw hm hp0 hp1
 have hu:U (w.get (page t.s.p t.s.c t.s.m t.pg)):=hw.u _
 simp only[hk,r1,r2,u_split,← hsp,frC,↓DD,UU,↓reduceIte,xA,xB,xC,xD,xE,xF,xG,xH,xI,xJ,xK,xL,xM,xN,xO,xP,xQ,ne_eq,eq_self]
 refine draw_intro [(k,frC t false false 0 false 0 0 0 0 false 0 pno pno,[])] (by simp only[hk,frC,↓DD,UU,↓reduceIte,xA,xB,xC,xD,xE,xF,xG,xH,xI,xJ,xK,xL,xM,xN,xO,xP,xQ,ne_eq,eq_self]) ?_
 simp only[hk,r1,r2,u_page,frC,↓DD,UU,↓reduceIte,xA,xB,xC,xD,xE,xF,xG,xH,xI,xJ,xK,xL,xM,xN,xO,xP,xQ,ne_eq,eq_self]
 refine callT_of (m_load _ _ q0 q1 hL hl hS.r3) ?_
 rintro v H' ⟨rfl,a2,cap2,g2,hL,hS⟩
 have hS:=hS.p3
 have hk:=hS.look
 have r1:=fun o=>rd_of hk o
 have r2:=fun o n=>rdn_of hk o n
 simp only[hk,r1,r2,frC,Ev.upd_upd,↓DD,UU,↓reduceIte,xA,xB,xC,xD,xE,xF,xG,xH,xI,xJ,xK,xL,xM,xN,xO,xP,xQ,ne_eq,eq_self]
 have hS:=hS.set (.cells (frC t false false 0 false 0 0 0 0 false (w.get (page t.s.p t.s.c t.s.m t.pg)) pno pno) 113 (0,0))
 have hk:=hS.look
 have r1:=fun o=>rd_of hk o
 have r2:=fun o n=>rdn_of hk o n
 refine draw_cut [(k,frC t false false 0 false 0 0 0 0 false (w.get (page t.s.p t.s.c t.s.m t.pg)) pno pno,[])] (frD k b s t w (mB b s a2 cap2 (w.load t.c t.pat)) (g2 :: l)) (by simp only[hk,frC,↓DD,UU,↓reduceIte,xA,xB,xC,xD,xE,xF,xG,xH,xI,xJ,xK,xL,xM,xN,xO,xP,xQ,ne_eq,eq_self]) ?_ ?_
 ·simp only[hk,r1,r2,u_readpg t.s _ hu,frC,↓e_dalt2,↓DD,UU,↓reduceIte,xA,xB,xC,xD,xE,xF,xG,xH,xI,xJ,xK,xL,xM,xN,xO,xP,xQ,ne_eq,eq_self]
  refine⟨?_,?_⟩
  all_goals
   refine newB_intro fun y hy f3 f4=>?_
   have nky:(k=y)=False:=f3 k (by simp [upd])
   have nyk:(y=k)=False:=f4 k (by simp [upd])
   have hS:=(hS.new f3 (.cells #[.int .i64 (pgK t.s t.pg (w.get (page t.s.p t.s.c t.s.m t.pg))),.int .i64 (pgA t.s t.pg (w.get (page t.s.p t.s.c t.s.m t.pg))),.int .i64 (pgB t.s t.pg (w.get (page t.s.p t.s.c t.s.m t.pg)))] 66 (0,0))).p1
   simp only[hk,r1,r2,nky,nyk,u_readpg t.s _ hu,Ev.upd_upd,frC,↓DD,UU,↓reduceIte,xA,xB,xC,xD,xE,xF,xG,xH,xI,xJ,xK,xL,xM,xN,xO,xP,xQ,ne_eq,eq_self]
   exact⟨rfl,rfl,rfl,rfl,y,rfl,hS⟩
 ·rintro F' H' ⟨e0,e4,e5,e8,y,e7,hS⟩
  have hk:=hS.look
  have r1:=fun o=>rd_of hk o
  have r2:=fun o n=>rdn_of hk o n
  have hy1:=hS.lk 1 rfl
  have ry:=fun o=>rd_of hy1 o
  have ryn:=fun o n=>rdn_of hy1 o n
  have nky:=hS.neq 0 1 (by decide) rfl rfl
  have nyk:=hS.qen 0 1 (by decide) rfl rfl
  have hob:=Gv.off_bd hth
  cases ho:okPg t.s t.pg (w.get t.pat)
  ·have e:frR t w=frC t false true 1 false 0 0 0 0 false (w.get t.pat) pno pno:=by unfold frR Gv.isL Gv.isS;rw[ho];rfl
   rw[ho]at e8
   simp only[hk,r1,r2,hy1,ry,ryn,e0,e4,e5,e7,e8,nky,nyk,Ev.upd_upd,frC,↓DD,UU,↓reduceIte,xA,xB,xC,xD,xE,xF,xG,xH,xI,xJ,xK,xL,xM,xN,xO,xP,xQ,ne_eq,eq_self]
   rw[e]
   exact⟨a2,cap2,g2,hL,(hS.set (.cells (frC t false true 1 false 0 0 0 0 false (w.get t.pat) pno pno) 113 (0,0))).p1.tail⟩
  rw[ho]at e8
  by_cases k3:pgK t.s t.pg (w.get t.pat)=3
  ·have g3:(pgK t.s t.pg (w.get t.pat) == 3)=true:=beq_iff_eq.2 k3
   have g2':(pgK t.s t.pg (w.get t.pat) == 2)=false:=beq_eq_false_iff_ne.2 (by omega)
   by_cases o0:t.off=0
   ·have e:frR t w=frC t false false 1 true t.pg 0 0 (pgA t.s t.pg (w.get t.pat)) false (w.get t.pat) pno pno:=by
     unfold frR;rw[if_pos (by unfold Gv.isL;rw[ho,decide_eq_true k3,decide_eq_true o0];rfl)]
    have g0:(t.off == 0)=true:=beq_iff_eq.2 o0
    simp only[hk,r1,r2,hy1,ry,ryn,e0,e4,e5,e7,e8,nky,nyk,Ev.upd_upd,frC,g3,g0,↓DD,UU,↓reduceIte,xA,xB,xC,xD,xE,xF,xG,xH,xI,xJ,xK,xL,xM,xN,xO,xP,xQ,ne_eq,eq_self]
    rw[e]
    exact⟨a2,cap2,g2,hL,(hS.set (.cells (frC t false false 1 true t.pg 0 0 (pgA t.s t.pg (w.get t.pat)) false (w.get t.pat) pno pno) 113 (0,0))).p1.tail⟩
   ·have e:frR t w=frC t false true 1 false 0 0 0 0 false (w.get t.pat) pno pno:=by
     unfold frR
     rw[if_neg (by unfold Gv.isL;rw[decide_eq_false o0];simp),if_neg (by unfold Gv.isS;rw[decide_eq_false (by omega:¬ pgK t.s t.pg (w.get t.pat)=2)];simp)]
    have g0:(t.off == 0)=false:=beq_eq_false_iff_ne.2 o0
    simp only[hk,r1,r2,hy1,ry,ryn,e0,e4,e5,e7,e8,nky,nyk,Ev.upd_upd,frC,g3,g2',g0,↓DD,UU,↓reduceIte,xA,xB,xC,xD,xE,xF,xG,xH,xI,xJ,xK,xL,xM,xN,xO,xP,xQ,ne_eq,eq_self]
    rw[e]
    exact⟨a2,cap2,g2,hL,(hS.set (.cells (frC t false true 1 false 0 0 0 0 false (w.get t.pat) pno pno) 113 (0,0))).p1.tail⟩
  have g3:(pgK t.s t.pg (w.get t.pat) == 3)=false:=beq_eq_false_iff_ne.2 k3
  have nL:t.isL w=false:=by unfold Gv.isL;rw[decide_eq_false k3];simp
  by_cases k2:pgK t.s t.pg (w.get t.pat)=2
  ·have g2':(pgK t.s t.pg (w.get t.pat) == 2)=true:=beq_iff_eq.2 k2
   have hA:=Gv.ok_super ho k2
   have hz:4≤size (pgA t.s t.pg (w.get t.pat))∧size (pgA t.s t.pg (w.get t.pat))≤32:=by
    rcases (by omega:pgA t.s t.pg (w.get t.pat)=0∨pgA t.s t.pg (w.get t.pat)=1∨pgA t.s t.pg (w.get t.pat)=2∨pgA t.s t.pg (w.get t.pat)=3) with h | h | h | h<;>rw[h]<;>decide
   have z0:(size (pgA t.s t.pg (w.get t.pat))=0)=False:=eq_false (by omega)
   have tm:t.off.tmod (size (pgA t.s t.pg (w.get t.pat)))=t.off % size (pgA t.s t.pg (w.get t.pat)):=Int.tmod_eq_emod_of_nonneg hob.1
   have td:t.off.tdiv (size (pgA t.s t.pg (w.get t.pat)))=t.off / size (pgA t.s t.pg (w.get t.pat)):=Int.tdiv_eq_ediv_of_nonneg hob.1
   have b1:=Int.emod_nonneg t.off (by omega:size (pgA t.s t.pg (w.get t.pat))≠0)
   have b2:=Int.emod_lt_of_pos t.off (by omega:0<size (pgA t.s t.pg (w.get t.pat)))
   have b3:0≤t.off / size (pgA t.s t.pg (w.get t.pat)):=Int.ediv_nonneg hob.1 (by omega)
   have b4:t.off / size (pgA t.s t.pg (w.get t.pat))≤t.off:=Int.ediv_le_self _ hob.1
   have wm:w64 (t.off % size (pgA t.s t.pg (w.get t.pat)))=t.off % size (pgA t.s t.pg (w.get t.pat)):=w64_eq (by omega) (by omega)
   have wd:w64 (t.off / size (pgA t.s t.pg (w.get t.pat)))=t.off / size (pgA t.s t.pg (w.get t.pat)):=w64_eq (by omega) (by omega)
   by_cases o0:t.off % size (pgA t.s t.pg (w.get t.pat))=0
   ·have e:frR t w=frC t false false 1 false t.pg (t.off / size (pgA t.s t.pg (w.get t.pat))) (pgA t.s t.pg (w.get t.pat)) 0 (pgB t.s t.pg (w.get t.pat) == t.c) (w.get t.pat) pno pno:=by
     unfold frR
     rw[nL,if_neg (by decide),if_pos (by unfold Gv.isS;rw[ho,decide_eq_true k2,decide_eq_true o0];rfl)]
    have g0:(t.off % size (pgA t.s t.pg (w.get t.pat)) == 0)=true:=beq_iff_eq.2 o0
    simp only[hk,r1,r2,hy1,ry,ryn,e0,e4,e5,e7,e8,nky,nyk,Ev.upd_upd,frC,g3,g2',u_size,z0,wrap_w64,tm,wm,g0,↓DD,UU,↓reduceIte,xA,xB,xC,xD,xE,xF,xG,xH,xI,xJ,xK,xL,xM,xN,xO,xP,xQ,ne_eq,eq_self]
    have hS1:=hS.set (.cells (frC t false false 1 false 0 0 0 0 false (w.get t.pat) pno pno) 113 (0,0))
    have hk1:=hS1.look
    have hy2:=hS1.lk 1 rfl
    refine draw_intro [(k,frC t false false 1 false 0 0 0 0 false (w.get t.pat) pno pno,[]),(y,#[.int .i64 (pgK t.s t.pg (w.get t.pat)),.int .i64 (pgA t.s t.pg (w.get t.pat)),.int .i64 (pgB t.s t.pg (w.get t.pat))],[])] (by simp only[hk1,hy2,hy1,nky,nyk,frC,↓DD,UU,↓reduceIte,xA,xB,xC,xD,xE,xF,xG,xH,xI,xJ,xK,xL,xM,xN,xO,xP,xQ,ne_eq,eq_self]) ?_
    have r1:=fun o=>rd_of hk1 o
    simp only[hk1,r1,r2,hy1,hy2,ry,ryn,e0,e4,e5,e7,e8,nky,nyk,Ev.upd_upd,frC,u_size,z0,wrap_w64,td,wd,↓DD,UU,↓reduceIte,xA,xB,xC,xD,xE,xF,xG,xH,xI,xJ,xK,xL,xM,xN,xO,xP,xQ,ne_eq,eq_self]
    have hS2:=hS.set (.cells (frC t false false 1 false t.pg (t.off / size (pgA t.s t.pg (w.get t.pat))) (pgA t.s t.pg (w.get t.pat)) 0 false (w.get t.pat) pno pno) 113 (0,0))
    have hk2:=hS2.look
    have hy3:=hS2.lk 1 rfl
    refine draw_intro [(k,frC t false false 1 false t.pg (t.off / size (pgA t.s t.pg (w.get t.pat))) (pgA t.s t.pg (w.get t.pat)) 0 false (w.get t.pat) pno pno,[]),(y,#[.int .i64 (pgK t.s t.pg (w.get t.pat)),.int .i64 (pgA t.s t.pg (w.get t.pat)),.int .i64 (pgB t.s t.pg (w.get t.pat))],[])] ?_ ?_
    ·simp only[hk2,hy3,hy1,nky,nyk,frC,↓DD,UU,↓reduceIte,xA,xB,xC,xD,xE,xF,xG,xH,xI,xJ,xK,xL,xM,xN,xO,xP,xQ,ne_eq,eq_self]
    have r1:=fun o=>rd_of hk2 o
    simp only[hk2,r1,r2,hy1,hy3,ry,ryn,e0,e4,e5,e7,e8,nky,nyk,Ev.upd_upd,frC,↓DD,UU,↓reduceIte,xA,xB,xC,xD,xE,xF,xG,xH,xI,xJ,xK,xL,xM,xN,xO,xP,xQ,ne_eq,eq_self]
    rw[e]
    exact⟨a2,cap2,g2,hL,(hS.set (.cells (frC t false false 1 false t.pg (t.off / size (pgA t.s t.pg (w.get t.pat))) (pgA t.s t.pg (w.get t.pat)) 0 (pgB t.s t.pg (w.get t.pat) == t.c) (w.get t.pat) pno pno) 113 (0,0))).p1.tail⟩
   ·have e:frR t w=frC t false true 1 false 0 0 0 0 false (w.get t.pat) pno pno:=by
     unfold frR
     rw[nL,if_neg (by decide),if_neg (by unfold Gv.isS;rw[decide_eq_false o0];simp)]
    have g0:(t.off % size (pgA t.s t.pg (w.get t.pat)) == 0)=false:=beq_eq_false_iff_ne.2 o0
    simp only[hk,r1,r2,hy1,ry,ryn,e0,e4,e5,e7,e8,nky,nyk,Ev.upd_upd,frC,g3,g2',u_size,z0,wrap_w64,tm,wm,g0,↓DD,UU,↓reduceIte,xA,xB,xC,xD,xE,xF,xG,xH,xI,xJ,xK,xL,xM,xN,xO,xP,xQ,ne_eq,eq_self]
    rw[e]
    exact⟨a2,cap2,g2,hL,(hS.set (.cells (frC t false true 1 false 0 0 0 0 false (w.get t.pat) pno pno) 113 (0,0))).p1.tail⟩
  ·have g2':(pgK t.s t.pg (w.get t.pat) == 2)=false:=beq_eq_false_iff_ne.2 k2
   have e:frR t w=frC t false true 1 false 0 0 0 0 false (w.get t.pat) pno pno:=by
    unfold frR
    rw[nL,if_neg (by decide),if_neg (by unfold Gv.isS;rw[decide_eq_false k2];simp)]
   simp only[hk,r1,r2,hy1,ry,ryn,e0,e4,e5,e7,e8,nky,nyk,Ev.upd_upd,frC,g3,g2',↓DD,UU,↓reduceIte,xA,xB,xC,xD,xE,xF,xG,xH,xI,xJ,xK,xL,xM,xN,xO,xP,xQ,ne_eq,eq_self]
   rw[e]
   exact⟨a2,cap2,g2,hL,(hS.set (.cells (frC t false true 1 false 0 0 0 0 false (w.get t.pat) pno pno) 113 (0,0))).p1.tail⟩
end
end Go.Proofs.YtbcdaglbdnkocaaGreat
set_option maxRecDepth 8000
namespace Go.Proofs.YtbcdaglbdnkocaaGreat
open Go Go.Ev Go.Pl Go.Ma

section
variable {W:World} {H:Hp} {k b s:Nat} {t:Gv} {w:Wd} {l:List Hp} {a:Option Addr} {cap:Nat} {g X Y:Hp} {c:Array Value}

theorem m_frswapL (hm:may t.s.p t.s.c t.s.m=true) (hc:0≤t.c∧t.c<t.s.c) (hp0:0≤t.pg) (hp1:t.pg<t.s.p) (hA:1≤t.pA∧t.pA≤8) (hpA:t.pg+t.pA≤t.s.p) (hw:w.of t.s) (hL:LogOk a cap w g) (hl:w.st+1≤1000000000)
  (hS:Sep (frB k (frC t false false 1 true t.pg 0 0 t.pA false t.wd pno pno) :: mB b s a cap w :: wR s w :: g :: l) H) :
  CallP Tryz.prog W 89 #[.pointer (some ⟨k,0,none⟩),.pointer (some ⟨b,0,none⟩)] H fun v H'=>v=.tuple #[] ∧
   ∃ ku a2 cap2 g2,LogOk a2 cap2 (w.swap t.c t.pat t.wd (held t.c)) g2∧Sep (frB k (frC t (decide (w.get t.pat=t.wd)) (!decide (w.get t.pat=t.wd)) 2 true t.pg 0 0 t.pA false t.wd (pat' ku) pno) :: unB ku (unL t.s t.c 0 t.pg t.pA false) :: mB b s a2 cap2 (w.swap t.c t.pat t.wd (held t.c)) :: wR s (w.swap t.c t.pat t.wd (held t.c)) :: g2 :: l) H':=by
 refine CallP.of mixed Tryz.func89 tr89 (by show 2≤_;decide) fun W _=>?_
 have hk:=hS.look
 have r1:=fun o=>rd_of hk o
 have r2:=fun o n=>rdn_of hk o n
 obtain⟨q0,q1⟩:=page_in hw hm hp0 hp1
 have he:(w.get (page t.s.p t.s.c t.s.m t.pg) == t.wd)=decide (w.get t.pat=t.wd):=by
  show(w.get t.pat == t.wd)=_
  by_cases h:w.get t.pat=t.wd<;>simp [h]
 simp only[hk,r1,r2,frC,Ev.upd_upd,↓DD,UU,↓reduceIte,xA,xB,xC,xD,xE,xF,xG,xH,xI,xJ,xK,xL,xM,xN,xO,xP,xQ,ne_eq,eq_self]
 have hS:=hS.set (.cells (frC t false false 2 true t.pg 0 0 t.pA false t.wd pno pno) 113 (0,0))
 have hk:=hS.look
 have r1:=fun o=>rd_of hk o
 have r2:=fun o n=>rdn_of hk o n
 refine draw_intro [(k,frC t false false 2 true t.pg 0 0 t.pA false t.wd pno pno,[])] (by simp only[hk,frC,↓DD,UU,↓reduceIte,xA,xB,xC,xD,xE,xF,xG,xH,xI,xJ,xK,xL,xM,xN,xO,xP,xQ,ne_eq,eq_self]) ?_
 simp only[hk,r1,r2,u_page,u_held,frC,↓DD,UU,↓reduceIte,xA,xB,xC,xD,xE,xF,xG,xH,xI,xJ,xK,xL,xM,xN,xO,xP,xQ,ne_eq,eq_self]
 refine callT_of (m_swap _ _ _ _ q0 q1 hL hl hS.r3) ?_
 rintro v H' ⟨rfl,a2,cap2,g2,hL,hS⟩
 have hS:=hS.p3
 have hk:=hS.look
 simp only[hk,he,frC,Ev.upd_upd,↓DD,UU,↓reduceIte,xA,xB,xC,xD,xE,xF,xG,xH,xI,xJ,xK,xL,xM,xN,xO,xP,xQ,ne_eq,eq_self]
 have hS:=hS.set (.cells (frC t (decide (w.get t.pat=t.wd)) false 2 true t.pg 0 0 t.pA false t.wd pno pno) 113 (0,0))
 have hk:=hS.look
 have r1:=fun o=>rd_of hk o
 have r2:=fun o n=>rdn_of hk o n
 refine draw_intro [(k,frC t (decide (w.get t.pat=t.wd)) false 2 true t.pg 0 0 t.pA false t.wd pno pno,[])] (by simp only[hk,frC,↓DD,UU,↓reduceIte,xA,xB,xC,xD,xE,xF,xG,xH,xI,xJ,xK,xL,xM,xN,xO,xP,xQ,ne_eq,eq_self]) ?_
 simp only[hk,r1,r2,frC,Ev.upd_upd,↓DD,UU,↓reduceIte,xA,xB,xC,xD,xE,xF,xG,xH,xI,xJ,xK,xL,xM,xN,xO,xP,xQ,ne_eq,eq_self]
 refine callT_of (m_unnewL hm hc ⟨hp0,hp1⟩ hA hpA hS) ?_
 rintro v H' ⟨ku,rfl,hS⟩
 have hS:=hS.p1
 have hk:=hS.look
 have r1:=fun o=>rd_of hk o
 have r2:=fun o n=>rdn_of hk o n
 simp only[hk,r1,r2,frC,Ev.upd_upd,↓DD,UU,↓reduceIte,xA,xB,xC,xD,xE,xF,xG,xH,xI,xJ,xK,xL,xM,xN,xO,xP,xQ,ne_eq,eq_self]
 exact⟨ku,a2,cap2,g2,hL,hS.set (.cells (frC t (decide (w.get t.pat=t.wd)) (!decide (w.get t.pat=t.wd)) 2 true t.pg 0 0 t.pA false t.wd (pat' ku) pno) 113 (0,0))⟩
theorem m_frswapN (hm:may t.s.p t.s.c t.s.m=true) (hc:0≤t.c∧t.c<t.s.c) (hp0:0≤t.pg) (hp1:t.pg<t.s.p) (hs:0≤t.sl∧t.sl<slots t.pA) (hw:w.of t.s) (hL:LogOk a cap w g) (hl:w.st+1≤1000000000)
  (hS:Sep (frB k (frC t false false 1 false t.pg t.sl t.pA 0 false t.wd pno pno) :: mB b s a cap w :: wR s w :: g :: l) H) :
  CallP Tryz.prog W 89 #[.pointer (some ⟨k,0,none⟩),.pointer (some ⟨b,0,none⟩)] H fun v H'=>v=.tuple #[] ∧
   ∃ ku a2 cap2 g2,LogOk a2 cap2 (w.swap t.c t.sat (taken t.pA) (way t.c)) g2∧Sep (frB k (frC t (decide (w.get t.sat=taken t.pA)) (!decide (w.get t.sat=taken t.pA)) 2 false t.pg t.sl t.pA 0 false t.wd (pat' ku) pno) :: unB ku (unS t.s t.c t.pg t.sl t.pA false) :: mB b s a2 cap2 (w.swap t.c t.sat (taken t.pA) (way t.c)) :: wR s (w.swap t.c t.sat (taken t.pA) (way t.c)) :: g2 :: l) H':=by
 refine CallP.of mixed Tryz.func89 tr89 (by show 2≤_;decide) fun W _=>?_
 have hk:=hS.look
 have r1:=fun o=>rd_of hk o
 have r2:=fun o n=>rdn_of hk o n
 have sb:=slots_bd t.pA
 obtain⟨q0,q1⟩:=slot_in hw hm hp0 hp1 hs.1 (by omega:t.sl<16)
 have he:(w.get (slot t.s.p t.s.c t.s.m t.pg t.sl) == taken t.pA)=decide (w.get t.sat=taken t.pA):=by
  show(w.get t.sat == taken t.pA)=_
  by_cases h:w.get t.sat=taken t.pA<;>simp [h]
 simp only[hk,r1,r2,frC,Ev.upd_upd,↓DD,UU,↓reduceIte,xA,xB,xC,xD,xE,xF,xG,xH,xI,xJ,xK,xL,xM,xN,xO,xP,xQ,ne_eq,eq_self]
 have hS:=hS.set (.cells (frC t false false 2 false t.pg t.sl t.pA 0 false t.wd pno pno) 113 (0,0))
 have hk:=hS.look
 have r1:=fun o=>rd_of hk o
 have r2:=fun o n=>rdn_of hk o n
 refine draw_intro [(k,frC t false false 2 false t.pg t.sl t.pA 0 false t.wd pno pno,[])] (by simp only[hk,frC,↓DD,UU,↓reduceIte,xA,xB,xC,xD,xE,xF,xG,xH,xI,xJ,xK,xL,xM,xN,xO,xP,xQ,ne_eq,eq_self]) ?_
 simp only[hk,r1,r2,u_slot,u_taken,u_way,frC,↓DD,UU,↓reduceIte,xA,xB,xC,xD,xE,xF,xG,xH,xI,xJ,xK,xL,xM,xN,xO,xP,xQ,ne_eq,eq_self]
 refine callT_of (m_swap _ _ _ _ q0 q1 hL hl hS.r3) ?_
 rintro v H' ⟨rfl,a2,cap2,g2,hL,hS⟩
 have hS:=hS.p3
 have hk:=hS.look
 have r1:=fun o=>rd_of hk o
 simp only[hk,r1,he,frC,Ev.upd_upd,↓DD,UU,↓reduceIte,xA,xB,xC,xD,xE,xF,xG,xH,xI,xJ,xK,xL,xM,xN,xO,xP,xQ,ne_eq,eq_self]
 have hS:=hS.set (.cells (frC t (decide (w.get t.sat=taken t.pA)) false 2 false t.pg t.sl t.pA 0 false t.wd pno pno) 113 (0,0))
 have hk:=hS.look
 have r1:=fun o=>rd_of hk o
 have r2:=fun o n=>rdn_of hk o n
 refine draw_intro [(k,frC t (decide (w.get t.sat=taken t.pA)) false 2 false t.pg t.sl t.pA 0 false t.wd pno pno,[])] (by simp only[hk,frC,↓DD,UU,↓reduceIte,xA,xB,xC,xD,xE,xF,xG,xH,xI,xJ,xK,xL,xM,xN,xO,xP,xQ,ne_eq,eq_self]) ?_
 simp only[hk,r1,r2,frC,Ev.upd_upd,↓DD,UU,↓reduceIte,xA,xB,xC,xD,xE,xF,xG,xH,xI,xJ,xK,xL,xM,xN,xO,xP,xQ,ne_eq,eq_self]
 refine callT_of (m_unnewS hm hc ⟨hp0,hp1⟩ hs hS) ?_
 rintro v H' ⟨ku,rfl,hS⟩
 have hS:=hS.p1
 have hk:=hS.look
 have r1:=fun o=>rd_of hk o
 have r2:=fun o n=>rdn_of hk o n
 simp only[hk,r1,r2,frC,Ev.upd_upd,↓DD,UU,↓reduceIte,xA,xB,xC,xD,xE,xF,xG,xH,xI,xJ,xK,xL,xM,xN,xO,xP,xQ,ne_eq,eq_self]
 exact⟨ku,a2,cap2,g2,hL,hS.set (.cells (frC t (decide (w.get t.sat=taken t.pA)) (!decide (w.get t.sat=taken t.pA)) 2 false t.pg t.sl t.pA 0 false t.wd (pat' ku) pno) 113 (0,0))⟩
theorem m_frswapO (hm:may t.s.p t.s.c t.s.m=true) (hc:0≤t.c∧t.c<t.s.c) (hp0:0≤t.pg) (hp1:t.pg<t.s.p) (hs:0≤t.sl∧t.sl<slots t.pA) (hw:w.of t.s) (hL:LogOk a cap w g) (hl:w.st+1≤1000000000)
  (hS:Sep (frB k (frC t false false 1 false t.pg t.sl t.pA 0 true t.wd pno pno) :: mB b s a cap w :: wR s w :: g :: l) H) :
  CallP Tryz.prog W 89 #[.pointer (some ⟨k,0,none⟩),.pointer (some ⟨b,0,none⟩)] H fun v H'=>v=.tuple #[] ∧
   ∃ ku kp a2 cap2 g2,LogOk a2 cap2 (w.swap t.c t.sat (taken t.pA) (way t.c)) g2∧Sep (frB k (frC t (decide (w.get t.sat=taken t.pA)) (!decide (w.get t.sat=taken t.pA)) 2 false t.pg t.sl t.pA 0 true t.wd (pat' ku) (pat' kp)) :: unB ku (unS t.s t.c t.pg t.sl t.pA false) :: ruB kp t.pnew :: mB b s a2 cap2 (w.swap t.c t.sat (taken t.pA) (way t.c)) :: wR s (w.swap t.c t.sat (taken t.pA) (way t.c)) :: g2 :: l) H':=by
 refine CallP.of mixed Tryz.func89 tr89 (by show 2≤_;decide) fun W _=>?_
 have hk:=hS.look
 have r1:=fun o=>rd_of hk o
 have r2:=fun o n=>rdn_of hk o n
 have sb:=slots_bd t.pA
 obtain⟨q0,q1⟩:=slot_in hw hm hp0 hp1 hs.1 (by omega:t.sl<16)
 have he:(w.get (slot t.s.p t.s.c t.s.m t.pg t.sl) == taken t.pA)=decide (w.get t.sat=taken t.pA):=by
  show(w.get t.sat == taken t.pA)=_
  by_cases h:w.get t.sat=taken t.pA<;>simp [h]
 simp only[hk,r1,r2,frC,Ev.upd_upd,↓DD,UU,↓reduceIte,xA,xB,xC,xD,xE,xF,xG,xH,xI,xJ,xK,xL,xM,xN,xO,xP,xQ,ne_eq,eq_self]
 have hS:=hS.set (.cells (frC t false false 2 false t.pg t.sl t.pA 0 true t.wd pno pno) 113 (0,0))
 have hk:=hS.look
 have r1:=fun o=>rd_of hk o
 have r2:=fun o n=>rdn_of hk o n
 refine draw_intro [(k,frC t false false 2 false t.pg t.sl t.pA 0 true t.wd pno pno,[])] (by simp only[hk,frC,↓DD,UU,↓reduceIte,xA,xB,xC,xD,xE,xF,xG,xH,xI,xJ,xK,xL,xM,xN,xO,xP,xQ,ne_eq,eq_self]) ?_
 simp only[hk,r1,r2,u_slot,u_taken,u_way,frC,↓DD,UU,↓reduceIte,xA,xB,xC,xD,xE,xF,xG,xH,xI,xJ,xK,xL,xM,xN,xO,xP,xQ,ne_eq,eq_self]
 refine callT_of (m_swap _ _ _ _ q0 q1 hL hl hS.r3) ?_
 rintro v H' ⟨rfl,a2,cap2,g2,hL,hS⟩
 have hS:=hS.p3
 have hk:=hS.look
 have r1:=fun o=>rd_of hk o
 simp only[hk,r1,he,frC,Ev.upd_upd,↓DD,UU,↓reduceIte,xA,xB,xC,xD,xE,xF,xG,xH,xI,xJ,xK,xL,xM,xN,xO,xP,xQ,ne_eq,eq_self]
 have hS:=hS.set (.cells (frC t (decide (w.get t.sat=taken t.pA)) false 2 false t.pg t.sl t.pA 0 true t.wd pno pno) 113 (0,0))
 have hk:=hS.look
 have r1:=fun o=>rd_of hk o
 have r2:=fun o n=>rdn_of hk o n
 refine draw_intro [(k,frC t (decide (w.get t.sat=taken t.pA)) false 2 false t.pg t.sl t.pA 0 true t.wd pno pno,[])] (by simp only[hk,frC,↓DD,UU,↓reduceIte,xA,xB,xC,xD,xE,xF,xG,xH,xI,xJ,xK,xL,xM,xN,xO,xP,xQ,ne_eq,eq_self]) ?_
 simp only[hk,r1,r2,frC,Ev.upd_upd,↓DD,UU,↓reduceIte,xA,xB,xC,xD,xE,xF,xG,xH,xI,xJ,xK,xL,xM,xN,xO,xP,xQ,ne_eq,eq_self]
 refine callT_of (m_punew (sh:=t.s) hS) ?_
 rintro v H' ⟨kp,rfl,hS⟩
 have hS:=hS.p1
 have hk:=hS.look
 have r1:=fun o=>rd_of hk o
 have r2:=fun o n=>rdn_of hk o n
 simp only[hk,r1,r2,frC,Ev.upd_upd,↓DD,UU,↓reduceIte,xA,xB,xC,xD,xE,xF,xG,xH,xI,xJ,xK,xL,xM,xN,xO,xP,xQ,ne_eq,eq_self]
 have hS:=hS.set (.cells (frC t (decide (w.get t.sat=taken t.pA)) false 2 false t.pg t.sl t.pA 0 true t.wd pno (pat' kp)) 113 (0,0))
 have hk:=hS.look
 have r1:=fun o=>rd_of hk o
 have r2:=fun o n=>rdn_of hk o n
 refine draw_intro [(k,frC t (decide (w.get t.sat=taken t.pA)) false 2 false t.pg t.sl t.pA 0 true t.wd pno (pat' kp),[])] (by simp only[hk,frC,pat',↓DD,UU,↓reduceIte,xA,xB,xC,xD,xE,xF,xG,xH,xI,xJ,xK,xL,xM,xN,xO,xP,xQ,ne_eq,eq_self]) ?_
 simp only[hk,r1,r2,frC,pat',Ev.upd_upd,↓DD,UU,↓reduceIte,xA,xB,xC,xD,xE,xF,xG,xH,xI,xJ,xK,xL,xM,xN,xO,xP,xQ,ne_eq,eq_self]
 refine callT_of (m_unnewS hm hc ⟨hp0,hp1⟩ hs hS) ?_
 rintro v H' ⟨ku,rfl,hS⟩
 have hS:=hS.p1
 have hk:=hS.look
 have r1:=fun o=>rd_of hk o
 have r2:=fun o n=>rdn_of hk o n
 simp only[hk,r1,r2,frC,pat',Ev.upd_upd,↓DD,UU,↓reduceIte,xA,xB,xC,xD,xE,xF,xG,xH,xI,xJ,xK,xL,xM,xN,xO,xP,xQ,ne_eq,eq_self]
 exact⟨ku,kp,a2,cap2,g2,hL,(hS.set (.cells (frC t (decide (w.get t.sat=taken t.pA)) (!decide (w.get t.sat=taken t.pA)) 2 false t.pg t.sl t.pA 0 true t.wd (pat' ku) (pat' kp)) 113 (0,0)))⟩
theorem m_frstep (ht:t.wf) (hd:t.dn=false) (hF:FR t c X Y) (hw:w.of t.s) (hL:LogOk a cap w g) (hl:w.st+1≤1000000000) (hS:Sep (frB k c :: X :: Y :: mB b s a cap w :: wR s w :: g :: l) H) :
  CallP Tryz.prog W 47 #[.pointer (some ⟨k,0,none⟩),.pointer (some ⟨b,0,none⟩)] H fun v H'=>v=.tuple #[] ∧
   ∃ c2 X2 Y2 a2 cap2 g2,FR (t.step w).1 c2 X2 Y2∧c2[5]? = some (.bool (t.step w).1.gv)∧c2[6]? = some (.bool (t.step w).1.dn)∧LogOk a2 cap2 (t.step w).2 g2 ∧
    Sep (frB k c2 :: X2 :: Y2 :: mB b s a2 cap2 (t.step w).2 :: wR s (t.step w).2 :: g2 :: l) H':=by
 refine CallP.of mixed Tryz.func47 tr47 (by show 2≤_;decide) fun W _=>?_
 obtain⟨hm,c0,c1,p0,p1,hth,hsp,n0,n4⟩:=ht.of hd
 have hb:=(may_iff _ _ _).1 hm
 rcases hF with hF |⟨hn,rfl,rfl,rfl⟩|⟨hn,hk3,rfl,rfl,rfl⟩|⟨hn,hk2,rfl,rfl,rfl⟩|⟨hn,ku,rfl,rfl,rfl⟩|⟨hn,ku,rfl,hF⟩|⟨hn,ku,kp,p,hp,rfl,rfl,rfl⟩
 ·rw[hd]at hF;cases hF
 ·have hk:=hS.look
  have r1:=fun o=>rd_of hk o
  rw[Gv.step_0 hd hn]
  simp only[hk,r1,frC,↓DD,UU,↓reduceIte,xA,xB,xC,xD,xE,xF,xG,xH,xI,xJ,xK,xL,xM,xN,xO,xP,xQ,ne_eq,eq_self]
  have hS':Sep (frB k (frC t false false 0 false 0 0 0 0 false 0 pno pno) :: mB b s a cap w :: wR s w :: g :: l) H:=hS.p1.tail.p1.tail
  refine callT_of (m_frread hm hth hsp p0 p1 hw hL hl hS') ?_
  rintro v H' ⟨rfl,a2,cap2,g2,hL,hS⟩
  simp only[↓DD,UU,↓reduceIte,xA,xB,xC,xD,xE,xF,xG,xH,xI,xJ,xK,xL,xM,xN,xO,xP,xQ,ne_eq,eq_self]
  have hgv:=(ht.n01 (.inl hn)).2.1
  refine⟨frR t w,emp,emp,a2,cap2,g2,?_,?_,?_,hL,hS.nothing.nothing.p2⟩
  ·show FR (t.look w) (frR t w) emp emp
   unfold Gv.look frR
   split
   ·rename_i h1
    unfold Gv.isL at h1
    simp only[Bool.and_eq_true,decide_eq_true_eq]at h1
    exact .inr (.inr (.inl ⟨rfl,h1.2.1,rfl,rfl,rfl⟩))
   ·split
    ·rename_i h1
     unfold Gv.isS at h1
     simp only[Bool.and_eq_true,decide_eq_true_eq]at h1
     exact .inr (.inr (.inr (.inl ⟨rfl,h1.2.1,rfl,rfl,rfl⟩)))
    ·exact .inl rfl
  ·show(frR t w)[5]? = some (Value.bool (t.look w).gv)
   unfold Gv.look frR
   split
   ·show _=some (Value.bool t.gv);rw[hgv];rfl
   ·split
    ·show _=some (Value.bool t.gv);rw[hgv];rfl
    ·show _=some (Value.bool t.gv);rw[hgv];rfl
  ·show(frR t w)[6]? = some (Value.bool (t.look w).dn)
   unfold Gv.look frR
   split
   ·show _=some (Value.bool t.dn);rw[hd];rfl
   ·split
    ·show _=some (Value.bool t.dn);rw[hd];rfl
    ·rfl
 ·have hk:=hS.look
  have r1:=fun o=>rd_of hk o
  obtain⟨-,hbl,-⟩:=ht.bl hd (by omega)
  have hbl:1≤t.pA∧t.pA≤8∧t.pg+t.pA≤t.s.p:=by rcases hbl with h | h<;>omega
  have hi0:=(ht.n01 (.inr hn)).2.2
  rw[Gv.step_1L hd hn hk3]
  simp only[hk,r1,frC,↓DD,UU,↓reduceIte,xA,xB,xC,xD,xE,xF,xG,xH,xI,xJ,xK,xL,xM,xN,xO,xP,xQ,ne_eq,eq_self]
  refine callT_of (m_frswapL hm ⟨c0,c1⟩ p0 p1 ⟨hbl.1,hbl.2.1⟩ hbl.2.2 hw hL hl hS.p1.tail.p1.tail) ?_
  rintro v H' ⟨rfl,ku,a2,cap2,g2,hL,hS⟩
  simp only[↓DD,UU,↓reduceIte,xA,xB,xC,xD,xE,xF,xG,xH,xI,xJ,xK,xL,xM,xN,xO,xP,xQ,ne_eq,eq_self]
  refine⟨_,unB ku (unL t.s t.c 0 t.pg t.pA false),emp,a2,cap2,g2,?_,rfl,rfl,hL,hS.nothing.p2.p2⟩
  cases hz:decide (w.get t.pat=t.wd)
  ·exact .inl (by show(!decide (w.get t.pat=t.wd))=true;rw[hz];rfl)
  ·exact .inr (.inr (.inr (.inr (.inl ⟨rfl,ku,rfl,by show _=unB ku (unL t.s t.c t.i t.pg t.pA false);rw[hi0],rfl⟩))))
 ·have hk:=hS.look
  have r1:=fun o=>rd_of hk o
  obtain⟨-,hbl,-⟩:=ht.bl hd (by omega)
  have hbl:0≤t.sl∧t.sl<slots t.pA:=by rcases hbl with h | h<;>omega
  rw[Gv.step_1S hd hn hk2]
  by_cases hown:t.pB=t.c
  ·have gb:(t.pB == t.c)=true:=beq_iff_eq.2 hown
   rw[gb]at hS hk r1
   simp only[hk,r1,frC,↓DD,UU,↓reduceIte,xA,xB,xC,xD,xE,xF,xG,xH,xI,xJ,xK,xL,xM,xN,xO,xP,xQ,ne_eq,eq_self]
   refine callT_of (m_frswapO hm ⟨c0,c1⟩ p0 p1 hbl hw hL hl hS.p1.tail.p1.tail) ?_
   rintro v H' ⟨rfl,ku,kp,a2,cap2,g2,hL,hS⟩
   simp only[↓DD,UU,↓reduceIte,xA,xB,xC,xD,xE,xF,xG,xH,xI,xJ,xK,xL,xM,xN,xO,xP,xQ,ne_eq,eq_self]
   have e:t.claimS w = { t with gv:=decide (w.get t.sat=taken t.pA),put:=some t.pnew,nx:=if t.pnew.dn then 3 else 2,dn:=!decide (w.get t.sat=taken t.pA) }:=if_pos hown
   refine⟨_,_,_,a2,cap2,g2,?_,?_,?_,hL,hS⟩
   ·rw[e]
    cases hz:decide (w.get t.sat=taken t.pA)
    ·exact .inl rfl
    ·cases hpd:t.pnew.dn
     ·exact .inr (.inr (.inr (.inr (.inr (.inr ⟨rfl,ku,kp,t.pnew,rfl,rfl,rfl,rfl⟩)))))
     ·exact .inr (.inr (.inr (.inr (.inr (.inl ⟨rfl,ku,rfl,.inr ⟨kp,t.pnew,rfl,rfl,hpd⟩⟩)))))
   ·rw[e];rfl
   ·rw[e];rfl
  ·have gb:(t.pB == t.c)=false:=beq_eq_false_iff_ne.2 hown
   rw[gb]at hS hk r1
   simp only[hk,r1,frC,↓DD,UU,↓reduceIte,xA,xB,xC,xD,xE,xF,xG,xH,xI,xJ,xK,xL,xM,xN,xO,xP,xQ,ne_eq,eq_self]
   refine callT_of (m_frswapN hm ⟨c0,c1⟩ p0 p1 hbl hw hL hl hS.p1.tail.p1.tail) ?_
   rintro v H' ⟨rfl,ku,a2,cap2,g2,hL,hS⟩
   simp only[↓DD,UU,↓reduceIte,xA,xB,xC,xD,xE,xF,xG,xH,xI,xJ,xK,xL,xM,xN,xO,xP,xQ,ne_eq,eq_self]
   have e:t.claimS w = { t with gv:=decide (w.get t.sat=taken t.pA),nx:=3,dn:=!decide (w.get t.sat=taken t.pA) }:=if_neg hown
   refine⟨_,unB ku (unS t.s t.c t.pg t.sl t.pA false),emp,a2,cap2,g2,?_,?_,?_,hL,hS.nothing.p2.p2⟩
   ·rw[e]
    cases hz:decide (w.get t.sat=taken t.pA)
    ·exact .inl rfl
    ·exact .inr (.inr (.inr (.inr (.inr (.inl ⟨rfl,ku,rfl,.inl ⟨rfl,rfl⟩⟩)))))
   ·rw[e];rfl
   ·rw[e];rfl
 ·have hk:=hS.look
  have r1:=fun o=>rd_of hk o
  obtain⟨-,hbl,-⟩:=ht.bl hd (by omega)
  have h4:=ht.n4 hd hn
  have hbl:1≤t.pA∧t.pA≤8∧t.pg+t.pA≤t.s.p:=by rcases hbl with h | h<;>omega
  have hgv:=ht.n23 hd (.inr (.inr hn))
  by_cases hi:t.i=t.pA - 1
  ·rw[Gv.step_4l hd hn hi]
   simp only[hk,r1,frC,pat',pno,↓DD,UU,↓reduceIte,xA,xB,xC,xD,xE,xF,xG,xH,xI,xJ,xK,xL,xM,xN,xO,xP,xQ,ne_eq,eq_self]
   refine callT_of (m_unstepL hm ⟨p0,p1⟩ ⟨h4.2.1,hi⟩ hbl.2.1 hw hL hl hS.p2.p1.p5.p5.p5.p5) ?_
   rintro v H' ⟨rfl,a2,cap2,g2,hL,hS⟩
   have hS:=hS.p3.p3.p3.p5.p4.p5
   have hk:=hS.look
   have r1:=fun o=>rd_of hk o
   have hu1:=hS.lk 1 rfl
   have ru:=fun o=>rd_of hu1 o
   have nku:=hS.neq 0 1 (by decide) rfl rfl
   have nuk:=hS.qen 0 1 (by decide) rfl rfl
   simp only[hk,r1,hu1,ru,nku,nuk,frC,pat',pno,unL,↓DD,UU,↓reduceIte,xA,xB,xC,xD,xE,xF,xG,xH,xI,xJ,xK,xL,xM,xN,xO,xP,xQ,ne_eq,eq_self]
   exact⟨_,_,_,a2,cap2,g2,.inl rfl,by show _=some (Value.bool t.gv);rw[hgv];rfl,rfl,hL,hS.set (.cells (frC t true true 2 true t.pg 0 0 t.pA false t.wd (pat' ku) pno) 113 (0,0))⟩
  ·rw[Gv.step_4m hd hn hi]
   simp only[hk,r1,frC,pat',pno,↓DD,UU,↓reduceIte,xA,xB,xC,xD,xE,xF,xG,xH,xI,xJ,xK,xL,xM,xN,xO,xP,xQ,ne_eq,eq_self]
   refine callT_of (m_unstepM hm p0 hbl.2.2 ⟨h4.2.1,by omega⟩ hbl.2.1 hw hL hl hS.p2.p1.p5.p5.p5.p5) ?_
   rintro v H' ⟨rfl,a2,cap2,g2,hL,hS⟩
   have hS:=hS.p3.p3.p3.p5.p4.p5
   have hk:=hS.look
   have r1:=fun o=>rd_of hk o
   have hu1:=hS.lk 1 rfl
   have ru:=fun o=>rd_of hu1 o
   have nku:=hS.neq 0 1 (by decide) rfl rfl
   have nuk:=hS.qen 0 1 (by decide) rfl rfl
   simp only[hk,r1,hu1,ru,nku,nuk,frC,pat',pno,unL,↓DD,UU,↓reduceIte,xA,xB,xC,xD,xE,xF,xG,xH,xI,xJ,xK,xL,xM,xN,xO,xP,xQ,ne_eq,eq_self]
   exact⟨_,_,_,a2,cap2,g2,.inr (.inr (.inr (.inr (.inl ⟨hn,ku,rfl,rfl,rfl⟩)))),by show _=some (Value.bool t.gv);rw[hgv];rfl,by show _=some (Value.bool t.dn);rw[hd];rfl,hL,hS.set (.cells (frC t true false 2 true t.pg 0 0 t.pA false t.wd (pat' ku) pno) 113 (0,0))⟩
 ·have hk:=hS.look
  have r1:=fun o=>rd_of hk o
  obtain⟨-,hbl,-⟩:=ht.bl hd (by omega)
  have hk2:=ht.n3 hd hn
  have sb:=slots_bd t.pA
  have hbl:0≤t.sl∧t.sl<slots t.pA:=by rcases hbl with h | h<;>omega
  have hgv:=ht.n23 hd (.inr (.inl hn))
  rw[Gv.step_3 hd hn]
  rcases hF with⟨rfl,rfl⟩|⟨kp,p,rfl,rfl,hpd⟩
  ·simp only[hk,r1,frC,pat',pno,↓DD,UU,↓reduceIte,xA,xB,xC,xD,xE,xF,xG,xH,xI,xJ,xK,xL,xM,xN,xO,xP,xQ,ne_eq,eq_self]
   refine callT_of (m_unstepS hm ⟨p0,p1⟩ ⟨hbl.1,by omega⟩ hw hL hl hS.p2.p1.p5.p5.p5.p5) ?_
   rintro v H' ⟨rfl,a2,cap2,g2,hL,hS⟩
   have hS:=hS.p3.p3.p3.p5.p4.p5
   have hk:=hS.look
   have r1:=fun o=>rd_of hk o
   have hu1:=hS.lk 1 rfl
   have ru:=fun o=>rd_of hu1 o
   have nku:=hS.neq 0 1 (by decide) rfl rfl
   have nuk:=hS.qen 0 1 (by decide) rfl rfl
   simp only[hk,r1,hu1,ru,nku,nuk,frC,pat',pno,unS,↓DD,UU,↓reduceIte,xA,xB,xC,xD,xE,xF,xG,xH,xI,xJ,xK,xL,xM,xN,xO,xP,xQ,ne_eq,eq_self]
   exact⟨_,_,_,a2,cap2,g2,.inl rfl,by show _=some (Value.bool t.gv);rw[hgv];rfl,rfl,hL,hS.set (.cells (frC t true true 2 false t.pg t.sl t.pA 0 false t.wd (pat' ku) pno) 113 (0,0))⟩
  ·have hp1':=hS.lk 2 rfl
   have rp:=fun o=>rd_of hp1' o
   have nkp:=hS.neq 0 2 (by decide) rfl rfl
   have npk:=hS.qen 0 2 (by decide) rfl rfl
   simp only[hk,r1,hp1',rp,nkp,npk,frC,pat',pno,Pu.ren,hpd,↓DD,UU,↓reduceIte,xA,xB,xC,xD,xE,xF,xG,xH,xI,xJ,xK,xL,xM,xN,xO,xP,xQ,ne_eq,eq_self]
   refine callT_of (m_unstepS hm ⟨p0,p1⟩ ⟨hbl.1,by omega⟩ hw hL hl hS.p2.p1.p5.p5.p5.p5) ?_
   rintro v H' ⟨rfl,a2,cap2,g2,hL,hS⟩
   have hS:=hS.p3.p3.p3.p5.p4.p5
   have hk:=hS.look
   have r1:=fun o=>rd_of hk o
   have hu1:=hS.lk 1 rfl
   have ru:=fun o=>rd_of hu1 o
   have nku:=hS.neq 0 1 (by decide) rfl rfl
   have nuk:=hS.qen 0 1 (by decide) rfl rfl
   simp only[hk,r1,hu1,ru,nku,nuk,frC,pat',pno,unS,↓DD,UU,↓reduceIte,xA,xB,xC,xD,xE,xF,xG,xH,xI,xJ,xK,xL,xM,xN,xO,xP,xQ,ne_eq,eq_self]
   exact⟨_,_,_,a2,cap2,g2,.inl rfl,by show _=some (Value.bool t.gv);rw[hgv];rfl,rfl,hL,hS.set (.cells (frC t true true 2 false t.pg t.sl t.pA 0 true t.wd (pat' ku) (pat' kp)) 113 (0,0))⟩
 ·have hk:=hS.look
  have r1:=fun o=>rd_of hk o
  have hgv:=ht.n23 hd (.inl hn)
  obtain⟨hk2,p',hp',hpw,hpd,hpp,hps,hpc⟩:=ht.n2 hd hn
  have hpe:p'=p:=by rw[hp]at hp';exact(Option.some.inj hp').symm
  subst hpe
  have hp1':=hS.lk 2 rfl
  have rp:=fun o=>rd_of hp1' o
  have nkp:=hS.neq 0 2 (by decide) rfl rfl
  have npk:=hS.qen 0 2 (by decide) rfl rfl
  rw[Gv.step_2 hd hn hp]
  simp only[hk,r1,hp1',rp,nkp,npk,frC,pat',pno,Pu.ren,hpd,↓DD,UU,↓reduceIte,xA,xB,xC,xD,xE,xF,xG,xH,xI,xJ,xK,xL,xM,xN,xO,xP,xQ,ne_eq,eq_self]
  refine callT_of (m_pustep hpw (fun _=>by rw[hps];exact hw) hL hl hS.p1.p1.p5.p5.p5.p5) ?_
  rintro v H' ⟨rfl,a2,cap2,g2,hL,hS⟩
  have hS:=hS.p3.p3.p3.p3.p5.p5
  have hk:=hS.look
  have r1:=fun o=>rd_of hk o
  have hp1':=hS.lk 2 rfl
  have rp:=fun o=>rd_of hp1' o
  obtain⟨q,hq⟩:∃ q,q=(p'.step w).1:=⟨_,rfl⟩
  rw[← hq]at hS hp1' rp ⊢
  cases hqp:q.put
  ·have hqb:Pu.ren q=#[.int .i64 q.s.p,.int .i64 q.s.c,.int .i64 q.s.m,.int .i64 q.c,.int .i64 q.i,.int .i64 q.ep,.int .i64 q.es,.int .i64 q.ek,.bool false,.bool q.dn,.bool q.hit]:=by unfold Pu.ren;rw[hqp]
   rw[hqb]at hp1' rp
   simp only[hk,r1,hp1',rp,nkp,npk,frC,pat',pno,↓DD,UU,↓reduceIte,xA,xB,xC,xD,xE,xF,xG,xH,xI,xJ,xK,xL,xM,xN,xO,xP,xQ,ne_eq,eq_self]
   have hSS:=hS.set (.cells (frC t true false 2 false t.pg t.sl t.pA 0 true t.wd (pat' ku) (pat' kp)) 113 (0,0))
   cases hqd:q.dn
   ·have e:t.kept q = { t with put:=some q }:=by unfold Gv.kept;rw[hqp,hqd];rfl
    rw[e]
    exact⟨_,_,_,a2,cap2,g2,.inr (.inr (.inr (.inr (.inr (.inr ⟨hn,ku,kp,q,rfl,rfl,rfl,rfl⟩))))),by show _=some (Value.bool t.gv);rw[hgv];rfl,by show _=some (Value.bool t.dn);rw[hd];rfl,hL,hSS⟩
   ·have e:t.kept q = { t with put:=some q,nx:=3 }:=by unfold Gv.kept;rw[hqp,hqd];rfl
    rw[e]
    exact⟨_,_,_,a2,cap2,g2,.inr (.inr (.inr (.inr (.inr (.inl ⟨rfl,ku,rfl,.inr ⟨kp,q,rfl,rfl,hqd⟩⟩))))),by show _=some (Value.bool t.gv);rw[hgv];rfl,by show _=some (Value.bool t.dn);rw[hd];rfl,hL,hSS⟩
  ·have hqb:Pu.ren q=#[.int .i64 q.s.p,.int .i64 q.s.c,.int .i64 q.s.m,.int .i64 q.c,.int .i64 q.i,.int .i64 q.ep,.int .i64 q.es,.int .i64 q.ek,.bool true,.bool q.dn,.bool q.hit]:=by unfold Pu.ren;rw[hqp]
   rw[hqb]at hp1' rp
   simp only[hk,r1,hp1',rp,nkp,npk,frC,pat',pno,↓DD,UU,↓reduceIte,xA,xB,xC,xD,xE,xF,xG,xH,xI,xJ,xK,xL,xM,xN,xO,xP,xQ,ne_eq,eq_self]
   have e:t.kept q = { t with put:=some q,dn:=true }:=by unfold Gv.kept;rw[hqp];rfl
   rw[e]
   exact⟨_,_,_,a2,cap2,g2,.inl rfl,by show _=some (Value.bool t.gv);rw[hgv];rfl,rfl,hL,hS.set (.cells (frC t true true 2 false t.pg t.sl t.pA 0 true t.wd (pat' ku) (pat' kp)) 113 (0,0))⟩
end
end Go.Proofs.YtbcdaglbdnkocaaGreat
