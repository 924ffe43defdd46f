/-
 Who seeks a slot from wherever: the program's machine, which keeps its machine behind an interface. Conditions: none.
-/
import Derived.Test.YtkjpgikjcfhckaaGreatCodeY
import Derived.Test.YtkjpgikjcfhckaaGreatMag
import Derived.Test.YtkjpgikjcfhckaaGreatSlot
import Derived.Test.YtkjpgikjcfhckaaGreatPage
import Derived.Test.YtkjpgikjcfhckaaGreatStrip
import Derived.Test.YtkjpgikjcfhckaaGreatBind
import Derived.Test.YtkjpgikjcfhckaaGreatMaB
import Derived.Test.YtkjpgikjcfhckaaGreatCut
open Nat renaming reduceAdd→xA,reduceMul→xB,reduceSub→xC,reduceEqDiff→xD,reduceBEq→xE,reduceLeDiff→xF,reduceLT→xG
open Int renaming reduceAdd→xH,reduceMul→xI,reduceSub→xJ,reduceLT→xK,reduceLE→xL,reduceToNat→xM,reduceEq→xN,reduceNe→xO,reduceBEq→xP,reduceBNe→xQ
set_option linter.unusedVariables false
set_option linter.unusedSectionVars false
set_option linter.unusedSimpArgs false
set_option maxRecDepth 8000
namespace Go.Proofs.YtkjpgikjcfhckaaGreat
open Go Go.Ev Go.Pl Go.Ma

def nwT:Nw→TypeId
 | .tk _=>229
 | .sc _=>250
 | .pc _=>252
 | .no=>0
 | .st _=>231
 | .bi _=>255
def nwD:Nw→FuncId
 | .tk _=>250
 | .sc _=>253
 | .pc _=>257
 | .no=>0
 | .st _=>207
 | .bi _=>259
def nwS:Nw→FuncId
 | .tk _=>251
 | .sc _=>254
 | .pc _=>258
 | .no=>0
 | .st _=>206
 | .bi _=>260
def nwV (kn:Nat):Nw→Value
 | .no=>.nilIface
 | n=>.iface (nwT n) (.pointer (some ⟨kn,0,none⟩))
def nwB (kn:Nat):Nw→Hp
 | .tk m=>tkB kn m
 | .sc m=>scB kn m
 | .pc m=>pcB kn m
 | .no=>fun _=>none
 | .st m=>stB kn m
 | .bi m=>biB kn m
def Sk.enc (kn:Nat) (t:Sk):Array Value:=#[.int .i64 t.s.p,.int .i64 t.s.c,.int .i64 t.s.m,.int .i64 t.c,.int .i64 t.k,.int .i64 t.f,nwV kn t.nw,.int .i64 t.many,.int .i64 t.pg,.int .i64 t.sl,.bool t.fd,.bool t.dn]
def skB (k kn:Nat) (t:Sk):Hp:=sg k (.cells (Sk.enc kn t) 228 (0,0))
theorem nwV_ne {kn:Nat} {n:Nw} (h:n≠.no):nwV kn n=.iface (nwT n) (.pointer (some ⟨kn,0,none⟩)):=by
 cases n<;>first | rfl | exact absurd rfl h
theorem mb_D {n:Nw} (h:n≠.no):methB Tryz.prog (nwT n) "Done" = some (nwD n):=by
 cases n with
 | tk m=>show methB Tryz.prog 229 "Done" = some 250;kernel_rfl
 | sc m=>show methB Tryz.prog 250 "Done" = some 253;kernel_rfl
 | pc m=>show methB Tryz.prog 252 "Done" = some 257;kernel_rfl
 | no=>exact absurd rfl h
 | st m=>show methB Tryz.prog 231 "Done" = some 207;kernel_rfl
 | bi m=>show methB Tryz.prog 255 "Done" = some 259;kernel_rfl
theorem mb_S {n:Nw} (h:n≠.no):methB Tryz.prog (nwT n) "Step" = some (nwS n):=by
 cases n with
 | tk m=>show methB Tryz.prog 229 "Step" = some 251;kernel_rfl
 | sc m=>show methB Tryz.prog 250 "Step" = some 254;kernel_rfl
 | pc m=>show methB Tryz.prog 252 "Step" = some 258;kernel_rfl
 | no=>exact absurd rfl h
 | st m=>show methB Tryz.prog 231 "Step" = some 206;kernel_rfl
 | bi m=>show methB Tryz.prog 255 "Step" = some 260;kernel_rfl

section
variable {W:World} {H:Hp} {k kn b s:Nat} {t:Sk} {w:Wd} {l:List Hp}
theorem c_nwdone {n:Nw} (h:n≠.no) (hS:Sep (nwB kn n :: l) H) :
  CallP Tryz.prog W (nwD n) #[.pointer (some ⟨kn,0,none⟩)] H fun v H'=>v=.bool n.dn∧Sep (nwB kn n :: l) H':=by
 cases n with
 | tk m=>exact c_tkdone hS
 | sc m=>exact c_scdone hS
 | pc m=>exact c_pcdone hS
 | no=>exact absurd rfl h
 | st m=>exact c_stdone hS
 | bi m=>exact c_bidone hS
def nwOk (w:Wd):Nw→Prop
 | .tk m=>m.wf∧(m.dn=false→w.of m.s)
 | .sc m=>m.wf∧(m.dn=false→w.of m.s)
 | .pc m=>m.wf∧(m.dn=false→w.of m.s)
 | .no=>True
 | .st m=>m.wf∧(m.dn=false→w.of m.s)
 | .bi m=>m.wf∧(m.dn=false→w.of m.s)
theorem nwOk_of {n:Nw} (ho:t.Ok n) (hw:w.of t.s):nwOk w n:=by
 cases n with
 | tk m=>exact⟨ho.1,fun _=>by rw[ho.2.1];exact hw⟩
 | sc m=>exact⟨ho.1,fun _=>by rw[ho.2.1];exact hw⟩
 | pc m=>exact⟨ho.1,fun _=>by rw[ho.2.1];exact hw⟩
 | no=>trivial
 | st m=>exact⟨ho.1,fun _=>by rw[ho.2.1];exact hw⟩
 | bi m=>exact⟨ho.1,fun _=>by rw[ho.2.1];exact hw⟩
theorem c_nwstep {n:Nw} (h:n≠.no) (ho:nwOk w n) (hS:Sep (nwB kn n :: wB b s w :: wR s w :: l) H) :
  CallP Tryz.prog W (nwS n) #[.pointer (some ⟨kn,0,none⟩),.pointer (some ⟨b,0,none⟩)] H fun v H'=>v=.tuple #[]∧Sep (nwB kn (n.step w).1 :: wB b s (n.step w).2 :: wR s (n.step w).2 :: l) H':=by
 cases n with
 | tk m=>exact c_tkstep ho.1 ho.2 hS
 | sc m=>exact c_scstep ho.1 ho.2 hS
 | pc m=>exact c_pcstep ho.1 ho.2 hS
 | no=>exact absurd rfl h
 | st m=>exact c_ststep ho.1 ho.2 hS
 | bi m=>exact c_bistep ho.1 ho.2 hS
theorem c_skdone (hS:Sep (skB k kn t :: l) H) :
  CallP Tryz.prog W 151 #[.pointer (some ⟨k,0,none⟩)] H fun v H'=>v=.bool t.dn∧Sep (skB k kn t :: l) H':=by
 refine CallP.of mixed Tryz.func151 tr151 (by show 1≤_;decide) fun W _=>?_
 have hk:=hS.look
 have r1:=fun o=>rd_of hk o
 simp only[r1,Sk.enc,↓DD,UU,↓reduceIte,xE]
 exact hS
theorem c_skfound (hS:Sep (skB k kn t :: l) H) :
  CallP Tryz.prog W 149 #[.pointer (some ⟨k,0,none⟩)] H fun v H'=>v=.tuple #[.int .i64 (if t.fd then t.pg else 0),.int .i64 (if t.fd then t.sl else 0),.bool t.fd]∧Sep (skB k kn t :: l) H':=by
 refine CallP.of mixed Tryz.func149 tr149 (by show 1≤_;decide) fun W _=>?_
 have hk:=hS.look
 have r1:=fun o=>rd_of hk o
 cases hf:t.fd
 all_goals
  simp only[r1,Sk.enc,hf,↓DD,UU,↓reduceIte,xE]
  exact hS
theorem c_skhere (hc:t.Cfg) (hS:Sep (skB k kn t :: l) H) :
  CallP Tryz.prog W 164 #[.pointer (some ⟨k,0,none⟩)] H fun v H'=>v=.int .i64 t.here∧Sep (skB k kn t :: l) H':=by
 refine CallP.of mixed Tryz.func164 tr164 (by show 1≤_;decide) fun W _=>?_
 have hk:=hS.look
 have r1:=fun o=>rd_of hk o
 have hb:=(may_iff _ _ _).1 hc.m
 have hf:=hc.f
 have hn:=hc.n
 have w1:w64 (t.f+t.many)=t.f+t.many:=w64_eq (by omega) (by omega)
 have e:(t.f+t.many).tmod t.s.p=(t.f+t.many) % t.s.p:=Int.tmod_eq_emod_of_nonneg (by omega)
 have z:(t.s.p=0)=False:=eq_false (by omega)
 simp only[r1,Sk.enc,wrap_w64,w1,e,z,↓DD,UU,xE,ne_eq]
 exact⟨rfl,hS⟩
theorem c_skend {p i:Int} (hS:Sep (skB k kn t :: l) H) :
  CallP Tryz.prog W 157 #[.pointer (some ⟨k,0,none⟩),.int .i64 p,.int .i64 i] H fun v H'=>v=.tuple #[]∧Sep (skB k kn (t.fin p i) :: l) H':=by
 refine CallP.of mixed Tryz.func157 tr157 (by show 3≤_;decide) fun W _=>?_
 have hk:=hS.look
 have r1:=fun o=>rd_of hk o
 simp only[hk,Sk.enc,Ev.upd_upd,↓DD,UU,xA,xE,xG]
 exact hS.set (.cells (Sk.enc kn (t.fin p i)) 228 (0,0))
theorem c_skturn (hc:t.Cfg) (hS:Sep (skB k kn t :: l) H) :
  CallP Tryz.prog W 165 #[.pointer (some ⟨k,0,none⟩)] H fun v H'=>v=.tuple #[]∧Sep (skB k kn t.turn :: l) H':=by
 refine CallP.of mixed Tryz.func165 tr165 (by show 1≤_;decide) fun W _=>?_
 have hk:=hS.look
 have r1:=fun o=>rd_of hk o
 have hb:=(may_iff _ _ _).1 hc.m
 have hn:=hc.n
 have w1:w64 (t.many+1)=t.many+1:=w64_eq (by omega) (by omega)
 simp only[hk,Sk.enc,wrap_w64,w1,Ev.upd_upd,↓DD,UU,↓reduceIte,xA,xE,xG]
 have hS:=hS.set (.cells (Sk.enc kn { t with nw:=.no,many:=t.many+1 }) 228 (0,0))
 have hk:=hS.look
 have r1:=fun o=>rd_of hk o
 refine draw_intro [(k,Sk.enc kn { t with nw:=.no,many:=t.many+1 },[])] (by simp only[Sk.enc,nwV,↓DD,UU]) ?_
 simp only[Sk.enc,nwV,Ev.upd_upd,↓DD,UU,↓reduceIte,xA,xE,xG]
 have hS:=hS.set (.cells (Sk.enc kn t.turn) 228 (0,0))
 rw[Ev.upd_upd]at hS
 exact hS
theorem c_skbind {p:Int} (hS:Sep (skB k kn t :: l) H) :
  CallP Tryz.prog W 162 #[.pointer (some ⟨k,0,none⟩),.int .i64 p] H fun v H'=>v=.tuple #[]∧∃ kn',Sep (skB k kn' (t.bind p) :: nwB kn' (t.bind p).nw :: l) H':=by
 refine CallP.of mixed Tryz.func162 tr162 (by show 2≤_;decide) fun W _=>?_
 have hk:=hS.look
 have r1:=fun o=>rd_of hk o
 have r2:=fun o n=>rdn_of hk o n
 simp only[hk,Sk.enc,↓DD,UU,xA,xE,xG]
 have hS:=hS.set (.cells (Sk.enc kn { t with pg:=p }) 228 (0,0))
 have hk:=hS.look
 have r1:=fun o=>rd_of hk o
 have r2:=fun o n=>rdn_of hk o n
 refine draw_intro [(k,Sk.enc kn { t with pg:=p },[])] (by simp only[Sk.enc,↓DD,UU]) ?_
 simp only[Sk.enc,↓DD,UU,↓reduceIte,xA,xC,xE,xF]
 refine callT_of (c_binew (sh:=t.s) hS) ?_
 rintro v H' ⟨kn',rfl,hS⟩
 have hk:=hS.lk 1 rfl
 have r1:=fun o=>rd_of hk o
 simp only[hk,Sk.enc,↓DD,UU,xA,xE,xG]
 have hS:=hS.p1.set (.cells (Sk.enc kn' (t.bind p)) 228 (0,0))
 exact⟨kn',hS⟩
theorem c_skafter (hc:t.Cfg) (hn:t.nw≠.no) (ho:t.Ok t.nw) (hS:Sep (skB k kn t :: nwB kn t.nw :: l) H) :
  CallP Tryz.prog W 148 #[.pointer (some ⟨k,0,none⟩)] H fun v H'=>v=.tuple #[]∧∃ kn',Sep (skB k kn' t.after :: nwB kn' t.after.nw :: l) H':=by
 refine CallP.of mixed Tryz.func148 tr148 (by show 1≤_;decide) fun W _=>?_
 have hk:=hS.look
 have r1:=fun o=>rd_of hk o
 have hb:=(may_iff _ _ _).1 hc.m
 have hf:=hc.f
 cases en:t.nw with
 |tk m=>
  rw[en]at ho hS
  cases hfd:m.fd
  ·have e:t.after = { t with nw:=.sc (Sc.new t.s t.c t.k t.f) }:=by unfold Sk.after;rw[en];show(if m.fd then _ else _)=_;rw[hfd];rfl
   rw[e]
   simp only[r1,Sk.enc,en,nwV,nwT,↓DD,UU,xE]
   refine callT_of (c_tkfound hS.p1) ?_
   rintro v H' ⟨rfl,hS⟩
   have hS:=hS.p1
   have hk:=hS.look
   have r1:=fun o=>rd_of hk o
   have r2:=fun o n=>rdn_of hk o n
   simp only[hfd,↓DD,UU,↓reduceIte,xE]
   refine draw_intro [(k,Sk.enc kn t,[])] (by simp only[hk,↓DD,UU]) ?_
   simp only[r1,r2,Sk.enc,en,nwV,nwT,↓DD,UU,↓reduceIte,xA,xC,xE,xF]
   refine callT_of (c_scnew (sh:=t.s) hS) ?_
   rintro v H' ⟨kn',rfl,hS⟩
   have hk:=hS.lk 1 rfl
   have r1:=fun o=>rd_of hk o
   simp only[hk,Sk.enc,en,nwV,nwT,↓DD,UU,xA,xE,xG]
   exact⟨kn',(hS.p1.set (.cells (Sk.enc kn' { t with nw:=.sc (Sc.new t.s t.c t.k t.f) }) 228 (0,0))).p2.tail⟩
  ·have e:t.after=t.fin m.ep m.es:=by unfold Sk.after;rw[en];show(if m.fd then _ else _)=_;rw[hfd];rfl
   rw[e]
   simp only[r1,Sk.enc,en,nwV,nwT,↓DD,UU,xE]
   refine callT_of (c_tkfound hS.p1) ?_
   rintro v H' ⟨rfl,hS⟩
   have hS:=hS.p1
   simp only[hfd,↓DD,UU,↓reduceIte,xE]
   refine callT_of (c_skend hS) ?_
   rintro v H' ⟨rfl,hS⟩
   simp only[↓DD,UU]
   exact⟨kn,by show Sep (skB k kn (t.fin m.ep m.es) :: nwB kn t.nw :: l) H';rw[en];exact hS⟩
 |sc m=>
  rw[en]at ho hS
  cases hfd:m.fd
  ·have e:t.after = { t with nw:=.pc (Pc.new t.s t.c t.f) }:=by unfold Sk.after;rw[en];show(if m.fd then _ else _)=_;rw[hfd];rfl
   rw[e]
   simp only[r1,Sk.enc,en,nwV,nwT,↓DD,UU,xE]
   refine callT_of (c_scfound (fun _=>by rw[ho.2.1,ho.2.2.2.2.1];have:=ho.2.2.2.2.2.2.2;omega) hS.p1) ?_
   rintro v H' ⟨rfl,hS⟩
   have hS:=hS.p1
   have hk:=hS.look
   have r1:=fun o=>rd_of hk o
   have r2:=fun o n=>rdn_of hk o n
   simp only[hfd,↓DD,UU,↓reduceIte,xE]
   refine draw_intro [(k,Sk.enc kn t,[])] (by simp only[hk,↓DD,UU]) ?_
   simp only[r1,r2,Sk.enc,en,nwV,nwT,↓DD,UU,↓reduceIte,xA,xC,xE,xF]
   refine callT_of (c_pcnew (sh:=t.s) hS) ?_
   rintro v H' ⟨kn',rfl,hS⟩
   have hk:=hS.lk 1 rfl
   have r1:=fun o=>rd_of hk o
   simp only[hk,Sk.enc,en,nwV,nwT,↓DD,UU,xA,xE,xG]
   exact⟨kn',(hS.p1.set (.cells (Sk.enc kn' { t with nw:=.pc (Pc.new t.s t.c t.f) }) 228 (0,0))).p2.tail⟩
  ·have e:t.after=t.fin m.pg m.i:=by unfold Sk.after;rw[en];show(if m.fd then _ else _)=_;rw[hfd];rfl
   rw[e]
   simp only[r1,Sk.enc,en,nwV,nwT,↓DD,UU,xE]
   refine callT_of (c_scfound (fun _=>by rw[ho.2.1,ho.2.2.2.2.1];have:=ho.2.2.2.2.2.2.2;omega) hS.p1) ?_
   rintro v H' ⟨rfl,hS⟩
   have hS:=hS.p1
   simp only[hfd,↓DD,UU,↓reduceIte,xE]
   refine callT_of (c_skend hS) ?_
   rintro v H' ⟨rfl,hS⟩
   simp only[↓DD,UU]
   exact⟨kn,by show Sep (skB k kn (t.fin m.pg m.i) :: nwB kn t.nw :: l) H';rw[en];exact hS⟩
 |pc m=>
  rw[en]at ho hS
  cases hfd:m.fd
  ·have e:t.after = { t with nw:=.no }:=by unfold Sk.after;rw[en];show(if m.fd then _ else _)=_;rw[hfd];rfl
   rw[e]
   simp only[r1,Sk.enc,en,nwV,nwT,↓DD,UU,xE]
   refine callT_of (c_pcfound (fun _=>by rw[ho.2.1,ho.2.2.2.1];have:=ho.2.2.2.2.2.2;omega) hS.p1) ?_
   rintro v H' ⟨rfl,hS⟩
   have hS:=hS.p1
   have hk:=hS.look
   have r1:=fun o=>rd_of hk o
   simp only[hfd,hk,Sk.enc,en,nwV,nwT,↓DD,UU,↓reduceIte,xA,xE,xG]
   exact⟨0,((hS.set (.cells (Sk.enc 0 { t with nw:=.no }) 228 (0,0))).p1.tail).nothing.p1⟩
  ·have e:t.after=t.bind m.pg:=by unfold Sk.after;rw[en];show(if m.fd then _ else _)=_;rw[hfd];rfl
   rw[e]
   simp only[r1,Sk.enc,en,nwV,nwT,↓DD,UU,xE]
   refine callT_of (c_pcfound (fun _=>by rw[ho.2.1,ho.2.2.2.1];have:=ho.2.2.2.2.2.2;omega) hS.p1) ?_
   rintro v H' ⟨rfl,hS⟩
   have hS:=hS.p1
   simp only[hfd,↓DD,UU,↓reduceIte,xE]
   refine callT_of (c_skbind hS) ?_
   rintro v H' ⟨rfl,kn',hS⟩
   simp only[↓DD,UU]
   exact⟨kn',hS.p2.tail⟩
 | no=>exact absurd en hn
 |st m=>
  rw[en]at ho hS
  cases hfd:m.hd
  ·have e:t.after=t.turn:=by unfold Sk.after;rw[en];show(if m.hd then _ else _)=_;rw[hfd];rfl
   rw[e]
   simp only[r1,Sk.enc,en,nwV,nwT,↓DD,UU,xE]
   refine callT_of (c_stheld hS.p1) ?_
   rintro v H' ⟨rfl,hS⟩
   have hS:=hS.p1
   simp only[hfd,↓DD,UU,xE]
   refine callT_of (c_skturn hc hS) ?_
   rintro v H' ⟨rfl,hS⟩
   simp only[↓DD,UU]
   exact⟨kn,hS.p1.tail.nothing.p1⟩
  ·have e:t.after=t.bind t.here:=by unfold Sk.after;rw[en];show(if m.hd then _ else _)=_;rw[hfd];rfl
   rw[e]
   simp only[r1,Sk.enc,en,nwV,nwT,↓DD,UU,xE]
   refine callT_of (c_stheld hS.p1) ?_
   rintro v H' ⟨rfl,hS⟩
   have hS:=hS.p1
   simp only[hfd,↓DD,UU,xE]
   refine callT_of (c_skhere hc hS) ?_
   rintro v H' ⟨rfl,hS⟩
   simp only[↓DD,UU,xE]
   refine callT_of (c_skbind hS) ?_
   rintro v H' ⟨rfl,kn',hS⟩
   simp only[↓DD,UU]
   exact⟨kn',hS.p2.tail⟩
 |bi m=>
  rw[en]at ho hS
  have e:t.after=t.fin t.pg 0:=by unfold Sk.after;rw[en]
  rw[e]
  simp only[r1,Sk.enc,en,nwV,nwT,↓DD,UU,xE]
  refine callT_of (c_skend hS) ?_
  rintro v H' ⟨rfl,hS⟩
  simp only[↓DD,UU]
  exact⟨kn,by show Sep (skB k kn (t.fin t.pg 0) :: nwB kn t.nw :: l) H';rw[en];exact hS⟩
theorem set_self (t:Sk):t.set t.nw=if t.nw.dn then t.after else t:=rfl
theorem c_sksettle (hc:t.Cfg) (hf:t.fd=false) (hd:t.dn=false) (ho:t.Ok t.nw) (hS:Sep (skB k kn t :: nwB kn t.nw :: l) H) :
  CallP Tryz.prog W 137 #[.pointer (some ⟨k,0,none⟩)] H fun v H'=>v=.tuple #[]∧∃ kn',Sep (skB k kn' (t.set t.nw) :: nwB kn' (t.set t.nw).nw :: l) H':=by
 refine CallP.of mixed Tryz.func137 tr137 (by show 1≤_;decide) fun W _=>?_
 have hk:=hS.look
 have r1:=fun o=>rd_of hk o
 have hsw:=Sk.set_wf hc hf hd ho
 simp only[↓DD,UU]
 refine loop_n 2 ?_
 rw[rounds_s]
 by_cases hn:t.nw=.no
 ·have e:t.set t.nw=t:=by rw[set_self,hn];rfl
  rw[e]
  have hv:nwV kn t.nw=.nilIface:=by rw[hn];rfl
  simp only[r1,Sk.enc,hd,hv,↓DD,UU,↓reduceIte,xE]
  exact⟨kn,hS⟩
 have hv:=nwV_ne (kn:=kn) hn
 simp only[r1,Sk.enc,hd,hv,mb_D hn,↓DD,UU,↓reduceIte,xE]
 refine callT_of (c_nwdone hn hS.p1) ?_
 rintro v H' ⟨rfl,hS⟩
 have hS:=hS.p1
 cases hnd:t.nw.dn
 ·have e:t.set t.nw=t:=by rw[set_self,hnd];rfl
  rw[e]
  simp only[↓DD,UU,xE]
  exact⟨kn,hS⟩
 have e:t.set t.nw=t.after:=by rw[set_self,hnd];rfl
 rw[e]at hsw ⊢
 simp only[↓DD,UU,xE]
 refine callT_of (c_skafter hc hn ho hS) ?_
 rintro v H' ⟨rfl,kn',hS⟩
 generalize t.after=u at hS hsw ⊢
 have hk:=hS.look
 have r1:=fun o=>rd_of hk o
 simp only[↓DD]
 rw[rounds_s]
 cases hud:u.dn
 rotate_left
 ·simp only[r1,Sk.enc,hud,↓DD,UU,xE]
  exact⟨kn',hS⟩
 by_cases hn2:u.nw=.no
 ·have hv2:nwV kn' u.nw=.nilIface:=by rw[hn2];rfl
  simp only[r1,Sk.enc,hud,hv2,↓DD,UU,↓reduceIte,xE]
  exact⟨kn',hS⟩
 have hv2:=nwV_ne (kn:=kn') hn2
 simp only[r1,Sk.enc,hud,hv2,mb_D hn2,↓DD,UU,↓reduceIte,xE]
 refine callT_of (c_nwdone hn2 hS.p1) ?_
 rintro v H' ⟨rfl,hS⟩
 have hnd2:=(hsw.nw hud).2
 simp only[hnd2,↓DD,UU,xE]
 exact⟨kn',hS.p1⟩
theorem c_sknew {sh:Sh} {c kk f:Int} (hS:Sep l H) :
  CallP Tryz.prog W 129 #[.agg #[.int .i64 sh.p,.int .i64 sh.c,.int .i64 sh.m],.int .i64 c,.int .i64 kk,.int .i64 f] H fun v H'=>∃ k kn,v=.pointer (some ⟨k,0,none⟩)∧Sep (skB k kn (Sk.new sh c kk f) :: nwB kn (Sk.new sh c kk f).nw :: l) H':=by
 refine CallP.of mixed Tryz.func129 tr129 (by show 4≤_;decide) fun W _=>?_
 simp only[↓DD,UU,xA]
 refine newB_intro fun x hx f1 f2=>?_
 have hS:=hS.new f1 (.cells #[.int .i64 sh.p,.int .i64 sh.c,.int .i64 sh.m] 23 (0,0))
 have hx1:=hS.look
 have r1:=fun o n=>rdn_of hx1 o n
 cases hg:(good sh c kk && decide (0≤page sh.p sh.c sh.m f))
 ·have e:Sk.new sh c kk f=⟨sh,c,kk,f,.no,0,0,0,false,true⟩:=by unfold Sk.new;rw[hg];rfl
  rw[e]
  have hg':=hg
  unfold good at hg'
  cases h1:decide (0≤status sh.p sh.c sh.m c)<;>cases h3:decide (0<slots kk)<;>cases h2:decide (0≤page sh.p sh.c sh.m f)
  case true.true.true=>rw[h1,h2,h3]at hg';cases hg'
  all_goals
   simp only[r1,v_status,v_slots,v_page,h1,h2,h3,↓DD,UU,↓reduceIte,xA,xC,xE,xF]
   refine newB_intro fun y hy f3 f4=>?_
   have hS:=hS.new f3 (.cells (Sk.enc 0 ⟨sh,c,kk,f,.no,0,0,0,false,true⟩) 228 (0,0))
   simp only[↓DD,UU,xA,xE]
   exact⟨y,0,rfl,hS.p1.tail.nothing.p1⟩
 ·have e:Sk.new sh c kk f=Sk.set ⟨sh,c,kk,f,.tk (Tk.new sh c kk),0,0,0,false,false⟩ (.tk (Tk.new sh c kk)):=by unfold Sk.new;rw[hg];rfl
  rw[e]
  have hg':=hg
  unfold good at hg'
  simp only[Bool.and_eq_true]at hg' hg
  obtain⟨g1,g2,g3,g4⟩:=good_of hg.1
  obtain⟨-,p1,p2⟩:=page_of hg.2
  have hb:=(may_iff _ _ _).1 g1
  have hcf:Sk.Cfg ⟨sh,c,kk,f,.tk (Tk.new sh c kk),0,0,0,false,false⟩:=⟨g1,⟨g2,g3⟩,g4,⟨p1,p2⟩,⟨Int.le_refl _,by show(0:Int)<sh.p;omega⟩⟩
  simp only[r1,v_status,v_slots,v_page,hg'.1.1,hg'.1.2,hg'.2,↓DD,UU,↓reduceIte,xA,xC,xE,xF]
  refine newB_intro fun y hy f3 f4=>?_
  have nxy:(x=y)=False:=f3 x (by rw[hx1];rfl)
  have nyx:(y=x)=False:=f4 x (by rw[hx1];rfl)
  have hS:=hS.new f3 (.cells (Sk.enc 0 ⟨sh,c,kk,f,.no,0,0,0,false,false⟩) 228 (0,0))
  simp only[r1,nxy,↓DD,UU,↓reduceIte,xA,xC,xE,xF]
  refine callT_of (c_tknew (sh:=sh) hS) ?_
  rintro v H' ⟨kn,rfl,hS⟩
  have hy1:=hS.lk 1 rfl
  simp only[hy1,Sk.enc,↓DD,UU,xA,xE,xG]
  have hS:=hS.p1.set (.cells (Sk.enc kn ⟨sh,c,kk,f,.tk (Tk.new sh c kk),0,0,0,false,false⟩) 228 (0,0))
  refine callT_of (c_sksettle (t:=⟨sh,c,kk,f,.tk (Tk.new sh c kk),0,0,0,false,false⟩) (kn:=kn) hcf rfl rfl ⟨Tk.new_wf ..,rfl,rfl,rfl,rfl,fun _=>rfl⟩ hS) ?_
  rintro v H' ⟨rfl,kn',hS⟩
  simp only[↓DD,UU,xA,xE]
  exact⟨y,kn',rfl,hS.p2.tail⟩
def skC (k kn b s:Nat) (t:Sk) (w:Wd) (l:List Hp) (F':Fr) (H':Hp):Prop:=
 gt F' 0=.pointer (some ⟨k,0,none⟩)∧gt F' 5=.bool (okPg t.s t.here (w.get t.pat))∧∃ y,gt F' 4=.pointer (some ⟨y,0,none⟩) ∧
  Sep (skB k kn t :: wB b s (w.load t.c t.pat) :: wR s (w.load t.c t.pat) :: sg y (.cells #[.int .i64 (pgK t.s t.here (w.get t.pat)),.int .i64 (pgA t.s t.here (w.get t.pat)),.int .i64 (pgB t.s t.here (w.get t.pat))] 107 (0,0)) :: l) H'
theorem c_skstep (ht:t.wf) (hw:t.dn=false→w.of t.s) (hS:Sep (skB k kn t :: nwB kn t.nw :: wB b s w :: wR s w :: l) H) :
  CallP Tryz.prog W 197 #[.pointer (some ⟨k,0,none⟩),.pointer (some ⟨b,0,none⟩)] H fun v H'=>v=.tuple #[]∧∃ kn',Sep (skB k kn' (t.step w).1 :: nwB kn' (t.step w).1.nw :: wB b s (t.step w).2 :: wR s (t.step w).2 :: l) H':=by
 refine CallP.of mixed Tryz.func197 tr197 (by show 2≤_;decide) fun W _=>?_
 have hk:=hS.look
 have r1:=fun o=>rd_of hk o
 cases hd:t.dn
 rotate_left
 ·rw[Sk.step_dn hd]
  simp only[r1,Sk.enc,hd,↓DD,UU,↓reduceIte,xA,xE]
  exact⟨kn,hS⟩
 have hw:=hw hd
 have hc:=ht.cfg hd
 obtain⟨ho,hnd⟩:=ht.nw hd
 have hf:=ht.fd hd
 by_cases hn:t.nw=.no
 rotate_left
 ·rw[Sk.step_nw hd hn]
  have hv:=nwV_ne (kn:=kn) hn
  simp only[r1,Sk.enc,hd,hv,mb_S hn,↓DD,UU,↓reduceIte,xA,xE]
  refine callT_of (c_nwstep hn (nwOk_of ho hw) hS.r3) ?_
  rintro v H' ⟨rfl,hS⟩
  simp only[↓DD,UU,xA,xE]
  have hnv:nwV kn (t.nw.step w).1=nwV kn t.nw:=by cases t.nw<;>rfl
  have hne':(t.nw.step w).1≠.no:=by
   intro e
   cases e2:t.nw<;>rw[e2]at e hn<;>first | (exact absurd rfl hn) | cases e
  have hsk:skB k kn t=skB k kn { t with nw:=(t.nw.step w).1 }:=by unfold skB Sk.enc;rw[hnv]
  have hos:=Sk.ok_step (w:=w) ht hd
  generalize t.nw.step w=r at hS hsk hos ⊢
  rw[hsk]at hS
  have hS:=hS.p3.p1.p1
  refine callT_of (c_sksettle (t:={ t with nw:=r.1 }) (kn:=kn) ⟨hc.m,hc.c,hc.k,hc.f,hc.n⟩ hf hd (Sk.Ok_nw hos rfl rfl rfl rfl rfl rfl) hS) ?_
  rintro v H' ⟨rfl,kn',hS⟩
  simp only[↓DD,UU]
  exact⟨kn',hS⟩
 ·rw[Sk.step_no hd hn]
  have hnv:nwV kn t.nw=.nilIface:=by rw[hn];rfl
  have hS:=hS.p1.tail
  have hk:=hS.look
  have r1:=fun o=>rd_of hk o
  have r2:=fun o n=>rdn_of hk o n
  have hh:=Sk.here_bd hc
  obtain⟨p0,p1⟩:=page_in hw hc.m hh.1 hh.2
  have hu:U (w.get (page t.s.p t.s.c t.s.m t.here)):=hw.u _
  simp only[r1,Sk.enc,hd,hnv,↓DD,UU,↓reduceIte,xA,xE]
  refine draw_cut [(k,Sk.enc kn t,[])] (skC k kn b s t w l) (by simp only[hk,Sk.enc,↓DD,UU]) ?_ ?_
  ·simp only[r1,r2,hd,hnv,Sk.enc,↓e_dalt2,↓DD,UU,↓reduceIte,xA,xC,xE,xF]
   refine⟨?_,?_⟩
   ·refine callT_of (c_skhere hc hS) ?_
    rintro v H' ⟨rfl,hS⟩
    have hk:=hS.look
    have r1:=fun o=>rd_of hk o
    have r2:=fun o n=>rdn_of hk o n
    simp only[hk,hd,hnv,Sk.enc,↓e_dalt2,↓DD,UU,xE]
    refine⟨?_,?_⟩
    ·refine callT_of (c_skhere hc hS) ?_
     rintro v H' ⟨rfl,hS⟩
     have hk:=hS.look
     have r1:=fun o=>rd_of hk o
     have r2:=fun o n=>rdn_of hk o n
     simp only[hk,hd,hnv,v_page,Sk.enc,↓e_dalt2,↓DD,UU,xE]
     refine⟨⟨?_,?_⟩,?_⟩
     ·refine callT_of (c_load _ _ p0 p1 hS.p2.p2) ?_
      rintro v H' ⟨rfl,hS⟩
      have hS:=hS.p2
      have hk:=hS.look
      have r1:=fun o=>rd_of hk o
      have r2:=fun o n=>rdn_of hk o n
      simp only[hk,hd,hnv,v_readpg t.s _ hu,Sk.enc,↓e_dalt2,↓DD,UU,xE]
      refine⟨?_,?_⟩
      ·refine newB_intro fun y hy f3 f4=>?_
       have nky:(k=y)=False:=f3 k (by rw[hk];rfl)
       have nyk:(y=k)=False:=f4 k (by rw[hk];rfl)
       have hS:=(hS.new f3 (.cells #[.int .i64 (pgK t.s t.here (w.get t.pat)),.int .i64 (pgA t.s t.here (w.get t.pat)),.int .i64 (pgB t.s t.here (w.get t.pat))] 107 (0,0))).r3
       simp only[hk,hd,hnv,nky,Ev.upd_upd,Sk.enc,↓DD,UU,↓reduceIte,xA,xE,xF]
       exact⟨rfl,rfl,y,rfl,hS⟩
      ·refine newB_intro fun y hy f3 f4=>?_
       have nky:(k=y)=False:=f3 k (by rw[hk];rfl)
       have nyk:(y=k)=False:=f4 k (by rw[hk];rfl)
       have hS:=(hS.new f3 (.cells #[.int .i64 (pgK t.s t.here (w.get t.pat)),.int .i64 (pgA t.s t.here (w.get t.pat)),.int .i64 (pgB t.s t.here (w.get t.pat))] 107 (0,0))).r3
       simp only[hk,hd,hnv,nky,v_readpg t.s _ hu,Ev.upd_upd,Sk.enc,↓DD,UU,↓reduceIte,xA,xE,xF]
       exact⟨rfl,rfl,y,rfl,hS⟩
     ·refine newB_intro fun y hy f3 f4=>?_
      have nky:(k=y)=False:=f3 k (by rw[hk];rfl)
      have nyk:(y=k)=False:=f4 k (by rw[hk];rfl)
      have hS:=(hS.new f3 (.cells #[.int .i64 0,.int .i64 0,.int .i64 0] 107 (0,0))).r3
      have hk:=hS.look
      have hy1:=hS.lk 3 rfl
      have r1:=fun o=>rd_of hk o
      have r2:=fun o n=>rdn_of hk o n
      simp only[hk,hd,hnv,Sk.enc,↓DD,UU,xE]
      refine callT_of (c_load _ _ p0 p1 hS.p2.p2) ?_
      rintro v H' ⟨rfl,hS⟩
      have hS:=hS.p2
      have hk:=hS.look
      have r1:=fun o=>rd_of hk o
      have r2:=fun o n=>rdn_of hk o n
      have hy1:=hS.lk 3 rfl
      simp only[hk,hy1,hd,hnv,nky,v_readpg t.s _ hu,Sk.enc,↓DD,UU,↓reduceIte,xA,xE,xF]
      have hz:=(hS.p3.set (.cells #[.int .i64 (pgK t.s t.here (w.get t.pat)),.int .i64 (pgA t.s t.here (w.get t.pat)),.int .i64 (pgB t.s t.here (w.get t.pat))] 107 (0,0))).r3
      exact⟨rfl,rfl,y,rfl,hz⟩
     ·refine newB_intro fun y hy f3 f4=>?_
      have nky:(k=y)=False:=f3 k (by rw[hk];rfl)
      have nyk:(y=k)=False:=f4 k (by rw[hk];rfl)
      have hS:=(hS.new f3 (.cells #[.int .i64 0,.int .i64 0,.int .i64 0] 107 (0,0))).r3
      have hk:=hS.look
      have hy1:=hS.lk 3 rfl
      have r1:=fun o=>rd_of hk o
      have r2:=fun o n=>rdn_of hk o n
      simp only[hk,hd,hnv,v_page,Sk.enc,↓DD,UU,xE]
      refine callT_of (c_load _ _ p0 p1 hS.p2.p2) ?_
      rintro v H' ⟨rfl,hS⟩
      have hS:=hS.p2
      have hk:=hS.look
      have r1:=fun o=>rd_of hk o
      have r2:=fun o n=>rdn_of hk o n
      have hy1:=hS.lk 3 rfl
      simp only[hk,hy1,hd,hnv,nky,v_readpg t.s _ hu,Sk.enc,↓DD,UU,↓reduceIte,xA,xE,xF]
      have hz:=(hS.p3.set (.cells #[.int .i64 (pgK t.s t.here (w.get t.pat)),.int .i64 (pgA t.s t.here (w.get t.pat)),.int .i64 (pgB t.s t.here (w.get t.pat))] 107 (0,0))).r3
      exact⟨rfl,rfl,y,rfl,hz⟩
    ·refine newB_intro fun y hy f3 f4=>?_
     have nky:(k=y)=False:=f3 k (by rw[hk];rfl)
     have nyk:(y=k)=False:=f4 k (by rw[hk];rfl)
     have hS:=(hS.new f3 (.cells #[.int .i64 0,.int .i64 0,.int .i64 0] 107 (0,0))).r3
     have hk:=hS.look
     have hy1:=hS.lk 3 rfl
     have r1:=fun o=>rd_of hk o
     have r2:=fun o n=>rdn_of hk o n
     simp only[hk,hd,hnv,Sk.enc,↓DD,UU,xE]
     refine callT_of (c_skhere hc hS) ?_
     rintro v H' ⟨rfl,hS⟩
     have hk:=hS.look
     have r1:=fun o=>rd_of hk o
     have r2:=fun o n=>rdn_of hk o n
     have hy1:=hS.lk 3 rfl
     simp only[hk,hd,hnv,v_page,Sk.enc,↓DD,UU,xE]
     refine callT_of (c_load _ _ p0 p1 hS.p2.p2) ?_
     rintro v H' ⟨rfl,hS⟩
     have hS:=hS.p2
     have hk:=hS.look
     have r1:=fun o=>rd_of hk o
     have r2:=fun o n=>rdn_of hk o n
     have hy1:=hS.lk 3 rfl
     simp only[hk,hy1,hd,hnv,nky,v_readpg t.s _ hu,Sk.enc,↓DD,UU,↓reduceIte,xA,xE,xF]
     have hz:=(hS.p3.set (.cells #[.int .i64 (pgK t.s t.here (w.get t.pat)),.int .i64 (pgA t.s t.here (w.get t.pat)),.int .i64 (pgB t.s t.here (w.get t.pat))] 107 (0,0))).r3
     exact⟨rfl,rfl,y,rfl,hz⟩
   ·refine newB_intro fun y hy f3 f4=>?_
    have nky:(k=y)=False:=f3 k (by rw[hk];rfl)
    have nyk:(y=k)=False:=f4 k (by rw[hk];rfl)
    have hS:=(hS.new f3 (.cells #[.int .i64 0,.int .i64 0,.int .i64 0] 107 (0,0))).r3
    have hk:=hS.look
    have hy1:=hS.lk 3 rfl
    have r1:=fun o=>rd_of hk o
    have r2:=fun o n=>rdn_of hk o n
    simp only[hk,hd,hnv,Sk.enc,↓DD,UU,xE]
    refine callT_of (c_skhere hc hS) ?_
    rintro v H' ⟨rfl,hS⟩
    have hk:=hS.look
    have r1:=fun o=>rd_of hk o
    have r2:=fun o n=>rdn_of hk o n
    have hy1:=hS.lk 3 rfl
    simp only[hk,hd,hnv,Sk.enc,↓DD,UU,xE]
    refine callT_of (c_skhere hc hS) ?_
    rintro v H' ⟨rfl,hS⟩
    have hk:=hS.look
    have r1:=fun o=>rd_of hk o
    have r2:=fun o n=>rdn_of hk o n
    have hy1:=hS.lk 3 rfl
    simp only[hk,hd,hnv,v_page,Sk.enc,↓DD,UU,xE]
    refine callT_of (c_load _ _ p0 p1 hS.p2.p2) ?_
    rintro v H' ⟨rfl,hS⟩
    have hS:=hS.p2
    have hk:=hS.look
    have r1:=fun o=>rd_of hk o
    have r2:=fun o n=>rdn_of hk o n
    have hy1:=hS.lk 3 rfl
    simp only[hk,hy1,hd,hnv,nky,v_readpg t.s _ hu,Sk.enc,↓DD,UU,↓reduceIte,xA,xE,xF]
    have hz:=(hS.p3.set (.cells #[.int .i64 (pgK t.s t.here (w.get t.pat)),.int .i64 (pgA t.s t.here (w.get t.pat)),.int .i64 (pgB t.s t.here (w.get t.pat))] 107 (0,0))).r3
    exact⟨rfl,rfl,y,rfl,hz⟩
  ·rintro F' H' ⟨e0,e5,y,e4,hS⟩
   have hk:=hS.look
   have r1:=fun o=>rd_of hk o
   have r2:=fun o n=>rdn_of hk o n
   have hy1:=hS.lk 3 rfl
   have ry:=fun o=>rd_of hy1 o
   have nky:=hS.neq 0 3 (by decide) rfl rfl
   have nyk:=hS.qen 0 3 (by decide) rfl rfl
   have turn:t.isSup w=false→∀ H2,Sep (skB k kn t.turn :: wB b s (w.load t.c t.pat) :: wR s (w.load t.c t.pat) :: sg y (.cells #[.int .i64 (pgK t.s t.here (w.get t.pat)),.int .i64 (pgA t.s t.here (w.get t.pat)),.int .i64 (pgB t.s t.here (w.get t.pat))] 107 (0,0)) :: l) H2→∃ kn',Sep (skB k kn' (t.look w) :: nwB kn' (t.look w).nw :: wB b s (w.load t.c t.pat) :: wR s (w.load t.c t.pat) :: l) H2:=fun hs H2 h2=>by
    have e:t.look w=t.turn:=by unfold Sk.look;rw[hs];rfl
    rw[e]
    exact⟨kn,h2.p3.tail.nothing.p1⟩
   cases hok:okPg t.s t.here (w.get t.pat)
   ·rw[hok]at e5
    simp only[e0,e5,↓DD,UU,xE]
    refine callT_of (c_skturn hc hS) ?_
    rintro v H' ⟨rfl,hS⟩
    simp only[↓DD,UU]
    exact turn (by unfold Sk.isSup;rw[hok];rfl) _ hS
   ·rw[hok]at e5
    by_cases k2:pgK t.s t.here (w.get t.pat)=2
    rotate_left
    ·have g2:(pgK t.s t.here (w.get t.pat) == 2)=false:=beq_eq_false_iff_ne.2 k2
     simp only[ry,e0,e4,e5,g2,↓DD,UU,xE]
     refine callT_of (c_skturn hc hS) ?_
     rintro v H' ⟨rfl,hS⟩
     simp only[↓DD,UU]
     exact turn (by unfold Sk.isSup;rw[decide_eq_false k2];simp) _ hS
    ·have g2:(pgK t.s t.here (w.get t.pat) == 2)=true:=beq_iff_eq.2 k2
     have e:t.look w = { t with nw:=.st (St.new t.s t.c t.here (pgA t.s t.here (w.get t.pat))) }:=by unfold Sk.look Sk.isSup;rw[hok,decide_eq_true k2];rfl
     rw[e]
     simp only[ry,e4,e5,g2,↓DD,UU,xE]
     refine draw_intro [(k,Sk.enc kn t,[]),(y,#[.int .i64 (pgK t.s t.here (w.get t.pat)),.int .i64 (pgA t.s t.here (w.get t.pat)),.int .i64 (pgB t.s t.here (w.get t.pat))],[])] (by simp only[hk,hy1,↓DD,UU]) ?_
     simp only[r1,r2,ry,e0,e4,nyk,Sk.enc,↓DD,UU,↓reduceIte,xA,xC,xE,xF]
     refine callT_of (c_skhere hc hS) ?_
     rintro v H' ⟨rfl,hS⟩
     have hk:=hS.look
     have hy1:=hS.lk 3 rfl
     have r1:=fun o=>rd_of hk o
     have r2:=fun o n=>rdn_of hk o n
     simp only[hk,hy1,Sk.enc,↓DD,UU,xE]
     refine callT_of (c_stnew (sh:=t.s) hS) ?_
     rintro v H' ⟨kn',rfl,hS⟩
     have hk:=hS.lk 1 rfl
     have hy1:=hS.lk 4 rfl
     have r1:=fun o=>rd_of hk o
     simp only[hk,hy1,Sk.enc,↓DD,UU,xA,xE,xG]
     exact⟨kn',(hS.p1.set (.cells (Sk.enc kn' { t with nw:=.st (St.new t.s t.c t.here (pgA t.s t.here (w.get t.pat))) }) 228 (0,0))).p4.tail⟩
end
end Go.Proofs.YtkjpgikjcfhckaaGreat
