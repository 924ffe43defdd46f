/-
 What a client runs: a job, of whichever kind. Conditions: none.
-/
import Derived.Test.YtkjpgikjcfhckaaGreatCodeX
import Derived.Test.YtkjpgikjcfhckaaGreatRenew
import Derived.Test.YtkjpgikjcfhckaaGreatAdoptS
import Derived.Test.YtkjpgikjcfhckaaGreatFaX
import Derived.Test.YtkjpgikjcfhckaaGreatMaW
open Nat renaming reduceAdd→xA,reduceMul→xB,reduceSub→xC,reduceEqDiff→xD,reduceBEq→xE,reduceLeDiff→xF,reduceLT→xG
open Int renaming reduceAdd→xH,reduceMul→xI,reduceSub→xJ,reduceLT→xK,reduceLE→xL,reduceToNat→xM,reduceEq→xN,reduceNe→xO,reduceBEq→xP,reduceBNe→xQ
set_option linter.unusedVariables false
set_option linter.unusedSectionVars false
set_option linter.unusedSimpArgs false
set_option maxRecDepth 8000
namespace Go.Proofs.YtkjpgikjcfhckaaGreat
open Go Go.Ev Go.Pl Go.Ma
def cmO (kc:Nat):Option Cm→Hp
 | none=>fun _=>none
 | some m=>cmB kc m
def cmP (kc:Nat):Option Cm→Value
 | none=>.pointer none
 | some _=>.pointer (some ⟨kc,0,none⟩)
def mlC (sh:Sh) (c:Int) (kr kc:Nat) (m:Option Cm):Array Value:=#[.pointer (some ⟨kr,0,none⟩),cmP kc m,.int .i64 sh.p,.int .i64 sh.c,.int .i64 sh.m,.int .i64 c]
def mlB (k:Nat) (sh:Sh) (c:Int) (kr kc:Nat) (m:Option Cm):Hp:=sg k (.cells (mlC sh c kr kc m) 183 (0,0))
inductive JobP (sh:Sh) (c:Int):Job→Value→List Hp→Prop
 | no:JobP sh c .no .nilIface []
 | ml (km kr k2 kn kc:Nat) (v:Rv) (m:Option Cm):JobP sh c (.ml v m) (.iface 178 (.pointer (some ⟨km,0,none⟩))) [mlB km sh c kr kc m,rvB kr k2 v,rvA k2 kn v,rvN kn v,cmO kc m]
 | fr (k kp:Nat) (t:Gv):JobP sh c (.fr t) (.iface 187 (.agg #[.pointer (some ⟨k,0,none⟩)])) [gvB k kp t,puO kp t.put]
 | ag (k kr k2 kn kg kp km:Nat) (t:Re):JobP sh c (.ag t) (.iface 191 (.agg #[.pointer (some ⟨k,0,none⟩)])) (reL k kr k2 kn kg kp km t)
 | hr (k:Nat) (t:Ad):JobP sh c (.hr t) (.iface 195 (.agg #[.pointer (some ⟨k,0,none⟩)])) [adB k t]
theorem mt1:methB Tryz.prog 178 "Done" = some 190:=by kernel_rfl
theorem mt2:methB Tryz.prog 178 "Step" = some 191:=by kernel_rfl
theorem mt3:methB Tryz.prog 178 "allotment/client.gave" = some 193:=by kernel_rfl
theorem mt4:methB Tryz.prog 178 "allotment/client.took" = some 194:=by kernel_rfl
theorem mt5:methB Tryz.prog 178 "allotment/client.err" = some 192:=by kernel_rfl
theorem mfree_Done:methB Tryz.prog 187 "Done" = none∧methS Tryz.prog 187 "Done" = some (142,some 0):=⟨by kernel_rfl,by kernel_rfl⟩
theorem mfree_Step:methB Tryz.prog 187 "Step" = none∧methS Tryz.prog 187 "Step" = some (213,some 0):=⟨by kernel_rfl,by kernel_rfl⟩
theorem mfree_gave:methB Tryz.prog 187 "allotment/client.gave" = none∧methS Tryz.prog 187 "allotment/client.gave" = some (225,none):=⟨by kernel_rfl,by kernel_rfl⟩
theorem mfree_took:methB Tryz.prog 187 "allotment/client.took" = none∧methS Tryz.prog 187 "allotment/client.took" = some (226,none):=⟨by kernel_rfl,by kernel_rfl⟩
theorem mfree_err:methB Tryz.prog 187 "allotment/client.err" = none∧methS Tryz.prog 187 "allotment/client.err" = some (224,none):=⟨by kernel_rfl,by kernel_rfl⟩
theorem magain_Done:methB Tryz.prog 191 "Done" = none∧methS Tryz.prog 191 "Done" = some (227,some 0):=⟨by kernel_rfl,by kernel_rfl⟩
theorem magain_Step:methB Tryz.prog 191 "Step" = none∧methS Tryz.prog 191 "Step" = some (228,some 0):=⟨by kernel_rfl,by kernel_rfl⟩
theorem magain_gave:methB Tryz.prog 191 "allotment/client.gave" = none∧methS Tryz.prog 191 "allotment/client.gave" = some (231,none):=⟨by kernel_rfl,by kernel_rfl⟩
theorem magain_took:methB Tryz.prog 191 "allotment/client.took" = none∧methS Tryz.prog 191 "allotment/client.took" = some (232,none):=⟨by kernel_rfl,by kernel_rfl⟩
theorem magain_err:methB Tryz.prog 191 "allotment/client.err" = none∧methS Tryz.prog 191 "allotment/client.err" = some (230,none):=⟨by kernel_rfl,by kernel_rfl⟩
theorem mheir_Done:methB Tryz.prog 195 "Done" = none∧methS Tryz.prog 195 "Done" = some (236,some 0):=⟨by kernel_rfl,by kernel_rfl⟩
theorem mheir_Step:methB Tryz.prog 195 "Step" = none∧methS Tryz.prog 195 "Step" = some (237,some 0):=⟨by kernel_rfl,by kernel_rfl⟩
theorem mheir_gave:methB Tryz.prog 195 "allotment/client.gave" = none∧methS Tryz.prog 195 "allotment/client.gave" = some (247,none):=⟨by kernel_rfl,by kernel_rfl⟩
theorem mheir_took:methB Tryz.prog 195 "allotment/client.took" = none∧methS Tryz.prog 195 "allotment/client.took" = some (248,none):=⟨by kernel_rfl,by kernel_rfl⟩
theorem mheir_err:methB Tryz.prog 195 "allotment/client.err" = none∧methS Tryz.prog 195 "allotment/client.err" = some (246,none):=⟨by kernel_rfl,by kernel_rfl⟩
section
variable {W:World} {H:Hp} {l:List Hp} {sh:Sh} {c:Int} {j:Job} {jv:Value} {J:List Hp} {b s:Nat} {w:Wd} {v:Rv} {m:Option Cm} {km kr k2 kn kc k kp kg:Nat} {t:Gv} {r:Re} {a:Ad}
/-! ### The machine that asks for a block -/
theorem c_mldone (hj:(Job.ml v m).wf sh c) (hS:Sep (mlB km sh c kr kc m :: rvB kr k2 v :: rvA k2 kn v :: rvN kn v :: cmO kc m :: l) H) :
  CallP Tryz.prog W 190 #[.pointer (some ⟨km,0,none⟩)] H fun u H'=>u=.bool (Job.ml v m).dn∧Sep (mlB km sh c kr kc m :: rvB kr k2 v :: rvA k2 kn v :: rvN kn v :: cmO kc m :: l) H':=by
 refine CallP.of mixed Tryz.func190 tr190 (by show 1≤_;decide) fun W _=>?_
 have hk:=hS.look
 have r0:=fun o=>rd_of hk o
 simp only[r0,mlC,↓DD,UU,xE]
 refine callT_of (c_rvfound hS.r3) ?_
 rintro u H' ⟨rfl,hS⟩
 simp only[bkV,↓DD,UU,xE]
 refine newB_intro fun y hy f1 f2=>?_
 have hk:=hS.lk 3 rfl
 have r0:=fun o=>rd_of hk o
 have nky:(km=y)=False:=f1 km (by rw[hk];rfl)
 have nyk:(y=km)=False:=f2 km (by rw[hk];rfl)
 simp only[r0,nky,mlC,Ev.upd_upd,↓DD,UU,↓reduceIte,xA,xE,xF]
 refine callT_of (c_rvdone (hS.new f1 (.cells #[.bool v.bk.lg,.int .i64 v.bk.p,.int .i64 v.bk.i,.int .i64 v.bk.k,.int .i64 v.bk.n] 204 (0,0))).r3) ?_
 rintro u H' ⟨rfl,hS⟩
 have hS:=hS.p3.tail.p3
 have hk:=hS.look
 have r0:=fun o=>rd_of hk o
 have e:(Job.ml v m).dn=(v.dn && (!v.fd || odn m)):=rfl
 rw[e]
 cases hd:v.dn
 ·simp only[↓DD,UU,xE]
  exact⟨rfl,hS⟩
 cases hf:v.fd
 ·simp only[↓DD,UU,xE]
  exact hS
 cases m with
 |none=>
  simp only[r0,mlC,cmP,↓DD,UU,xE]
  refine callT_of (c_cmnone_done hS) ?_
  rintro u H' ⟨rfl,hS⟩
  simp only[↓DD,UU,xE]
  exact⟨rfl,hS⟩
 |some x=>
  simp only[r0,mlC,cmP,↓DD,UU,xE]
  refine callT_of (c_cmdone hS.p4) ?_
  rintro u H' ⟨rfl,hS⟩
  simp only[↓DD,UU,xE]
  exact⟨rfl,hS.r4⟩
theorem c_mlerr (hS:Sep (mlB km sh c kr kc m :: rvB kr k2 v :: rvA k2 kn v :: rvN kn v :: cmO kc m :: l) H) :
  CallP Tryz.prog W 192 #[.pointer (some ⟨km,0,none⟩)] H fun u H'=>u=.int .i64 (Job.ml v m).err∧Sep (mlB km sh c kr kc m :: rvB kr k2 v :: rvA k2 kn v :: rvN kn v :: cmO kc m :: l) H':=by
 refine CallP.of mixed Tryz.func192 tr192 (by show 1≤_;decide) fun W _=>?_
 have hk:=hS.look
 have r0:=fun o=>rd_of hk o
 simp only[r0,mlC,↓DD,UU,xE]
 refine callT_of (c_rvfound hS.r3) ?_
 rintro u H' ⟨rfl,hS⟩
 simp only[bkV,↓DD,UU,xE]
 refine newB_intro fun y hy f1 f2=>?_
 have hS:=hS.p3
 have hS:=(hS.new f1 (.cells #[.bool v.bk.lg,.int .i64 v.bk.p,.int .i64 v.bk.i,.int .i64 v.bk.k,.int .i64 v.bk.n] 204 (0,0))).tail
 have e:(Job.ml v m).err=if v.fd then 0 else 3:=rfl
 rw[e]
 cases hf:v.fd<;>simp only[Ev.upd_upd,↓DD,UU,↓reduceIte,xA,xE,xF]
 ·exact hS
 ·exact hS
theorem c_mltook (hS:Sep (mlB km sh c kr kc m :: rvB kr k2 v :: rvA k2 kn v :: rvN kn v :: cmO kc m :: l) H) :
  CallP Tryz.prog W 194 #[.pointer (some ⟨km,0,none⟩)] H fun u H'=>(∃ x,u=.tuple #[bkV x,.bool ((Job.ml v m).took).isSome]∧∀ y,(Job.ml v m).took=some y→y=x)∧Sep (mlB km sh c kr kc m :: rvB kr k2 v :: rvA k2 kn v :: rvN kn v :: cmO kc m :: l) H':=by
 refine CallP.of mixed Tryz.func194 tr194 (by show 1≤_;decide) fun W _=>?_
 have hk:=hS.look
 have r0:=fun o=>rd_of hk o
 simp only[↓DD,UU]
 refine newB_intro fun z hz f3 f4=>?_
 have nkz:(km=z)=False:=f3 km (by rw[hk];rfl)
 have nzk:(z=km)=False:=f4 km (by rw[hk];rfl)
 have hS:=(hS.new f3 (.cells #[.bool false,.int .i64 0,.int .i64 0,.int .i64 0,.int .i64 0] 204 (0,0))).r4
 simp only[r0,nkz,mlC,↓DD,UU,↓reduceIte,xE]
 refine callT_of (c_rvfound hS.r3) ?_
 rintro u H' ⟨rfl,hS⟩
 simp only[bkV,↓DD,UU,xE]
 refine newB_intro fun y hy f1 f2=>?_
 have hS:=hS.p3
 have hk:=hS.look
 have r0:=fun o=>rd_of hk o
 have hz1:=hS.lk 4 rfl
 have nky:(km=y)=False:=f1 km (by rw[hk];rfl)
 have nyk:(y=km)=False:=f2 km (by rw[hk];rfl)
 have nzy:(z=y)=False:=f1 z (by rw[hz1];rfl)
 have nyz:(y=z)=False:=f2 z (by rw[hz1];rfl)
 have hS:=hS.new f1 (.cells #[.bool v.bk.lg,.int .i64 v.bk.p,.int .i64 v.bk.i,.int .i64 v.bk.k,.int .i64 v.bk.n] 204 (0,0))
 have hy1:=hS.look
 have ry:=fun o n=>rdn_of hy1 o n
 have et:(Job.ml v m).took=if v.fd && odn m then some v.bk else none:=rfl
 rw[et]
 cases hf:v.fd
 ·simp only[hz1,nzy,Ev.upd_upd,↓DD,UU,↓reduceIte,xA,xC,xE,xF]
  exact⟨⟨Bk.zero,rfl,fun y e=>by cases e⟩,(hS.p5.set (.cells #[.bool false,.int .i64 0,.int .i64 0,.int .i64 0,.int .i64 0] 204 (0,0))).tail.tail⟩
 cases m with
 |none=>
  simp only[r0,nky,mlC,cmP,Ev.upd_upd,↓DD,UU,↓reduceIte,xA,xE,xF]
  refine callT_of (c_cmnone_done hS) ?_
  rintro u H' ⟨rfl,hS⟩
  have hz1:=hS.lk 5 rfl
  simp only[hz1,↓DD,UU,↓reduceIte,xA,xC,xE,xF]
  exact⟨⟨Bk.zero,rfl,fun y e=>by cases e⟩,(hS.p5.set (.cells #[.bool false,.int .i64 0,.int .i64 0,.int .i64 0,.int .i64 0] 204 (0,0))).tail.tail⟩
 |some x=>
  simp only[r0,nky,mlC,cmP,Ev.upd_upd,↓DD,UU,↓reduceIte,xA,xE,xF]
  refine callT_of (c_cmdone hS.p6) ?_
  rintro u H' ⟨rfl,hS⟩
  have hS:=hS.x6
  have hz1:=hS.lk 5 rfl
  have hy1:=hS.look
  have ry:=fun o n=>rdn_of hy1 o n
  have nzy:(z=y)=False:=hS.qen 0 5 (by decide) rfl rfl
  have nyz:(y=z)=False:=hS.neq 0 5 (by decide) rfl rfl
  cases hx:x.dn
  ·simp only[hz1,↓DD,UU,↓reduceIte,xA,xC,xE,xF]
   exact⟨⟨Bk.zero,(by simp only[odn,hx];rfl),fun y e=>by simp only[odn,hx]at e;cases e⟩,(hS.p5.set (.cells #[.bool false,.int .i64 0,.int .i64 0,.int .i64 0,.int .i64 0] 204 (0,0))).tail.tail⟩
  ·simp only[hz1,ry,↓DD,UU,↓reduceIte,xA,xC,xE,xF]
   exact⟨⟨v.bk,(by simp only[odn,hx];rfl),fun y e=>by simp only[odn,hx]at e;injection e with e;exact e.symm⟩,(hS.p5.set (.cells #[.bool v.bk.lg,.int .i64 v.bk.p,.int .i64 v.bk.i,.int .i64 v.bk.k,.int .i64 v.bk.n] 204 (0,0))).tail.tail⟩
theorem c_mlgave (hS:Sep l H):CallP Tryz.prog W 193 #[.pointer (some ⟨km,0,none⟩)] H fun u H'=>u=.bool false∧Sep l H':=by
 refine CallP.of mixed Tryz.func193 tr193 (by show 1≤_;decide) fun W _=>?_
 simp only[↓DD,UU]
 exact hS
theorem c_mlstep (hj:(Job.ml v m).wf sh c) (hd:(Job.ml v m).dn=false) (hw:w.of sh) (hS:Sep (mlB km sh c kr kc m :: rvB kr k2 v :: rvA k2 kn v :: rvN kn v :: cmO kc m :: wB b s w :: wR s w :: l) H) :
  CallP Tryz.prog W 191 #[.pointer (some ⟨km,0,none⟩),.pointer (some ⟨b,0,none⟩)] H fun u H'=>u=.tuple #[]∧∃ J,JobP sh c ((Job.ml v m).step sh c w).1 (.iface 178 (.pointer (some ⟨km,0,none⟩))) J∧Sep (J ++ wB b s ((Job.ml v m).step sh c w).2 :: wR s ((Job.ml v m).step sh c w).2 :: l) H':=by
 refine CallP.of mixed Tryz.func191 tr191 (by show 2≤_;decide) fun W _=>?_
 have hk:=hS.look
 have r0:=fun o=>rd_of hk o
 simp only[r0,mlC,↓DD,UU,xA]
 refine callT_of (c_rvdone hS.r3) ?_
 rintro u H' ⟨rfl,hS⟩
 have hS:=hS.p3
 have hk:=hS.look
 have r0:=fun o=>rd_of hk o
 obtain⟨h1,h2,h3⟩:=hj
 have hsh:v.dn=false→w.of v.shp:=fun g=>by cases v with
  | sk t=>show w.of t.s;rw[h2.1];exact hw
  | rn t=>show w.of t.s;rw[h2.1];exact hw
  | no=>cases g
 cases hv:v.dn
 ·rw[Job.ml_go hv]
  simp only[r0,mlC,↓DD,UU,xA,xE]
  refine callT_of (c_rvstep h1 hsh (hS.sel 7 [1,2,3,5,6,0,4] (by decide) (by decide))) ?_
  rintro u H' ⟨rfl,kn',hS⟩
  simp only[↓DD,UU]
  exact⟨_,.ml km kr k2 kn' kc _ m,hS.sel 7 [5,0,1,2,6,3,4] (by decide) (by decide)⟩
 have e:(v.dn && (!v.fd || odn m))=false:=hd
 rw[hv]at e
 cases hf:v.fd
 ·rw[hf]at e;cases e
 rw[hf]at e
 have e:odn m=false:=e
 simp only[r0,mlC,↓DD,UU,xA,xE]
 refine callT_of (c_rvfound hS.r3) ?_
 rintro u H' ⟨rfl,hS⟩
 simp only[bkV,↓DD,UU,xA,xE]
 refine newB_intro fun y hy f1 f2=>?_
 have hS:=hS.p3
 have hk:=hS.look
 have r0:=fun o=>rd_of hk o
 have nky:(km=y)=False:=f1 km (by rw[hk];rfl)
 have nyk:(y=km)=False:=f2 km (by rw[hk];rfl)
 have hS:=hS.new f1 (.cells #[.bool v.bk.lg,.int .i64 v.bk.p,.int .i64 v.bk.i,.int .i64 v.bk.k,.int .i64 v.bk.n] 204 (0,0))
 have hy1:=hS.look
 have ry:=fun o n=>rdn_of hy1 o n
 have hk1:=hS.lk 1 rfl
 have r1:=fun o=>rd_of hk1 o
 have r2:=fun o n=>rdn_of hk1 o n
 cases m with
 |some x=>
  rw[Job.ml_cm hv]
  obtain⟨x1,x2,x3,-,-⟩:=h3 x rfl
  simp only[r1,hf,mlC,cmP,Ev.upd_upd,↓DD,UU,↓reduceIte,xA,xE,xF]
  refine callT_of (c_cmstep x1 (fun _=>by rw[x2];exact hw) (hS.sel 8 [5,6,7,1,2,3,4] (by decide) (by decide))) ?_
  rintro u H' ⟨rfl,hS⟩
  simp only[↓DD,UU]
  exact⟨_,.ml km kr k2 kn kc v (some (x.step w).1),hS.sel 7 [3,4,5,6,0,1,2] (by decide) (by decide)⟩
 |none=>
  rw[Job.ml_new hv hf]
  simp only[r0,nky,hf,mlC,cmP,Ev.upd_upd,↓DD,UU,↓reduceIte,xA,xE,xF]
  refine draw_intro [(km,mlC sh c kr kc none,[]),(y,#[.bool v.bk.lg,.int .i64 v.bk.p,.int .i64 v.bk.i,.int .i64 v.bk.k,.int .i64 v.bk.n],[])] (by simp only[hk1,hy1,mlC,cmP,↓DD,UU]) ?_
  simp only[r1,r2,ry,nyk,mlC,cmP,↓DD,UU,↓reduceIte,xA,xC,xE,xF]
  refine callT_of (c_cmnew (sh:=sh) (c:=c) (B:=v.bk) hS) ?_
  rintro u H' ⟨kc',rfl,hS⟩
  have hk1:=hS.lk 2 rfl
  have hy1:=hS.lk 1 rfl
  simp only[hk1,hy1,mlC,cmP,↓DD,UU,↓reduceIte,xA,xE,xG]
  have hS:=hS.p2.set (.cells (mlC sh c kr kc' (some (Cm.new sh c v.bk))) 183 (0,0))
  refine callT_of (c_cmstep (Cm.new_wf sh c v.bk) (fun _=>hw) (hS.sel 9 [1,7,8,0,3,4,5] (by decide) (by decide))) ?_
  rintro u H' ⟨rfl,hS⟩
  simp only[↓DD,UU]
  exact⟨_,.ml km kr k2 kn kc' v (some ((Cm.new sh c v.bk).step w).1),hS.sel 7 [3,4,5,6,0,1,2] (by decide) (by decide)⟩
/-! ### Any job, as it is asked by way of the interface -/
theorem c_freegave (hS:Sep (gvB k kp t :: l) H):CallP Tryz.prog W 225 #[.agg #[.pointer (some ⟨k,0,none⟩)]] H fun u H'=>u=.bool t.gv∧Sep (gvB k kp t :: l) H':=by
 refine CallP.of mixed Tryz.func225 tr225 (by show 1≤_;decide) fun W _=>?_
 simp only[↓DD,UU]
 refine newB_intro fun x hx f1 f2=>?_
 have hS:=hS.new f1 (.cells #[.pointer (some ⟨k,0,none⟩)] 187 (0,0))
 have hx1:=hS.look
 have r0:=fun o=>rd_of hx1 o
 simp only[r0,↓DD,UU,xE]
 refine callT_of (c_gvgave hS.tail) ?_
 rintro u H' ⟨rfl,hS⟩
 simp only[↓DD,UU]
 first | exact hS | exact⟨rfl,hS⟩
theorem c_freeerr (hS:Sep (gvB k kp t :: l) H):CallP Tryz.prog W 224 #[.agg #[.pointer (some ⟨k,0,none⟩)]] H fun u H'=>u=.int .i64 (Job.fr t).err∧Sep (gvB k kp t :: l) H':=by
 refine CallP.of mixed Tryz.func224 tr224 (by show 1≤_;decide) fun W _=>?_
 simp only[↓DD,UU]
 refine newB_intro fun x hx f1 f2=>?_
 have hS:=hS.new f1 (.cells #[.pointer (some ⟨k,0,none⟩)] 187 (0,0))
 have hx1:=hS.look
 have r0:=fun o=>rd_of hx1 o
 simp only[r0,↓DD,UU,xE]
 refine callT_of (c_gvgave hS.tail) ?_
 rintro u H' ⟨rfl,hS⟩
 simp only[↓DD,UU]
 cases hg:t.gv<;>(simp only[Job.err,hg,↓DD,UU,↓reduceIte];first | exact hS | exact⟨rfl,hS⟩)
theorem c_againgave (hS:Sep (reL k kr k2 kn kg kp km r ++ l) H):CallP Tryz.prog W 231 #[.agg #[.pointer (some ⟨k,0,none⟩)]] H fun u H'=>u=.bool r.gave∧Sep (reL k kr k2 kn kg kp km r ++ l) H':=by
 refine CallP.of mixed Tryz.func231 tr231 (by show 1≤_;decide) fun W _=>?_
 simp only[↓DD,UU]
 refine newB_intro fun x hx f1 f2=>?_
 have hS:=hS.new f1 (.cells #[.pointer (some ⟨k,0,none⟩)] 191 (0,0))
 have hx1:=hS.look
 have r0:=fun o=>rd_of hx1 o
 simp only[r0,↓DD,UU,xE]
 refine callT_of (c_regave hS.tail) ?_
 rintro u H' ⟨rfl,hS⟩
 simp only[↓DD,UU]
 first | exact hS | exact⟨rfl,hS⟩
theorem c_againerr (hS:Sep (reL k kr k2 kn kg kp km r ++ l) H):CallP Tryz.prog W 230 #[.agg #[.pointer (some ⟨k,0,none⟩)]] H fun u H'=>u=.int .i64 r.er∧Sep (reL k kr k2 kn kg kp km r ++ l) H':=by
 refine CallP.of mixed Tryz.func230 tr230 (by show 1≤_;decide) fun W _=>?_
 simp only[↓DD,UU]
 refine newB_intro fun x hx f1 f2=>?_
 have hS:=hS.new f1 (.cells #[.pointer (some ⟨k,0,none⟩)] 191 (0,0))
 have hx1:=hS.look
 have r0:=fun o=>rd_of hx1 o
 simp only[r0,↓DD,UU,xE]
 refine callT_of (c_reerr' hS.tail) ?_
 rintro u H' ⟨rfl,hS⟩
 simp only[↓DD,UU]
 first | exact hS | exact⟨rfl,hS⟩
theorem c_againtook (hr:r.wf) (hS:Sep (reL k kr k2 kn kg kp km r ++ l) H):CallP Tryz.prog W 232 #[.agg #[.pointer (some ⟨k,0,none⟩)]] H fun u H'=>u=.tuple #[bkV r.bk,.bool r.fd]∧Sep (reL k kr k2 kn kg kp km r ++ l) H':=by
 refine CallP.of mixed Tryz.func232 tr232 (by show 1≤_;decide) fun W _=>?_
 simp only[↓DD,UU]
 refine newB_intro fun x hx f1 f2=>?_
 have hS:=hS.new f1 (.cells #[.pointer (some ⟨k,0,none⟩)] 191 (0,0))
 simp only[↓DD,UU]
 refine newB_intro fun y hy f3 f4=>?_
 have hx1:=hS.look
 have r0:=fun o=>rd_of hx1 o
 have nxy:(x=y)=False:=f3 x (by rw[hx1];rfl)
 have nyx:(y=x)=False:=f4 x (by rw[hx1];rfl)
 have hS:=(hS.new f3 (.cells #[.bool false,.int .i64 0,.int .i64 0,.int .i64 0,.int .i64 0] 204 (0,0))).p1.tail
 simp only[r0,nxy,↓DD,UU,↓reduceIte,xE]
 refine callT_of (c_refound hr hS.inL) ?_
 rintro u H' ⟨rfl,hS⟩
 have hS:=hS.outL
 have hy1:=hS.look
 have hS:=hS.set (.cells #[.bool r.bk.lg,.int .i64 r.bk.p,.int .i64 r.bk.i,.int .i64 r.bk.k,.int .i64 r.bk.n] 204 (0,0))
 have hy2:=hS.look
 have ry:=fun o n=>rdn_of hy2 o n
 simp only[bkV,hy1,ry,↓DD,UU,↓reduceIte,xA,xC,xE,xF]
 exact hS.tail
theorem c_heirerr (hS:Sep (adB k a :: l) H):CallP Tryz.prog W 246 #[.agg #[.pointer (some ⟨k,0,none⟩)]] H fun u H'=>u=.int .i64 a.err∧Sep (adB k a :: l) H':=by
 refine CallP.of mixed Tryz.func246 tr246 (by show 1≤_;decide) fun W _=>?_
 simp only[↓DD,UU]
 refine newB_intro fun x hx f1 f2=>?_
 have hS:=hS.new f1 (.cells #[.pointer (some ⟨k,0,none⟩)] 195 (0,0))
 have hx1:=hS.look
 have r0:=fun o=>rd_of hx1 o
 simp only[r0,↓DD,UU,xE]
 refine callT_of (c_aderr hS.tail) ?_
 rintro u H' ⟨rfl,hS⟩
 simp only[↓DD,UU]
 first | exact hS | exact⟨rfl,hS⟩
theorem c_heirgave (hS:Sep l H):CallP Tryz.prog W 247 #[.agg #[.pointer (some ⟨k,0,none⟩)]] H fun u H'=>u=.bool false∧Sep l H':=by
 refine CallP.of mixed Tryz.func247 tr247 (by show 1≤_;decide) fun W _=>?_
 simp only[↓DD,UU]
 refine newB_intro fun x hx f1 f2=>?_
 exact⟨rfl,(hS.new f1 _).tail⟩
theorem c_freetook (hS:Sep l H):CallP Tryz.prog W 226 #[.agg #[.pointer (some ⟨k,0,none⟩)]] H fun u H'=>u=.tuple #[bkV Bk.zero,.bool false]∧Sep l H':=by
 refine CallP.of mixed Tryz.func226 tr226 (by show 1≤_;decide) fun W _=>?_
 simp only[↓DD,UU]
 refine newB_intro fun x hx f1 f2=>?_
 have hS:=hS.new f1 (.cells #[.pointer (some ⟨k,0,none⟩)] 187 (0,0))
 simp only[↓DD,UU]
 refine newB_intro fun y hy f3 f4=>?_
 have hS:=hS.new f3 (.cells #[.bool false,.int .i64 0,.int .i64 0,.int .i64 0,.int .i64 0] 204 (0,0))
 have hy1:=hS.look
 have ry:=fun o n=>rdn_of hy1 o n
 simp only[hy1,ry,Ev.upd_upd,↓DD,UU,↓reduceIte,xA,xC,xE,xF]
 exact⟨rfl,hS.tail.tail⟩
theorem c_heirtook (hS:Sep l H):CallP Tryz.prog W 248 #[.agg #[.pointer (some ⟨k,0,none⟩)]] H fun u H'=>u=.tuple #[bkV Bk.zero,.bool false]∧Sep l H':=by
 refine CallP.of mixed Tryz.func248 tr248 (by show 1≤_;decide) fun W _=>?_
 simp only[↓DD,UU]
 refine newB_intro fun x hx f1 f2=>?_
 have hS:=hS.new f1 (.cells #[.pointer (some ⟨k,0,none⟩)] 195 (0,0))
 simp only[↓DD,UU]
 refine newB_intro fun y hy f3 f4=>?_
 have hS:=hS.new f3 (.cells #[.bool false,.int .i64 0,.int .i64 0,.int .i64 0,.int .i64 0] 204 (0,0))
 have hy1:=hS.look
 have ry:=fun o n=>rdn_of hy1 o n
 simp only[hy1,ry,Ev.upd_upd,↓DD,UU,↓reduceIte,xA,xC,xE,xF]
 exact⟨rfl,hS.tail.tail⟩
theorem j_done {K:Value→Hp→Prop} (hj:JobP sh c j jv J) (hw:j.wf sh c) (hn:j≠.no) (hS:Sep (J ++ l) H) (hK:∀ H',Sep (J ++ l) H'→K (.bool j.dn) H') :
  onIf jv fun t u=>onMeth (methB Tryz.prog t "Done") (methS Tryz.prog t "Done") u fun f r=>onV (r :: []) fun vs=>callT Tryz.prog W f vs.toArray H K:=by
 cases hj with
 | no=>exact absurd rfl hn
 |ml km kr k2 kn kc v m=>
  rw[onIf_mk,mt1,onMeth_mk,onV_mk]
  refine callT_of (c_mldone hw hS) ?_
  rintro u H' ⟨rfl,hS⟩
  exact hK _ hS
 |fr k kp t=>
  rw[onIf_mk,mfree_Done.1,mfree_Done.2,onMeth_p,onV_mk]
  refine callT_of (c_gvdone hS) ?_
  rintro u H' ⟨rfl,hS⟩
  exact hK _ hS
 |ag k kr k2 kn kg kp km r=>
  rw[onIf_mk,magain_Done.1,magain_Done.2,onMeth_p,onV_mk]
  refine callT_of (c_redone' hS) ?_
  rintro u H' ⟨rfl,hS⟩
  exact hK _ hS
 |hr k a=>
  rw[onIf_mk,mheir_Done.1,mheir_Done.2,onMeth_p,onV_mk]
  refine callT_of (c_addone hS) ?_
  rintro u H' ⟨rfl,hS⟩
  exact hK _ hS
theorem j_gave {K:Value→Hp→Prop} (hj:JobP sh c j jv J) (hn:j≠.no) (hS:Sep (J ++ l) H) (hK:∀ H',Sep (J ++ l) H'→K (.bool j.gave) H') :
  onIf jv fun t u=>onMeth (methB Tryz.prog t "allotment/client.gave") (methS Tryz.prog t "allotment/client.gave") u fun f r=>onV (r :: []) fun vs=>callT Tryz.prog W f vs.toArray H K:=by
 cases hj with
 | no=>exact absurd rfl hn
 |ml km kr k2 kn kc v m=>
  rw[onIf_mk,mt3,onMeth_mk,onV_mk]
  refine callT_of (c_mlgave hS) ?_
  rintro u H' ⟨rfl,hS⟩
  exact hK _ hS
 |fr k kp t=>
  rw[onIf_mk,mfree_gave.1,mfree_gave.2,onMeth_v,onV_mk]
  refine callT_of (c_freegave hS) ?_
  rintro u H' ⟨rfl,hS⟩
  exact hK _ hS
 |ag k kr k2 kn kg kp km r=>
  rw[onIf_mk,magain_gave.1,magain_gave.2,onMeth_v,onV_mk]
  refine callT_of (c_againgave hS) ?_
  rintro u H' ⟨rfl,hS⟩
  exact hK _ hS
 |hr k a=>
  rw[onIf_mk,mheir_gave.1,mheir_gave.2,onMeth_v,onV_mk]
  refine callT_of (c_heirgave hS) ?_
  rintro u H' ⟨rfl,hS⟩
  exact hK _ hS
theorem j_err {K:Value→Hp→Prop} (hj:JobP sh c j jv J) (hn:j≠.no) (hS:Sep (J ++ l) H) (hK:∀ H',Sep (J ++ l) H'→K (.int .i64 j.err) H') :
  onIf jv fun t u=>onMeth (methB Tryz.prog t "allotment/client.err") (methS Tryz.prog t "allotment/client.err") u fun f r=>onV (r :: []) fun vs=>callT Tryz.prog W f vs.toArray H K:=by
 cases hj with
 | no=>exact absurd rfl hn
 |ml km kr k2 kn kc v m=>
  rw[onIf_mk,mt5,onMeth_mk,onV_mk]
  refine callT_of (c_mlerr hS) ?_
  rintro u H' ⟨rfl,hS⟩
  exact hK _ hS
 |fr k kp t=>
  rw[onIf_mk,mfree_err.1,mfree_err.2,onMeth_v,onV_mk]
  refine callT_of (c_freeerr hS) ?_
  rintro u H' ⟨rfl,hS⟩
  exact hK _ hS
 |ag k kr k2 kn kg kp km r=>
  rw[onIf_mk,magain_err.1,magain_err.2,onMeth_v,onV_mk]
  refine callT_of (c_againerr hS) ?_
  rintro u H' ⟨rfl,hS⟩
  exact hK _ hS
 |hr k a=>
  rw[onIf_mk,mheir_err.1,mheir_err.2,onMeth_v,onV_mk]
  refine callT_of (c_heirerr hS) ?_
  rintro u H' ⟨rfl,hS⟩
  exact hK _ hS
theorem j_took {K:Value→Hp→Prop} (hj:JobP sh c j jv J) (hw:j.wf sh c) (hn:j≠.no) (hS:Sep (J ++ l) H) (hK:∀ x H',(∀ y,j.took=some y→y=x)→Sep (J ++ l) H'→K (.tuple #[bkV x,.bool j.took.isSome]) H') :
  onIf jv fun t u=>onMeth (methB Tryz.prog t "allotment/client.took") (methS Tryz.prog t "allotment/client.took") u fun f r=>onV (r :: []) fun vs=>callT Tryz.prog W f vs.toArray H K:=by
 cases hj with
 | no=>exact absurd rfl hn
 |ml km kr k2 kn kc v m=>
  rw[onIf_mk,mt4,onMeth_mk,onV_mk]
  refine callT_of (c_mltook hS) ?_
  rintro u H' ⟨⟨x,rfl,hx⟩,hS⟩
  exact hK _ _ hx hS
 |fr k kp t=>
  rw[onIf_mk,mfree_took.1,mfree_took.2,onMeth_v,onV_mk]
  refine callT_of (c_freetook hS) ?_
  rintro u H' ⟨rfl,hS⟩
  exact hK _ _ (fun y e=>by cases e) hS
 |ag k kr k2 kn kg kp km r=>
  rw[onIf_mk,magain_took.1,magain_took.2,onMeth_v,onV_mk]
  refine callT_of (c_againtook hw.1 hS) ?_
  rintro u H' ⟨rfl,hS⟩
  have:=hK r.bk H' (fun y e=>by
   have e:(if r.fd then some r.bk else none)=some y:=e
   split at e
   ·injection e with e;exact e.symm
   ·cases e) hS
  have e2:(Job.ag r).took.isSome=r.fd:=by
   show(if r.fd then some r.bk else none).isSome=r.fd
   cases r.fd<;>rfl
  rw[e2]at this
  exact this
 |hr k a=>
  rw[onIf_mk,mheir_took.1,mheir_took.2,onMeth_v,onV_mk]
  refine callT_of (c_heirtook hS) ?_
  rintro u H' ⟨rfl,hS⟩
  exact hK _ _ (fun y e=>by cases e) hS
theorem j_step {K:Value→Hp→Prop} (hj:JobP sh c j jv J) (hw:j.wf sh c) (hd:j.dn=false) (hn:j≠.no) (ww:w.of sh) (hS:Sep (J ++ wB b s w :: wR s w :: l) H)
  (hK:∀ J' H',JobP sh c (j.step sh c w).1 jv J'→Sep (J' ++ wB b s (j.step sh c w).2 :: wR s (j.step sh c w).2 :: l) H'→K (.tuple #[]) H') :
  onIf jv fun t u=>onMeth (methB Tryz.prog t "Step") (methS Tryz.prog t "Step") u fun f r=>onV (r :: [.pointer (some ⟨b,0,none⟩)]) fun vs=>callT Tryz.prog W f vs.toArray H K:=by
 cases hj with
 | no=>exact absurd rfl hn
 |ml km kr k2 kn kc v m=>
  rw[onIf_mk,mt2,onMeth_mk,onV_mk]
  refine callT_of (c_mlstep hw hd ww hS) ?_
  rintro u H' ⟨rfl,J',hJ,hS⟩
  exact hK _ _ hJ hS
 |fr k kp t=>
  rw[onIf_mk,mfree_Step.1,mfree_Step.2,onMeth_p,onV_mk]
  refine callT_of (c_gvstep hw.1 (fun _=>by rw[hw.2.1];exact ww) hS) ?_
  rintro u H' ⟨rfl,kp',hS⟩
  exact hK _ _ (.fr k kp' _) hS
 |ag k kr k2 kn kg kp km r=>
  rw[onIf_mk,magain_Step.1,magain_Step.2,onMeth_p,onV_mk]
  refine callT_of (c_restep hw.1 (fun _=>by rw[hw.2.1];exact ww) hS) ?_
  rintro u H' ⟨rfl,kn',kp',km',hS⟩
  exact hK _ _ (.ag k kr k2 kn' kg kp' km' _) hS
 |hr k a=>
  rw[onIf_mk,mheir_Step.1,mheir_Step.2,onMeth_p,onV_mk]
  refine callT_of (c_adstep hw.1 (fun _=>by rw[hw.2.1];exact ww) hS) ?_
  rintro u H' ⟨rfl,hS⟩
  exact hK _ _ (.hr k _) hS
end
end Go.Proofs.YtkjpgikjcfhckaaGreat
