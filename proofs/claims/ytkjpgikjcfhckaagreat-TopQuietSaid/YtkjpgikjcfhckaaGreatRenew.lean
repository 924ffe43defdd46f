/-
Another block in place of one: the program's machine. Conditions: none.
Chapter 17's awake: a block of two pages comes in place of one of one page. Conditions: none.
-/
import Derived.Test.YtkjpgikjcfhckaaGreatCodeY
import Derived.Test.YtkjpgikjcfhckaaGreatTake
import Derived.Test.YtkjpgikjcfhckaaGreatGive
import Derived.Test.YtkjpgikjcfhckaaGreatMaB
import Derived.Test.YtkjpgikjcfhckaaGreatLawK
import Derived.Test.YtkjpgikjcfhckaaGreatRowA
import Derived.Test.YtkjpgikjcfhckaaGreatMaA
open Nat renaming reduceAdd→xA,reduceMul→xB,reduceSub→xC,reduceEqDiff→xD,reduceBEq→xE,reduceLeDiff→xF,reduceLT→xG
open Int renaming reduceAdd→xH,reduceMul→xI,reduceSub→xJ,reduceLT→xK,reduceLE→xL,reduceToNat→xM,reduceEq→xN,reduceNe→xO,reduceBEq→xP,reduceBNe→xQ
set_option linter.unusedVariables false
set_option linter.unusedSectionVars false
set_option linter.unusedSimpArgs false
set_option maxRecDepth 8000
namespace Go.Ev
theorem Sep.x6 {l:List Hp} {H a b c d e f g:Hp} (h:Sep (a :: b :: c :: d :: e :: f :: g :: l) H):Sep (b :: c :: d :: e :: f :: g :: a :: l) H:=h.perm (List.perm_middle (l₁:=[b,c,d,e,f,g]) (a:=a) (l₂:=l)).symm
theorem Sep.x7 {l:List Hp} {H a b c d e f g i:Hp} (h:Sep (a :: b :: c :: d :: e :: f :: g :: i :: l) H):Sep (b :: c :: d :: e :: f :: g :: i :: a :: l) H:=h.perm (List.perm_middle (l₁:=[b,c,d,e,f,g,i]) (a:=a) (l₂:=l)).symm
theorem Sep.re9 {l:List Hp} {H a m b c d e f g y:Hp} (h:Sep (a :: m :: b :: c :: d :: e :: f :: g :: y :: l) H):Sep (a :: b :: c :: d :: e :: f :: m :: l) H:=h.p8.tail.p7.tail.p1.x6
theorem Sep.inL {L l:List Hp} {z H:Hp} (h:Sep (z :: (L ++ l)) H):Sep (L ++ z :: l) H:=h.perm List.perm_middle.symm
theorem Sep.outL {L l:List Hp} {z H:Hp} (h:Sep (L ++ z :: l) H):Sep (z :: (L ++ l)) H:=h.perm List.perm_middle
section
variable {l:List Hp} {H a b c d e f g i j:Hp}
theorem Sep.pl7 (h:Sep (a :: b :: c :: d :: e :: f :: g :: i :: j :: l) H):Sep (b :: c :: d :: i :: j :: a :: e :: f :: g :: l) H:=h.p8.p8.p5.p5.p5
theorem Sep.lp7 (h:Sep (b :: c :: d :: i :: j :: a :: e :: f :: g :: l) H):Sep (a :: b :: c :: d :: e :: f :: g :: i :: j :: l) H:=h.p4.p4.p8.p8.p8.p7.p7.p7.p8
theorem Sep.pg7 (h:Sep (a :: b :: c :: d :: e :: f :: g :: i :: j :: l) H):Sep (e :: f :: i :: j :: a :: b :: c :: d :: g :: l) H:=h.p8.p8.p7.p7
theorem Sep.gp7 (h:Sep (e :: f :: i :: j :: a :: b :: c :: d :: g :: l) H):Sep (a :: b :: c :: d :: e :: f :: g :: i :: j :: l) H:=h.p3.p3.p8.p4.p4.p8.p8.p8.p8
theorem Sep.mp7 (h:Sep (g :: i :: j :: a :: b :: c :: d :: e :: f :: l) H):Sep (a :: b :: c :: d :: e :: f :: g :: i :: j :: l) H:=h.p8.p8.p8.p8.p8.p8
end
end Go.Ev
namespace Go.Proofs.YtkjpgikjcfhckaaGreat
open Go Go.Ev Go.Pl Go.Ma

def pOn (o:Bool) (k:Nat):Value:=.pointer (if o then some ⟨k,0,none⟩ else none)
def Md.uoV (km:Nat):Md→Value
 | .uo _=>.pointer (some ⟨km,0,none⟩)
 | _=>.pointer none
def Md.cmV (km:Nat):Md→Value
 | .cm _=>.pointer (some ⟨km,0,none⟩)
 | _=>.pointer none
def mdB (km:Nat):Md→Hp
 | .uo u=>uoB km u
 | .cm m=>cmB km m
 | .no=>fun _=>none
def hOn (o:Bool) (h:Hp):Hp:=if o then h else fun _=>none
def reC (kr kg km:Nat) (t:Re):Array Value:=#[.int .i64 t.s.p,.int .i64 t.s.c,.int .i64 t.s.m,.int .i64 t.c,pOn t.on kr,pOn t.on kg,Md.uoV km t.md,Md.cmV km t.md,.int .i64 t.er,.bool t.dn]
def reB (k kr kg km:Nat) (t:Re):Hp:=sg k (.cells (reC kr kg km t) 219 (0,0))
def reL (k kr k2 kn kg kp km:Nat) (t:Re):List Hp:=[reB k kr kg km t,hOn t.on (rvB kr k2 t.rv),hOn t.on (rvA k2 kn t.rv),hOn t.on (rvN kn t.rv),hOn t.on (gvB kg kp t.gv),hOn t.on (puO kp t.gv.put),mdB km t.md]

section
variable {W:World} {H:Hp} {k kr k2 kn kg kp km b s:Nat} {t:Re} {w:Wd} {l:List Hp}

theorem c_reend {e:Int} (hS:Sep (reB k kr kg km t :: l) H) :
  CallP Tryz.prog W 131 #[.pointer (some ⟨k,0,none⟩),.int .i64 e] H fun v H'=>v=.tuple #[]∧Sep (reB k kr kg km (t.fin e) :: l) H':=by
 refine CallP.of mixed Tryz.func131 tr131 (by show 2≤_;decide) fun W _=>?_
 have hk:=hS.look
 simp only[hk,reC,Ev.upd_upd,↓DD,UU,xA,xE,xG]
 exact hS.set (.cells (reC kr kg km (t.fin e)) 219 (0,0))
theorem c_redone (hS:Sep (reB k kr kg km t :: l) H) :
  CallP Tryz.prog W 227 #[.pointer (some ⟨k,0,none⟩)] H fun v H'=>v=.bool t.dn∧Sep (reB k kr kg km t :: l) H':=by
 refine CallP.of mixed Tryz.func227 tr227 (by show 1≤_;decide) fun W _=>?_
 have hk:=hS.look
 have r1:=fun o=>rd_of hk o
 simp only[r1,reC,↓DD,UU,↓reduceIte,xE]
 exact hS
theorem c_reerr (hS:Sep (reB k kr kg km t :: l) H) :
  CallP Tryz.prog W 233 #[.pointer (some ⟨k,0,none⟩)] H fun v H'=>v=.int .i64 t.er∧Sep (reB k kr kg km t :: l) H':=by
 refine CallP.of mixed Tryz.func233 tr233 (by show 1≤_;decide) fun W _=>?_
 have hk:=hS.look
 have r1:=fun o=>rd_of hk o
 simp only[r1,reC,↓DD,UU,↓reduceIte,xE]
 exact hS
theorem c_gvnone_gave (hS:Sep l H):CallP Tryz.prog W 143 #[.pointer none] H fun v H'=>v=.bool false∧Sep l H':=by
 refine CallP.of mixed Tryz.func143 tr143 (by show 1≤_;decide) fun W _=>?_
 simp only[↓DD,UU,↓reduceIte,xE]
 exact hS
theorem c_redone' (hS:Sep (reL k kr k2 kn kg kp km t ++ l) H) :
  CallP Tryz.prog W 227 #[.pointer (some ⟨k,0,none⟩)] H fun v H'=>v=.bool t.dn∧Sep (reL k kr k2 kn kg kp km t ++ l) H':=c_redone hS
theorem c_reerr' (hS:Sep (reL k kr k2 kn kg kp km t ++ l) H) :
  CallP Tryz.prog W 233 #[.pointer (some ⟨k,0,none⟩)] H fun v H'=>v=.int .i64 t.er∧Sep (reL k kr k2 kn kg kp km t ++ l) H':=c_reerr hS
theorem re_on (h:t.on=true):reL k kr k2 kn kg kp km t ++ l=reB k kr kg km t :: rvB kr k2 t.rv :: rvA k2 kn t.rv :: rvN kn t.rv :: gvB kg kp t.gv :: puO kp t.gv.put :: mdB km t.md :: l:=by
 unfold reL hOn;rw[h];rfl
theorem c_regave (hS:Sep (reL k kr k2 kn kg kp km t ++ l) H) :
  CallP Tryz.prog W 234 #[.pointer (some ⟨k,0,none⟩)] H fun v H'=>v=.bool t.gave∧Sep (reL k kr k2 kn kg kp km t ++ l) H':=by
 refine CallP.of mixed Tryz.func234 tr234 (by show 1≤_;decide) fun W _=>?_
 have hk:H k=_:=hS.look
 have r1:=fun o=>rd_of hk o
 unfold Re.gave
 cases ho:t.on
 ·simp only[r1,reC,ho,pOn,↓DD,UU,↓reduceIte,xE]
  refine callT_of (c_gvnone_gave hS) ?_
  rintro v H' ⟨rfl,hS⟩
  simp only[↓DD,UU,xE]
  exact⟨rfl,hS⟩
 ·rw[re_on ho]at hS
  simp only[r1,reC,ho,pOn,↓DD,UU,↓reduceIte,xE]
  refine callT_of (c_gvgave hS.p4) ?_
  rintro v H' ⟨rfl,hS⟩
  simp only[↓DD,UU,xE]
  rw[re_on ho]
  first | exact⟨rfl,hS.r4⟩| exact hS.r4
theorem c_resettle (h:t.wf') (hS:Sep (reL k kr k2 kn kg kp km t ++ l) H) :
  CallP Tryz.prog W 132 #[.pointer (some ⟨k,0,none⟩)] H fun v H'=>v=.tuple #[]∧∃ km',Sep (reL k kr k2 kn kg kp km' t.go ++ l) H':=by
 refine CallP.of mixed Tryz.func132 tr132 (by show 1≤_;decide) fun W _=>?_
 have on:=h.on
 have hgk:=Re.go_k (t:=t)
 have onn:t.go.on=true:=hgk.2.2.1.trans on
 rw[re_on on]at hS
 have hk:=hS.look
 have r1:=fun o=>rd_of hk o
 simp only[r1,reC,on,pOn,↓DD,UU,↓reduceIte]
 refine callT_of (c_rvfound hS.r3) ?_
 rintro v H' ⟨rfl,hS⟩
 have hS:=hS.p3
 have hk:=hS.look
 have r0:=fun o=>rd_of hk o
 simp only[bkV,↓DD,UU,xE]
 refine newB_intro fun y hy f3 f4=>?_
 have nky:(k=y)=False:=f3 k (by rw[hk];rfl)
 have nyk:(y=k)=False:=f4 k (by rw[hk];rfl)
 have hS:=(hS.new f3 (.cells #[.bool t.rv.bk.lg,.int .i64 t.rv.bk.p,.int .i64 t.rv.bk.i,.int .i64 t.rv.bk.k,.int .i64 t.rv.bk.n] 204 (0,0))).x7
 have hk:=hS.look
 have r1:=fun o=>rd_of hk o
 cases em:t.md with
 |uo u=>
  obtain⟨-,-,-,d1,d2,d3,-⟩:=h.uo u em
  rw[em]at hS
  simp only[r1,reC,on,pOn,em,Md.uoV,Md.cmV,Ev.upd_upd,↓DD,UU,↓reduceIte,xA,xE,xF]
  refine callT_of (c_uodone hS.p6) ?_
  rintro v H' ⟨rfl,hS⟩
  have hS:=hS.x6
  have hk:=hS.look
  have r1:=fun o=>rd_of hk o
  cases hu:u.dn
  ·have e1:t.go=t:=by unfold Re.go;rw[em];show(if u.dn then _ else _:Re)=_;rw[hu];rfl
   simp only[r1,reC,on,pOn,em,Md.uoV,Md.cmV,↓DD,UU,↓reduceIte,xE]
   refine callT_of (c_cmnone_done hS) ?_
   rintro v H' ⟨rfl,hS⟩
   have hk:=hS.look
   have r1:=fun o=>rd_of hk o
   simp only[r1,reC,on,pOn,em,Md.uoV,Md.cmV,↓DD,UU,↓reduceIte,xE]
   refine callT_of (c_rvdone hS.r3) ?_
   rintro v H' ⟨rfl,hS⟩
   have hS:=hS.p3
   have hk:=hS.look
   have r1:=fun o=>rd_of hk o
   simp only[r1,reC,on,pOn,em,d1,d2,Md.uoV,Md.cmV,↓DD,UU,↓reduceIte,xE]
   refine⟨km,?_⟩
   rw[e1,re_on on,em]
   exact hS.p7.tail
  ·have e1:t.go=t.fin 1:=by unfold Re.go;rw[em];show(if u.dn then _ else _:Re)=_;rw[hu];rfl
   simp only[↓DD,UU,xE]
   refine callT_of (c_reend hS) ?_
   rintro v H' ⟨rfl,hS⟩
   simp only[↓DD,UU]
   refine⟨km,?_⟩
   rw[e1,re_on (t:=t.fin 1) on]
   show Sep (_ :: _ :: _ :: _ :: _ :: _ :: mdB km t.md :: l) _
   rw[em]
   exact hS.p7.tail
 |cm m=>
  obtain⟨-,-,-,d1,d2,d3,-⟩:=h.cm m em
  rw[em]at hS
  simp only[r1,reC,on,pOn,em,Md.uoV,Md.cmV,Ev.upd_upd,↓DD,UU,↓reduceIte,xA,xE,xF]
  refine callT_of (c_uonone_done hS) ?_
  rintro v H' ⟨rfl,hS⟩
  have hk:=hS.look
  have r1:=fun o=>rd_of hk o
  simp only[r1,reC,on,pOn,em,Md.uoV,Md.cmV,↓DD,UU,↓reduceIte,xE]
  refine callT_of (c_cmdone hS.p6) ?_
  rintro v H' ⟨rfl,hS⟩
  have hS:=hS.x6
  have hk:=hS.look
  have r1:=fun o=>rd_of hk o
  cases hu:m.dn
  ·have e1:t.go=t:=by unfold Re.go;rw[em];show(if m.dn then _ else _:Re)=_;rw[hu];rfl
   simp only[r1,reC,on,pOn,em,Md.uoV,Md.cmV,↓DD,UU,↓reduceIte,xE]
   refine callT_of (c_rvdone hS.r3) ?_
   rintro v H' ⟨rfl,hS⟩
   have hS:=hS.p3
   have hk:=hS.look
   have r1:=fun o=>rd_of hk o
   simp only[r1,reC,on,pOn,em,d1,d2,Md.uoV,Md.cmV,↓DD,UU,↓reduceIte,xE]
   refine⟨km,?_⟩
   rw[e1,re_on on,em]
   exact hS.p7.tail
  ·have e1:t.go=t.fin 0:=by unfold Re.go;rw[em];show(if m.dn then _ else _:Re)=_;rw[hu];rfl
   simp only[↓DD,UU,xE]
   refine callT_of (c_reend hS) ?_
   rintro v H' ⟨rfl,hS⟩
   simp only[↓DD,UU]
   refine⟨km,?_⟩
   rw[e1,re_on (t:=t.fin 0) on]
   show Sep (_ :: _ :: _ :: _ :: _ :: _ :: mdB km t.md :: l) _
   rw[em]
   exact hS.p7.tail
 |no=>
  rw[em]at hS
  simp only[r1,reC,on,pOn,em,Md.uoV,Md.cmV,Ev.upd_upd,↓DD,UU,↓reduceIte,xA,xE,xF]
  refine callT_of (c_uonone_done hS) ?_
  rintro v H' ⟨rfl,hS⟩
  have hk:=hS.look
  have r1:=fun o=>rd_of hk o
  simp only[r1,reC,on,pOn,em,Md.uoV,Md.cmV,↓DD,UU,↓reduceIte,xE]
  refine callT_of (c_cmnone_done hS) ?_
  rintro v H' ⟨rfl,hS⟩
  have hk:=hS.look
  have r1:=fun o=>rd_of hk o
  simp only[r1,reC,on,pOn,em,Md.uoV,Md.cmV,↓DD,UU,↓reduceIte,xE]
  refine callT_of (c_rvdone hS.r3) ?_
  rintro v H' ⟨rfl,hS⟩
  have hS:=hS.p3
  have hk:=hS.look
  have r1:=fun o=>rd_of hk o
  have r2:=fun o n=>rdn_of hk o n
  have ego:t.go=if t.rv.dn then(if t.rv.fd then(if t.gv.dn then(if t.gv.gv then { t with md:=.cm (Cm.new t.s t.c t.rv.bk) } else { t with md:=.uo (Uo.new t.s t.c t.rv.bk) }) else t) else t.fin 3) else t:=by unfold Re.go;rw[em]
  cases hd:t.rv.dn
  ·have e1:t.go=t:=by rw[ego,hd];rfl
   simp only[↓DD,UU]
   refine⟨km,?_⟩
   rw[e1,re_on on,em]
   exact hS.p7.tail
  cases hf:t.rv.fd
  ·have e1:t.go=t.fin 3:=by rw[ego,hd,hf];rfl
   simp only[↓DD,UU,xE]
   refine callT_of (c_reend hS) ?_
   rintro v H' ⟨rfl,hS⟩
   simp only[↓DD,UU]
   refine⟨km,?_⟩
   rw[e1,re_on (t:=t.fin 3) on]
   show Sep (_ :: _ :: _ :: _ :: _ :: _ :: mdB km t.md :: l) _
   rw[em]
   exact hS.p7.tail
  simp only[r1,reC,on,pOn,em,Md.uoV,Md.cmV,↓DD,UU,↓reduceIte,xE]
  refine callT_of (c_gvdone hS.p4) ?_
  rintro v H' ⟨rfl,hS⟩
  have hS:=hS.r4
  have hk:=hS.look
  have r1:=fun o=>rd_of hk o
  have r2:=fun o n=>rdn_of hk o n
  cases hgd:t.gv.dn
  ·have e1:t.go=t:=by rw[ego,hd,hf,hgd];rfl
   simp only[↓DD,UU,xE]
   refine⟨km,?_⟩
   rw[e1,re_on on,em]
   exact hS.p7.tail
  simp only[r1,reC,on,pOn,em,Md.uoV,Md.cmV,↓DD,UU,↓reduceIte,xE]
  refine callT_of (c_gvgave hS.p4) ?_
  rintro v H' ⟨rfl,hS⟩
  have hS:=hS.r4
  have hk:=hS.look
  have r1:=fun o=>rd_of hk o
  have r2:=fun o n=>rdn_of hk o n
  cases hgg:t.gv.gv
  ·have e1:t.go = { t with md:=.uo (Uo.new t.s t.c t.rv.bk) }:=by rw[ego,hd,hf,hgd,hgg];rfl
   have hy1:=hS.lk 7 rfl
   have ry:=fun o n=>rdn_of hy1 o n
   have nky:=hS.neq 0 7 (by decide) rfl rfl
   have nyk:=hS.qen 0 7 (by decide) rfl rfl
   simp only[↓DD,UU]
   refine draw_intro [(k,reC kr kg km t,[]),(y,#[.bool t.rv.bk.lg,.int .i64 t.rv.bk.p,.int .i64 t.rv.bk.i,.int .i64 t.rv.bk.k,.int .i64 t.rv.bk.n],[])] (by simp only[hk,hy1,↓DD,UU]) ?_
   simp only[r1,r2,ry,nyk,reC,on,pOn,em,Md.uoV,Md.cmV,↓DD,UU,↓reduceIte,xA,xC,xE,xF]
   refine callT_of (c_uonew (sh:=t.s) (c:=t.c) (B:=t.rv.bk) hS) ?_
   rintro v H' ⟨km',rfl,hS⟩
   have hS:=hS.p1
   have hk:=hS.look
   have hy1:=hS.lk 8 rfl
   have r1:=fun o=>rd_of hk o
   simp only[hk,hy1,reC,on,pOn,em,Md.uoV,Md.cmV,↓DD,UU,↓reduceIte,xA,xE,xG]
   refine⟨km',?_⟩
   rw[e1,re_on (t:={ t with md:=.uo (Uo.new t.s t.c t.rv.bk) }) on]
   have e5:reC kr kg km' { t with md:=.uo (Uo.new t.s t.c t.rv.bk) } = #[.int .i64 t.s.p,.int .i64 t.s.c,.int .i64 t.s.m,.int .i64 t.c,.pointer (some ⟨kr,0,none⟩),.pointer (some ⟨kg,0,none⟩),.pointer (some ⟨km',0,none⟩),.pointer none,.int .i64 t.er,.bool t.dn]:=by
    unfold reC pOn;rw[show({ t with md:=.uo (Uo.new t.s t.c t.rv.bk) }:Re).on=true from on];rfl
   have h9:=hS.set (.cells (reC kr kg km' { t with md:=.uo (Uo.new t.s t.c t.rv.bk) }) 219 (0,0))
   refine Sep.re9 (g:=mdB km .no) (y:=sg y (.cells #[.bool t.rv.bk.lg,.int .i64 t.rv.bk.p,.int .i64 t.rv.bk.i,.int .i64 t.rv.bk.k,.int .i64 t.rv.bk.n] 204 (0,0))) ?_
   unfold reB
   rw[e5]at h9 ⊢
   exact h9
  ·have e1:t.go = { t with md:=.cm (Cm.new t.s t.c t.rv.bk) }:=by rw[ego,hd,hf,hgd,hgg];rfl
   have hy1:=hS.lk 7 rfl
   have ry:=fun o n=>rdn_of hy1 o n
   have nky:=hS.neq 0 7 (by decide) rfl rfl
   have nyk:=hS.qen 0 7 (by decide) rfl rfl
   simp only[↓DD,UU]
   refine draw_intro [(k,reC kr kg km t,[]),(y,#[.bool t.rv.bk.lg,.int .i64 t.rv.bk.p,.int .i64 t.rv.bk.i,.int .i64 t.rv.bk.k,.int .i64 t.rv.bk.n],[])] (by simp only[hk,hy1,↓DD,UU]) ?_
   simp only[r1,r2,ry,nyk,reC,on,pOn,em,Md.uoV,Md.cmV,↓DD,UU,↓reduceIte,xA,xC,xE,xF]
   refine callT_of (c_cmnew (sh:=t.s) (c:=t.c) (B:=t.rv.bk) hS) ?_
   rintro v H' ⟨km',rfl,hS⟩
   have hS:=hS.p1
   have hk:=hS.look
   have hy1:=hS.lk 8 rfl
   have r1:=fun o=>rd_of hk o
   simp only[hk,hy1,reC,on,pOn,em,Md.uoV,Md.cmV,↓DD,UU,↓reduceIte,xA,xE,xG]
   refine⟨km',?_⟩
   rw[e1,re_on (t:={ t with md:=.cm (Cm.new t.s t.c t.rv.bk) }) on]
   have e5:reC kr kg km' { t with md:=.cm (Cm.new t.s t.c t.rv.bk) } = #[.int .i64 t.s.p,.int .i64 t.s.c,.int .i64 t.s.m,.int .i64 t.c,.pointer (some ⟨kr,0,none⟩),.pointer (some ⟨kg,0,none⟩),.pointer none,.pointer (some ⟨km',0,none⟩),.int .i64 t.er,.bool t.dn]:=by
    unfold reC pOn;rw[show({ t with md:=.cm (Cm.new t.s t.c t.rv.bk) }:Re).on=true from on];rfl
   have h9:=hS.set (.cells (reC kr kg km' { t with md:=.cm (Cm.new t.s t.c t.rv.bk) }) 219 (0,0))
   refine Sep.re9 (g:=mdB km .no) (y:=sg y (.cells #[.bool t.rv.bk.lg,.int .i64 t.rv.bk.p,.int .i64 t.rv.bk.i,.int .i64 t.rv.bk.k,.int .i64 t.rv.bk.n] 204 (0,0))) ?_
   unfold reB
   rw[e5]at h9 ⊢
   exact h9
theorem c_renew {sh:Sh} {c a n f:Int} (hS:Sep l H) :
  CallP Tryz.prog W 117 #[.agg #[.int .i64 sh.p,.int .i64 sh.c,.int .i64 sh.m],.int .i64 c,.int .i64 a,.int .i64 n,.int .i64 f] H fun v H'=>∃ k kr k2 kn kg kp km,v=.pointer (some ⟨k,0,none⟩)∧Sep (reL k kr k2 kn kg kp km (Re.new sh c a n f) ++ l) H':=by
 refine CallP.of mixed Tryz.func117 tr117 (by show 5≤_;decide) fun W _=>?_
 simp only[↓DD,UU,xA]
 refine newB_intro fun x hx f1 f2=>?_
 have hS:=hS.new f1 (.cells #[.int .i64 sh.p,.int .i64 sh.c,.int .i64 sh.m] 23 (0,0))
 have hx1:=hS.look
 have r0:=fun o n=>rdn_of hx1 o n
 simp only[r0,v_split,v_length,↓DD,UU,↓reduceIte,xA,xC,xE,xF]
 refine newB_intro fun y hy f3 f4=>?_
 have nxy:(x=y)=False:=f3 x (by rw[hx1];rfl)
 have nyx:(y=x)=False:=f4 x (by rw[hx1];rfl)
 obtain⟨t0,ht0⟩:∃ t0:Re,t0=⟨sh,c,false,.no,Gv.new sh c 0,.no,0,false⟩:=⟨_,rfl⟩
 have hS:=hS.new f3 (.cells (reC 0 0 0 t0) 219 (0,0))
 rw[ht0]at hS
 have hx1:=hS.lk 1 rfl
 have hy1:=hS.look
 have r1:=fun o n=>rdn_of hx1 o n
 have r2:=fun o=>rd_of hy1 o
 simp only[reC,pOn,Md.uoV,Md.cmV]at hy1 r2
 have ns:decide (status sh.p sh.c sh.m c<0) = !decide (0≤status sh.p sh.c sh.m c):=by rw[← decide_not];exact decide_eq_decide.2 (by omega)
 have bad:Re.ok sh c a n=false→∀ H2,Sep (reB y 0 0 0 ((⟨sh,c,false,.no,Gv.new sh c 0,.no,0,false⟩:Re).fin 1) :: sg x (.cells #[.int .i64 sh.p,.int .i64 sh.c,.int .i64 sh.m] 23 (0,0)) :: l) H2→∃ k kr k2 kn kg kp km,Value.pointer (some ⟨y,0,none⟩)=.pointer (some ⟨k,0,none⟩)∧Sep (reL k kr k2 kn kg kp km (Re.new sh c a n f) ++ l) H2:=fun hb H2 h2=>by
  have e:Re.new sh c a n f=Re.bad sh c:=by unfold Re.new;rw[hb];rfl
  rw[e]
  exact⟨y,0,0,0,0,0,0,rfl,h2.p1.tail.nothing.nothing.nothing.nothing.nothing.nothing.p6⟩
 have end':∀ H2,Sep (reB y 0 0 0 ⟨sh,c,false,.no,Gv.new sh c 0,.no,0,false⟩ :: sg x (.cells #[.int .i64 sh.p,.int .i64 sh.c,.int .i64 sh.m] 23 (0,0)) :: l) H2→True:=fun _ _=>trivial
 cases h1:there sh.p sh.c sh.m a
 ·simp only[↓DD,UU,xA,xE]
  refine callT_of (c_reend hS) ?_
  rintro v H' ⟨rfl,hS⟩
  simp only[↓DD,UU,xA,xE]
  exact bad (by unfold Re.ok;rw[h1];rfl) _ hS
 cases h2:fine n
 ·simp only[↓DD,UU,xA,xE]
  refine callT_of (c_reend hS) ?_
  rintro v H' ⟨rfl,hS⟩
  simp only[↓DD,UU,xA,xE]
  exact bad (by unfold Re.ok;rw[h1,h2];rfl) _ hS
 cases h3:decide (0≤status sh.p sh.c sh.m c)
 ·simp only[r0,nxy,v_status,ns,h3,↓DD,UU,↓reduceIte,xA,xC,xE,xF]
  refine callT_of (c_reend hS) ?_
  rintro v H' ⟨rfl,hS⟩
  simp only[↓DD,UU,xA,xE]
  exact bad (by unfold Re.ok;rw[h1,h2,h3];rfl) _ hS
 ·have e:Re.new sh c a n f=(Re.raw sh c a n f).go:=by unfold Re.new Re.ok;rw[h1,h2,h3];rfl
  rw[e]
  simp only[r0,nxy,v_status,ns,h3,↓DD,UU,↓reduceIte,xA,xC,xE,xF]
  refine draw_intro [(x,#[.int .i64 sh.p,.int .i64 sh.c,.int .i64 sh.m],[])] (by simp only[nxy,↓DD,UU,↓reduceIte]) ?_
  simp only[r0,nxy,↓DD,UU,↓reduceIte,xA,xC,xE,xF]
  refine callT_of (c_rvnew (sh:=sh) (c:=c) (n:=n) (f:=f) hS) ?_
  rintro v H' ⟨kr,k2,kn,rfl,hS⟩
  have hx1:=hS.lk 4 rfl
  have r1:=fun o n=>rdn_of hx1 o n
  simp only[hx1,↓DD,UU,xE]
  refine callT_of (c_gvnew (sh:=sh) (c:=c) (a:=a) hS) ?_
  rintro v H' ⟨kg,rfl,hS⟩
  have hx1:=hS.lk 5 rfl
  have hy1:=hS.lk 4 rfl
  have r2:=fun o=>rd_of hy1 o
  simp only[hx1,hy1,nxy,reC,pOn,Md.uoV,Md.cmV,Ev.upd_upd,↓DD,UU,↓reduceIte,xA,xE,xG]
  have hS:=(hS.p4.set (.cells (reC kr kg 0 (Re.raw sh c a n f)) 219 (0,0))).p1.r4.p5.tail.nothing.nothing.x6.r5
  refine callT_of (c_resettle (kr:=kr) (k2:=k2) (kn:=kn) (kg:=kg) (kp:=0) (km:=0) (t:=Re.raw sh c a n f) ⟨rfl,rfl,Rv.new_wf ..,Rv.new_of ..,Gv.new_wf ..,⟨rfl,rfl⟩,fun _ g=>(by cases g),fun _ g=>(by cases g),fun _=>rfl⟩ (by rw[re_on rfl];exact hS)) ?_
  rintro v H' ⟨rfl,km,hS⟩
  simp only[↓DD,UU,xE]
  exact⟨y,kr,k2,kn,kg,0,km,rfl,hS⟩
theorem c_refound (ht:t.wf) (hS:Sep (reL k kr k2 kn kg kp km t ++ l) H) :
  CallP Tryz.prog W 235 #[.pointer (some ⟨k,0,none⟩)] H fun v H'=>v=.tuple #[bkV t.bk,.bool t.fd]∧Sep (reL k kr k2 kn kg kp km t ++ l) H':=by
 refine CallP.of mixed Tryz.func235 tr235 (by show 1≤_;decide) fun W _=>?_
 simp only[↓DD,UU]
 refine newB_intro fun y hy f3 f4=>?_
 have hk0:H k=_:=hS.look
 have r0:=fun o=>rd_of hk0 o
 have nky:(k=y)=False:=f3 k (by rw[hk0];rfl)
 have nyk:(y=k)=False:=f4 k (by rw[hk0];rfl)
 have hS:=hS.new f3 (.cells #[.bool false,.int .i64 0,.int .i64 0,.int .i64 0,.int .i64 0] 204 (0,0))
 have hk:=hS.lk 1 rfl
 have hy1:=hS.look
 have r1:=fun o=>rd_of hk o
 have r2:=fun o n=>rdn_of hy1 o n
 cases hd:t.dn
 ·have e1:t.bk=Bk.zero:=by unfold Re.bk;rw[hd];rfl
  have e2:t.fd=false:=by unfold Re.fd;rw[hd];rfl
  rw[e1,e2]
  simp only[hy1,r1,r2,reC,hd,Ev.upd_upd,↓DD,UU,↓reduceIte,xA,xC,xE,xF]
  refine⟨rfl,?_⟩
  have:=(hS.set (.cells #[.bool false,.int .i64 0,.int .i64 0,.int .i64 0,.int .i64 0] 204 (0,0))).tail
  rw[Ev.upd_upd]at this
  exact this
 by_cases he:t.er=0
 rotate_left
 ·have e1:t.bk=Bk.zero:=by unfold Re.bk;rw[decide_eq_false he,Bool.and_false];rfl
  have e2:t.fd=false:=by unfold Re.fd;rw[decide_eq_false he,Bool.and_false];rfl
  have g:(t.er != 0)=true:=by simp [he]
  rw[e1,e2]
  simp only[hy1,r1,r2,reC,hd,g,Ev.upd_upd,↓DD,UU,↓reduceIte,xA,xC,xE,xF]
  refine⟨rfl,?_⟩
  have:=(hS.set (.cells #[.bool false,.int .i64 0,.int .i64 0,.int .i64 0,.int .i64 0] 204 (0,0))).tail
  rw[Ev.upd_upd]at this
  exact this
 ·have on:t.on=true:=by
   cases h:t.on
   ·have:=(ht.of h).2.2;omega
   ·rfl
  have e1:t.bk=t.rv.bk:=by unfold Re.bk;rw[hd,decide_eq_true he];rfl
  have e2:t.fd=t.rv.fd:=by unfold Re.fd;rw[hd,decide_eq_true he];rfl
  have g:(t.er != 0)=false:=by simp [he]
  rw[e1,e2]
  rw[re_on on]at hS ⊢
  simp only[r1,reC,hd,g,on,pOn,↓DD,UU,↓reduceIte,xE]
  refine callT_of (c_rvfound hS.r4.r4) ?_
  rintro v H' ⟨rfl,hS⟩
  have hS:=hS.p4.p4
  have hy1:=hS.look
  have r2:=fun o n=>rdn_of hy1 o n
  simp only[hy1,bkV,↓DD,UU,↓reduceIte,xA,xC,xE,xF]
  exact(hS.set _).tail
theorem c_restep (ht:t.wf) (hw:t.dn=false→w.of t.s) (hS:Sep (reL k kr k2 kn kg kp km t ++ wB b s w :: wR s w :: l) H) :
  CallP Tryz.prog W 228 #[.pointer (some ⟨k,0,none⟩),.pointer (some ⟨b,0,none⟩)] H fun v H'=>v=.tuple #[]∧∃ kn' kp' km',Sep (reL k kr k2 kn' kg kp' km' (t.step w).1 ++ wB b s (t.step w).2 :: wR s (t.step w).2 :: l) H':=by
 refine CallP.of mixed Tryz.func228 tr228 (by show 2≤_;decide) fun W _=>?_
 have hk:H k=_:=hS.look
 have r1:=fun o=>rd_of hk o
 cases hd:t.dn
 rotate_left
 ·rw[Re.step_dn hd]
  simp only[r1,reC,hd,↓DD,UU,↓reduceIte,xA,xE]
  exact⟨kn,kp,km,hS⟩
 have hw:=hw hd
 have on:=Re.on_of ht hd
 have hwf:=Re.acc_wf (w:=w) ht hd hw
 have e0:t.step w=((t.acc w).1.go,(t.acc w).2):=by unfold Re.step;rw[hd];rfl
 rw[e0]
 rw[re_on on]at hS
 have settle:∀ (W:World) (u:Re) (w2:Wd) (kn kp km:Nat) (H2:Hp),t.acc w=(u,w2)→Sep (reL k kr k2 kn kg kp km u ++ wB b s w2 :: wR s w2 :: l) H2 →
   CallP Tryz.prog W 132 #[.pointer (some ⟨k,0,none⟩)] H2 fun v H'=>v=.tuple #[]∧∃ kn' kp' km',Sep (reL k kr k2 kn' kg kp' km' (t.acc w).1.go ++ wB b s (t.acc w).2 :: wR s (t.acc w).2 :: l) H':=fun W u w2 kn kp km H2 e h2=>by
  rw[e]at hwf ⊢
  exact(c_resettle hwf h2).mono fun v H' ⟨g,km',h⟩=>⟨g,kn,kp,km',h⟩
 simp only[r1,reC,on,pOn,hd,↓DD,UU,↓reduceIte,xA,xE]
 refine callT_of (c_rvdone hS.r3) ?_
 rintro v H' ⟨rfl,hS⟩
 have hS:=hS.p3
 have hk:=hS.look
 have r1:=fun o=>rd_of hk o
 cases e1:t.rv.dn
 ·have ea:t.acc w=({ t with rv:=(t.rv.step w).1 },(t.rv.step w).2):=by unfold Re.acc;rw[if_neg (by rw[e1];decide)]
  simp only[r1,reC,on,pOn,hd,↓DD,UU,↓reduceIte,xA,xE]
  have hsh:t.rv.dn=false→w.of t.rv.shp:=fun _=>by
   have:=ht.ro
   cases hv:t.rv with
   | sk q=>rw[hv]at this;show w.of q.s;rw[this.1];exact hw
   | rn q=>rw[hv]at this;show w.of q.s;rw[this.1];exact hw
   | no=>rw[hv]at e1;cases e1
  refine callT_of (c_rvstep ht.rw hsh (hS.pl7)) ?_
  rintro v H' ⟨rfl,kn',hS⟩
  simp only[↓DD,UU,xA,xE]
  refine callT_of (settle _ _ _ kn' kp km _ ea (by rw[re_on (t:={ t with rv:=(t.rv.step w).1 }) on];exact hS.lp7)) ?_
  rintro v H' ⟨rfl,h⟩
  simp only[↓DD,UU]
  exact h
 simp only[r1,reC,on,pOn,hd,↓DD,UU,↓reduceIte,xA,xE]
 refine callT_of (c_gvdone hS.p4) ?_
 rintro v H' ⟨rfl,hS⟩
 have hS:=hS.r4
 have hk:=hS.look
 have r1:=fun o=>rd_of hk o
 cases e2:t.gv.dn
 ·have ea:t.acc w=({ t with gv:=(t.gv.step w).1 },(t.gv.step w).2):=by unfold Re.acc;rw[if_pos e1,if_neg (by rw[e2];decide)]
  simp only[r1,reC,on,pOn,hd,↓DD,UU,↓reduceIte,xA,xE]
  refine callT_of (c_gvstep ht.gw (fun _=>by rw[ht.gs.1];exact hw) (hS.pg7)) ?_
  rintro v H' ⟨rfl,kp',hS⟩
  simp only[↓DD,UU,xA,xE]
  refine callT_of (settle _ _ _ kn kp' km _ ea (by rw[re_on (t:={ t with gv:=(t.gv.step w).1 }) on];exact hS.gp7)) ?_
  rintro v H' ⟨rfl,h⟩
  simp only[↓DD,UU]
  exact h
 cases em:t.md with
 | no=>have:=(ht.nx hd em e1).2;rw[e2]at this;cases this
 |uo u=>
  obtain⟨g1,g2,-⟩:=ht.uo u em
  rw[em]at hS
  have ea:t.acc w=({ t with md:=.uo (u.step w).1 },(u.step w).2):=by unfold Re.acc;rw[if_pos e1,if_pos e2,em]
  simp only[r1,reC,on,pOn,hd,em,Md.uoV,Md.cmV,↓DD,UU,↓reduceIte,xA,xE]
  refine callT_of (c_uostep g1 (fun _=>by rw[g2];exact hw) (hS.p6.p8.p8.p2)) ?_
  rintro v H' ⟨rfl,hS⟩
  simp only[↓DD,UU,xA,xE]
  have hS:=hS.mp7
  have e5:reB k kr kg km t=reB k kr kg km { t with md:=.uo (u.step w).1 }:=by unfold reB reC;rw[em];rfl
  rw[e5]at hS
  refine callT_of (settle _ _ _ kn kp km _ ea (by rw[re_on (t:={ t with md:=.uo (u.step w).1 }) on];exact hS)) ?_
  rintro v H' ⟨rfl,h⟩
  simp only[↓DD,UU]
  exact h
 |cm u=>
  obtain⟨g1,g2,-⟩:=ht.cm u em
  rw[em]at hS
  have ea:t.acc w=({ t with md:=.cm (u.step w).1 },(u.step w).2):=by unfold Re.acc;rw[if_pos e1,if_pos e2,em]
  simp only[r1,reC,on,pOn,hd,em,Md.uoV,Md.cmV,↓DD,UU,↓reduceIte,xA,xE]
  refine callT_of (c_cmstep g1 (fun _=>by rw[g2];exact hw) (hS.p6.p8.p8.p2)) ?_
  rintro v H' ⟨rfl,hS⟩
  simp only[↓DD,UU,xA,xE]
  have hS:=hS.mp7
  have e5:reB k kr kg km t=reB k kr kg km { t with md:=.cm (u.step w).1 }:=by unfold reB reC;rw[em];rfl
  rw[e5]at hS
  refine callT_of (settle _ _ _ kn kp km _ ea (by rw[re_on (t:={ t with md:=.cm (u.step w).1 }) on];exact hS)) ?_
  rintro v H' ⟨rfl,h⟩
  simp only[↓DD,UU]
  exact h
end
end Go.Proofs.YtkjpgikjcfhckaaGreat
set_option maxRecDepth 8000
namespace Go.Ma
namespace Re
end Re
end Go.Ma
namespace Go.Proofs.YtkjpgikjcfhckaaGreat
open Go Go.Ev Go.Pl Go.Ma

def t7T:Re:=Re.new ⟨3,1,0⟩ 0 0 100 0
def t7R:Nat→Int:=fun j=>if j=1 then putPg 3 1 0 else 0
def t7W:Wd:=rowW 52 t7R
section
variable {W:World} {H:Hp} {l:List Hp}
def t7I (k kr k2 kg b s:Nat) (l:List Hp) (F':Fr) (H':Hp):Prop:=
 ∃ (i kn kp km:Nat),i≤40∧gt F' 5=.int .i64 (i:Int)∧gt F' 3=.pointer (some ⟨b,0,none⟩)∧gt F' 4=.pointer (some ⟨k,0,none⟩) ∧
  Sep (reL k kr k2 kn kg kp km (its Re.step i t7T t7W).1 ++ wB b s (its Re.step i t7T t7W).2 :: wR s (its Re.step i t7T t7W).2 :: l) H'
end
end Go.Proofs.YtkjpgikjcfhckaaGreat
