/-
 Chapter 18's awake: who lives is not adopted, who is dead is. Conditions: none.
-/
import Derived.Test.YtbcdaglbdnkocaaGreatCodeX
import Derived.Test.YtbcdaglbdnkocaaGreatAdoptS
import Derived.Test.YtbcdaglbdnkocaaGreatMaSo
import Derived.Test.YtbcdaglbdnkocaaGreatRowA
open Nat renaming reduceAdd→xA,reduceMul→xB,reduceSub→xC,reduceEqDiff→xD,reduceBEq→xE,reduceLeDiff→xF,reduceLT→xG
open Int renaming reduceAdd→xH,reduceMul→xI,reduceSub→xJ,reduceLT→xK,reduceLE→xL,reduceToNat→xM,reduceEq→xN,reduceNe→xO,reduceBEq→xP,reduceBNe→xQ
set_option linter.unusedVariables false
set_option linter.unusedSimpArgs false
set_option maxRecDepth 8000
namespace Go.Proofs.YtbcdaglbdnkocaaGreat
open Go Go.Ev Go.Pl Go.Ma

def akT:Ad:=Ad.new ⟨1,2,1⟩ 0 1
def akR:Nat→Int:=fun j=>if j=1 then putSt 1 0 else if j=0 then putSt 1 0 else 0
def akW:Wd:=rowW 21 akR
def akV:Wd:=(akT.step akW).2.put 1 (putSt 2 0)
theorem ak_of:akW.of ⟨1,2,1⟩:=⟨by decide,fun i=>by
 show U (if _ then(if _ then _ else if _ then _ else _) else _)
 split
 ·split
  ·exact U_putSt ..
  ·split
   ·exact U_putSt ..
   ·exact U_0
 ·exact U_0⟩
theorem ak_of2:akV.of ⟨1,2,1⟩:=Wd.of_put (Ad.step_of ak_of) (U_putSt ..) _
theorem ak_end:(akT.step akW).1.dn=true∧(akT.step akW).1.err=5∧(its Ad.step 60 akT akV).1.dn=true∧(its Ad.step 60 akT akV).1.err=0∧(its Ad.step 60 akT akV).2.get 1=putSt 4 0∧(its Ad.step 60 akT akV).2.n=21∧(akT.step akW).2.n=21:=by decide +kernel

section
variable {W:World} {H:Hp} {l:List Hp}
def akI (ka kb b s:Nat) (l:List Hp) (F':Fr) (H':Hp):Prop:=
 ∃ i:Nat,i≤60∧gt F' 6=.int .i64 (i:Int)∧gt F' 3=.pointer (some ⟨b,0,none⟩)∧gt F' 4=.pointer (some ⟨ka,0,none⟩)∧gt F' 5=.pointer (some ⟨kb,0,none⟩) ∧
  Sep (adB kb (its Ad.step i akT akV).1 :: wB b s (its Ad.step i akT akV).2 :: wR s (its Ad.step i akT akV).2 :: adB ka (akT.step akW).1 :: l) H'
theorem c_awake18 (hS:Sep l H):CallP Tryz.prog W 4 #[] H fun v H'=>v=.bool true∧Sep l H':=by
 refine CallP.of mixed Tryz.func4 tr4 (by show 0≤_;decide) fun W _=>?_
 have e1:words 1 2 1=21:=by decide
 simp only[↓DD,UU,↓reduceIte,xA,xB,xC,xD,xE,xF,xG,xH,xI,xJ,xK,xL,xM,xN,xO,xP,xQ,ne_eq,eq_self]
 refine newB_intro fun x hx f1 f2=>?_
 simp only[u_words,e1,↓DD,UU,↓reduceIte,xA,xB,xC,xD,xE,xF,xG,xH,xI,xJ,xK,xL,xM,xN,xO,xP,xQ,ne_eq,eq_self]
 have hS1:=hS.new f1 (.cells #[.int .i64 1,.int .i64 2,.int .i64 1] 23 (0,0))
 refine newB_intro fun y hy f3 f4=>?_
 have hS2:=hS1.new f3 (.cells (Array.replicate 21 (.int .u64 0)) 30 (0,0))
 have nxy:=hS2.qen 0 1 (by decide) rfl rfl
 have nyx:=hS2.neq 0 1 (by decide) rfl rfl
 simp only[nxy,nyx,urow_zero,urow_set,urow_size,u_putst,↓DD,UU,↓reduceIte,xA,xB,xC,xD,xE,xF,xG,xH,xI,xJ,xK,xL,xM,xN,xO,xP,xQ,ne_eq,eq_self]
 refine callT_of (c_fill (n:=21) (by decide) (RowU.own y 21 _ _ _) (hS1.new f3 _)) ?_
 rintro v H' ⟨b,s,rfl,hS⟩
 have hx:=hS.lk 3 rfl
 have r2:=fun o n=>rdn_of hx o n
 simp only[↓DD,UU,↓reduceIte,xA,xB,xC,xD,xE,xF,xG,xH,xI,xJ,xK,xL,xM,xN,xO,xP,xQ,ne_eq,eq_self]
 refine draw_intro [(x,#[.int .i64 1,.int .i64 2,.int .i64 1],[])] (by simp only[hx,↓DD,UU,↓reduceIte,xA,xB,xC,xD,xE,xF,xG,xH,xI,xJ,xK,xL,xM,xN,xO,xP,xQ,ne_eq,eq_self]) ?_
 simp only[hx,r2,↓DD,UU,↓reduceIte,xA,xB,xC,xD,xE,xF,xG,xH,xI,xJ,xK,xL,xM,xN,xO,xP,xQ,ne_eq,eq_self]
 refine callT_of (c_adnew (sh:=⟨1,2,1⟩) hS) ?_
 rintro v H' ⟨ka,rfl,hS⟩
 have hx:=hS.lk 4 rfl
 simp only[hx,↓DD,UU,↓reduceIte,xA,xB,xC,xD,xE,xF,xG,xH,xI,xJ,xK,xL,xM,xN,xO,xP,xQ,ne_eq,eq_self]
 refine callT_of (c_adnew (sh:=⟨1,2,1⟩) hS) ?_
 rintro v H' ⟨kb,rfl,hS⟩
 have hx:=hS.lk 5 rfl
 simp only[hx,↓DD,UU,↓reduceIte,xA,xB,xC,xD,xE,xF,xG,xH,xI,xJ,xK,xL,xM,xN,xO,xP,xQ,ne_eq,eq_self]
 have hwf:akT.wf:=Ad.new_wf ⟨1,2,1⟩ 0 1
 obtain⟨z1,z2,z3,z4,z5,z6,z7⟩:=ak_end
 have hS:Sep (adB ka akT :: wB b s akW :: wR s akW :: adB kb akT :: l) H':=by
  have:=(hS.p5.tail.p4.tail.r3)
  exact this
 refine callT_of (c_adstep hwf (fun _=>ak_of) hS) ?_
 rintro v H' ⟨rfl,hS⟩
 simp only[u_putst,↓DD,UU,↓reduceIte,xA,xB,xC,xD,xE,xF,xG,xH,xI,xJ,xK,xL,xM,xN,xO,xP,xQ,ne_eq,eq_self]
 refine callT_of (c_put 1 (putSt 2 0) (by decide) (by rw[z7];decide) hS.r2) ?_
 rintro v H' ⟨rfl,hS⟩
 simp only[↓DD,UU,↓reduceIte,xA,xB,xC,xD,xE,xF,xG,xH,xI,xJ,xK,xL,xM,xN,xO,xP,xQ,ne_eq,eq_self]
 refine loop_intro (akI ka kb b s l) (fun F' _=>(60 - iv (gt F' 6)).toNat) ⟨0,by decide,rfl,rfl,rfl,rfl,hS.p3⟩ ?_
 rintro F' H' ⟨i,hi,e6,e3,e4,e5,hS⟩
 obtain⟨h1,h2,h3,-⟩:=Ad.its_all hwf ak_of2 i
 by_cases hlt:i<60
 ·have g1:decide ((i:Int)<60)=true:=decide_eq_true (by omega)
  have w1:w64 ((i:Int)+1)=((i+1:Nat):Int):=by rw[w64_eq (by omega) (by omega)];omega
  simp only[e6,e3,e4,e5,g1,↓DD,UU,↓reduceIte,xA,xB,xC,xD,xE,xF,xG,xH,xI,xJ,xK,xL,xM,xN,xO,xP,xQ,ne_eq,eq_self]
  refine callT_of (c_adstep h1 (fun _=>by rw[h3];exact h2) hS) ?_
  rintro v H' ⟨rfl,hS⟩
  simp only[e6,e3,e4,e5,wrap_w64,w1,↓DD,UU,↓reduceIte,xA,xB,xC,xD,xE,xF,xG,xH,xI,xJ,xK,xL,xM,xN,xO,xP,xQ,ne_eq,eq_self]
  exact⟨⟨i+1,by omega,rfl,by simp [gt,e3],by simp [gt,e4],by simp [gt,e5],hS⟩,by simp [gt,iv,e6];omega⟩
 ·have hin:i=60:=by omega
  subst hin
  have g1:decide (((60:Nat):Int)<60)=false:=by decide
  simp only[e6,e3,e4,e5,g1,↓DD,UU,↓reduceIte,xA,xB,xC,xD,xE,xF,xG,xH,xI,xJ,xK,xL,xM,xN,xO,xP,xQ,ne_eq,eq_self]
  refine callT_of (c_addone hS.p3) ?_
  rintro v H' ⟨rfl,hS⟩
  simp only[e6,e3,e4,e5,z1,↓DD,UU,↓reduceIte,xA,xB,xC,xD,xE,xF,xG,xH,xI,xJ,xK,xL,xM,xN,xO,xP,xQ,ne_eq,eq_self]
  refine callT_of (c_aderr hS) ?_
  rintro v H' ⟨rfl,hS⟩
  simp only[e6,e3,e4,e5,z2,↓DD,UU,↓reduceIte,xA,xB,xC,xD,xE,xF,xG,xH,xI,xJ,xK,xL,xM,xN,xO,xP,xQ,ne_eq,eq_self]
  refine callT_of (c_addone hS.p1) ?_
  rintro v H' ⟨rfl,hS⟩
  simp only[e6,e3,e4,e5,z3,↓DD,UU,↓reduceIte,xA,xB,xC,xD,xE,xF,xG,xH,xI,xJ,xK,xL,xM,xN,xO,xP,xQ,ne_eq,eq_self]
  refine callT_of (c_aderr hS) ?_
  rintro v H' ⟨rfl,hS⟩
  simp only[e6,e3,e4,e5,z4,↓DD,UU,↓reduceIte,xA,xB,xC,xD,xE,xF,xG,xH,xI,xJ,xK,xL,xM,xN,xO,xP,xQ,ne_eq,eq_self]
  refine callT_of (c_look 1 (by decide) (by rw[z6];decide) hS.tail.tail) ?_
  rintro v H' ⟨rfl,hS⟩
  simp only[z5,u_putst,↓DD,UU,↓reduceIte,xA,xB,xC,xD,xE,xF,xG,xH,xI,xJ,xK,xL,xM,xN,xO,xP,xQ,ne_eq,eq_self]
  exact hS.tail.tail
end
end Go.Proofs.YtbcdaglbdnkocaaGreat
