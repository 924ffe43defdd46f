/-
 What the laws use of the shared words: filled, modelled, compared. Conditions: none.
-/
import Derived.Test.YtjhgpoajcopciaaGreatModel
import Derived.Test.YtjhgpoajcopciaaGreatCode
open Nat renaming reduceAdd→xA,reduceMul→xB,reduceSub→xC,reduceEqDiff→xD,reduceBEq→xE,reduceLeDiff→xF,reduceLT→xG
open Int renaming reduceAdd→xH,reduceMul→xI,reduceSub→xJ,reduceLT→xK,reduceLE→xL,reduceToNat→xM,reduceEq→xN,reduceNe→xO,reduceBEq→xP,reduceBNe→xQ
set_option linter.unusedVariables false
set_option linter.unusedSimpArgs false
set_option maxRecDepth 8000
namespace Go.Proofs.YtjhgpoajcopciaaGreat
open Go Go.Ev Go.Pl Go.Ma

def rowW (n:Nat) (ws:Nat→Int):Wd:={ Wd.zero n with ws:=fun j=>if j<n then ws j else 0 }

theorem LogOk.row (n:Nat) (ws:Nat→Int):LogOk none 0 (rowW n ws) fun _=>none:=⟨by simp [rowW,Wd.zero],by simp [rowW,Wd.zero],by simp [rowW,Wd.zero],.inl ⟨rfl,rfl,rfl⟩⟩

section
variable {W:World} {H h:Hp} {l:List Hp} {n cap:Nat} {a:Option Addr} {ws:Nat→Int}


def sameI (n:Nat) (a a':Option Addr) (cap cap':Nat) (L:List Hp) (F':Fr) (H':Hp):Prop:=
 ∃ i:Nat,i≤n∧gt F' 5=.int .i64 (i:Int)∧gt F' 0=.slice a n cap∧gt F' 1=.slice a' n cap'∧Sep L H'
theorem c_same {h':Hp} {a':Option Addr} {cap':Nat} {L:List Hp} (hr:RowU h a n ws) (hr':RowU h' a' n ws) (hn:n≤2000) (hS:Sep L H) (m1:h∈L) (m2:h'∈L) :
  CallP Tryz.prog W 13 #[.slice a n cap,.slice a' n cap'] H fun v H'=>v=.bool true∧Sep L H':=by
 refine CallP.of mixed Tryz.func13 tr13 (by show 2≤_;decide) fun W _=>?_
 have b0:((n:Int) != (n:Int))=false:=by simp
 simp only[b0,↓DD,UU,↓reduceIte,xA,xB,xC,xD,xE,xF,xG,xH,xI,xJ,xK,xL,xM,xN,xO,xP,xQ,ne_eq,eq_self]
 refine loop_intro (sameI n a a' cap cap' L) (fun F' _=>(n - iv (gt F' 5)).toNat) ⟨0,Nat.zero_le _,rfl,rfl,rfl,hS⟩ ?_
 rintro F' H' ⟨i,hi,e5,e0,e1,hS⟩
 by_cases hlt:i<n
 ·have g1:decide ((i:Int)<(n:Int))=true:=decide_eq_true (by omega)
  have g2:(0:Int)≤(i:Int):=by omega
  have g3:(i:Int)<(n:Int):=by omega
  have w1:w64 ((i:Int)+1)=((i+1:Nat):Int):=by rw[w64_eq (by omega) (by omega)];omega
  obtain⟨x,o,rfl,hrd⟩:=(hr.sub (hS.sb h m1)).at' hlt
  obtain⟨y,p,rfl,hrd'⟩:=(hr'.sub (hS.sb h' m2)).at' hlt
  have hne:(ws i != ws i)=false:=by simp
  simp only[e5,e0,e1,g1,g2,g3,hrd,hrd',hne,wrap_w64,w1,Int.toNat_natCast,↓DD,UU,↓reduceIte,xA,xB,xC,xD,xE,xF,xG,xH,xI,xJ,xK,xL,xM,xN,xO,xP,xQ,ne_eq,eq_self]
  exact⟨⟨i+1,hlt,rfl,by simp [gt,e0],by simp [gt,e1],hS⟩,by simp [gt,iv,e5];omega⟩
 ·have hin:i=n:=by omega
  subst hin
  have g1:decide ((i:Int)<(i:Int))=false:=decide_eq_false (by omega)
  simp only[e5,e0,e1,g1,↓DD,UU,↓reduceIte,xA,xB,xC,xD,xE,xF,xG,xH,xI,xJ,xK,xL,xM,xN,xO,xP,xQ,ne_eq,eq_self]
  exact hS
end

end Go.Proofs.YtjhgpoajcopciaaGreat
