/-
 TopTwins, walked: a world played beside another one. Conditions: none.
-/
import Derived.Test.YtjhgpoajcopciaaGreatCodeX
import Derived.Test.YtjhgpoajcopciaaGreatAskX
open Nat renaming reduceAdd→xA,reduceMul→xB,reduceSub→xC,reduceEqDiff→xD,reduceBEq→xE,reduceLeDiff→xF,reduceLT→xG
open Int renaming reduceAdd→xH,reduceMul→xI,reduceSub→xJ,reduceLT→xK,reduceLE→xL,reduceToNat→xM,reduceEq→xN,reduceNe→xO,reduceBEq→xP,reduceBNe→xQ
set_option linter.unusedVariables false
set_option linter.unusedSectionVars false
set_option linter.unusedSimpArgs false
set_option maxRecDepth 8000
namespace Go.Proofs.YtjhgpoajcopciaaGreat
open Go Go.Ev Go.Pl Go.Ma
theorem Rw.rdnat {α : Type} {f:α→List Value} {T:TypeId} {K:Nat} {a:Option Addr} {cap:Nat} {l:List α} {g H:Hp} (hf:∀ a,(f a).length=K) (h:Rw T K a l.length cap (l.flatMap f) g) (hs:Sub g H) {i:Nat} {e:α} (he:l[i]? = some e):∃ z,a=some ⟨z,0,none⟩∧rdn H z (i*K) K=some (f e).toArray:=by
 have hi:i<l.length:=(List.getElem?_eq_some_iff.1 he).1
 obtain⟨hl,⟨rfl,h0,rfl,rfl⟩|⟨z,c,rfl,rfl,h1,h2,h3⟩⟩:=h
 ·omega
 ·refine⟨z,rfl,?_⟩
  rw[rdn_of (hs z _ (sg_at _ _))]
  have hk:=Nat.mul_le_mul_right K h1
  have hk2:=Nat.mul_le_mul_right K (by omega:i+1≤l.length)
  rw[Nat.add_mul]at hk2
  rw[if_pos (by omega)]
  congr 1
  apply Array.ext_getElem?
  intro j
  have ra:((f e).toArray)[j]? = (f e)[j]?:=List.getElem?_toArray ..
  rw[Array.getElem?_extract,ra]
  by_cases hj:j<K
  ·rw[if_pos (by omega)]
   have:(c.extract 0 (l.length*K))[i*K+j]? = (l.flatMap f).toArray[i*K+j]?:=by rw[h3]
   rw[Array.getElem?_extract,if_pos (by omega),Nat.zero_add]at this
   rw[this,List.getElem?_toArray,fm_at hf l i j hj,he]
   rfl
  ·rw[if_neg (by omega),List.getElem?_eq_none (by rw[hf];omega)]
section
variable {W:World} {H g:Hp} {l P:List Hp} {k cap n b:Nat} {a:Option Addr} {sh:Sh} {X:Wo} {pv:Nat→Value} {c:Int} {o:Go.Ma.Op}
def twI (n:Nat) (a a':Option Addr) (cap cap':Nat) (L:List Hp) (F':Fr) (H':Hp):Prop:=
 ∃ i:Nat,i≤n∧gt F' 5=.int .i64 (i:Int)∧gt F' 0=.slice a n cap∧gt F' 1=.slice a' n cap'∧Sep L H'
theorem c_strace {h':Hp} {a':Option Addr} {cap':Nat} {L:List Hp} {tr:List Evt} (hr:EvR a cap tr g) (hr':EvR a' cap' tr h') (hn:tr.length≤1000000000) (hS:Sep L H) (m1:g∈L) (m2:h'∈L) :
  CallP Tryz.prog W 9 #[.slice a tr.length cap,.slice a' tr.length cap'] H fun v H'=>v=.bool true∧Sep L H':=by
 refine CallP.of mixed Tryz.func9 tr9 (by show 2≤_;decide) fun W _=>?_
 have b0:((tr.length:Int) != (tr.length:Int))=false:=by simp
 simp only[b0,↓DD,UU,↓reduceIte,xA,xB,xC,xD,xE,xF,xG,xH,xI,xJ,xK,xL,xM,xN,xO,xP,xQ,ne_eq,eq_self]
 refine loop_intro (twI tr.length a a' cap cap' L) (fun F' _=>(tr.length - iv (gt F' 5)).toNat) ⟨0,Nat.zero_le _,rfl,rfl,rfl,hS⟩ ?_
 rintro F' H' ⟨i,hi,e5,e0,e1,hS⟩
 by_cases hlt:i<tr.length
 ·have g1:decide ((i:Int)<(tr.length:Int))=true:=decide_eq_true (by omega)
  have g2:(0:Int)≤(i:Int):=by omega
  have g3:(i:Int)<(tr.length:Int):=by omega
  have w1:w64 ((i:Int)+1)=((i+1:Nat):Int):=by rw[w64_eq (by omega) (by omega)];omega
  have hx:tr[i]? = some tr[i]:=List.getElem?_eq_getElem hlt
  obtain⟨x,rfl,hrd⟩:=Rw.rdnat (f:=evV) (K:=8) (fun _=>rfl) hr (hS.sb g m1) hx
  obtain⟨y,rfl,hrd'⟩:=Rw.rdnat (f:=evV) (K:=8) (fun _=>rfl) hr' (hS.sb h' m2) hx
  have hq:eqL [(0,false),(1,false),(2,false),(3,false),(4,false),(5,false),(6,false),(7,false)] (evV tr[i]).toArray (evV tr[i]).toArray=some true:=by
   simp [eqL,eqS,evV]
  simp only[e5,e0,e1,g1,g2,g3,hrd,hrd',hq,wrap_w64,w1,Int.toNat_natCast,↓DD,UU,↓reduceIte,xA,xB,xC,xD,xE,xF,xG,xH,xI,xJ,xK,xL,xM,xN,xO,xP,xQ,ne_eq,eq_self]
  exact⟨⟨i+1,hlt,rfl,by simp [gt,e0],by simp [gt,e1],hS⟩,by simp [gt,iv,e5];omega⟩
 ·have hin:i=tr.length:=by omega
  subst hin
  have g1:decide ((tr.length:Int)<(tr.length:Int))=false:=decide_eq_false (by omega)
  simp only[e5,e0,e1,g1,↓DD,UU,↓reduceIte,xA,xB,xC,xD,xE,xF,xG,xH,xI,xJ,xK,xL,xM,xN,xO,xP,xQ,ne_eq,eq_self]
  exact hS
theorem c_ssteps {h':Hp} {a':Option Addr} {cap':Nat} {L:List Hp} {tr:List Acs} (hr:AcR a cap tr g) (hr':AcR a' cap' tr h') (hn:tr.length≤1000000000) (hS:Sep L H) (m1:g∈L) (m2:h'∈L) :
  CallP Tryz.prog W 11 #[.slice a tr.length cap,.slice a' tr.length cap'] H fun v H'=>v=.bool true∧Sep L H':=by
 refine CallP.of mixed Tryz.func11 tr11 (by show 2≤_;decide) fun W _=>?_
 have b0:((tr.length:Int) != (tr.length:Int))=false:=by simp
 simp only[b0,↓DD,UU,↓reduceIte,xA,xB,xC,xD,xE,xF,xG,xH,xI,xJ,xK,xL,xM,xN,xO,xP,xQ,ne_eq,eq_self]
 refine loop_intro (twI tr.length a a' cap cap' L) (fun F' _=>(tr.length - iv (gt F' 5)).toNat) ⟨0,Nat.zero_le _,rfl,rfl,rfl,hS⟩ ?_
 rintro F' H' ⟨i,hi,e5,e0,e1,hS⟩
 by_cases hlt:i<tr.length
 ·have g1:decide ((i:Int)<(tr.length:Int))=true:=decide_eq_true (by omega)
  have g2:(0:Int)≤(i:Int):=by omega
  have g3:(i:Int)<(tr.length:Int):=by omega
  have w1:w64 ((i:Int)+1)=((i+1:Nat):Int):=by rw[w64_eq (by omega) (by omega)];omega
  have hx:tr[i]? = some tr[i]:=List.getElem?_eq_getElem hlt
  obtain⟨x,rfl,hrd⟩:=Rw.rdnat (f:=acV) (K:=6) (fun _=>rfl) hr (hS.sb g m1) hx
  obtain⟨y,rfl,hrd'⟩:=Rw.rdnat (f:=acV) (K:=6) (fun _=>rfl) hr' (hS.sb h' m2) hx
  have hq:eqL [(0,false),(1,false),(2,false),(3,false),(4,false),(5,true)] (acV tr[i]).toArray (acV tr[i]).toArray=some true:=by
   simp [eqL,eqS,acV]
  simp only[e5,e0,e1,g1,g2,g3,hrd,hrd',hq,wrap_w64,w1,Int.toNat_natCast,↓DD,UU,↓reduceIte,xA,xB,xC,xD,xE,xF,xG,xH,xI,xJ,xK,xL,xM,xN,xO,xP,xQ,ne_eq,eq_self]
  exact⟨⟨i+1,hlt,rfl,by simp [gt,e0],by simp [gt,e1],hS⟩,by simp [gt,iv,e5];omega⟩
 ·have hin:i=tr.length:=by omega
  subst hin
  have g1:decide ((tr.length:Int)<(tr.length:Int))=false:=decide_eq_false (by omega)
  simp only[e5,e0,e1,g1,↓DD,UU,↓reduceIte,xA,xB,xC,xD,xE,xF,xG,xH,xI,xJ,xK,xL,xM,xN,xO,xP,xQ,ne_eq,eq_self]
  exact hS
theorem rot3 {A B C l:List Hp} {H:Hp} (h:Sep (A ++ (B ++ (C ++ l))) H):Sep (C ++ (A ++ (B ++ l))) H:=by
 rw[← List.append_assoc]at h
 have h2:Sep (C ++ ((A ++ B) ++ l)) H:=Sep.over (X:=A ++ B) (L:=C) h
 rw[List.append_assoc]at h2
 exact h2
def ttI (sh:Sh) (a a2:Option Addr) (n cap n2 cap2 ku kv kw:Nat) (L:List Hp) (F':Fr) (H':Hp):Prop:=
 ∃ (i:Nat) (U V:Wo) (pu pv pw:Nat→Value) (P1 P2 P3:List Hp),i≤max n n2∧(gt F' 13=.int .i64 (i:Int)∧gt F' 1=.slice a n cap∧gt F' 2=.slice a2 n2 cap2∧gt F' 7=.pointer (some ⟨ku,0,none⟩)∧gt F' 9=.pointer (some ⟨kv,0,none⟩)∧gt F' 11=.pointer (some ⟨kw,0,none⟩)) ∧
  (U.wf∧V.wf∧U.s=sh∧V.s=sh∧U.tr.length≤3*i∧V.tr.length≤3*i∧U.sp.length≤i∧V.sp.length≤i) ∧
  (WoP ku pu U P1∧WoP kv pv V P2∧WoP kw pw U P3)∧Sep (P1 ++ (P3 ++ (P2 ++ L))) H'
theorem c_toptwins {n2 cap2:Nat} {a2:Option Addr} {ch ch2:Nat→Chr} (hn:n≤9223372036854775807) (hr:RowC g a n ch) (hn2:n2≤9223372036854775807) (hr2:RowC g a2 n2 ch2) (hS:Sep (g :: l) H) :
  CallP Tryz.prog W 3 #[.agg #[.int .i64 sh.p,.int .i64 sh.c,.int .i64 sh.m],.slice a n cap,.slice a2 n2 cap2] H fun v H'=>v=.bool true∧Sep (g :: l) H':=by
 refine CallP.of mixed Tryz.func3 tr3 (by show 3≤_;decide) fun W _=>?_
 simp only[↓DD,UU,↓reduceIte,xA,xB,xC,xD,xE,xF,xG,xH,xI,xJ,xK,xL,xM,xN,xO,xP,xQ,ne_eq,eq_self]
 refine newB_intro fun x hx f1 f2=>?_
 have hS:=(hS.new f1 (.cells #[.int .i64 sh.p,.int .i64 sh.c,.int .i64 sh.m] 23 (0,0)))
 simp only[↓DD,UU,↓reduceIte,xA,xB,xC,xD,xE,xF,xG,xH,xI,xJ,xK,xL,xM,xN,xO,xP,xQ,ne_eq,eq_self]
 refine callT_of (c_awakeT hS) ?_
 rintro v H' ⟨rfl,hS⟩
 simp only[↓DD,UU,↓reduceIte,xA,xB,xC,xD,xE,xF,xG,xH,xI,xJ,xK,xL,xM,xN,xO,xP,xQ,ne_eq,eq_self]
 refine callT_of (c_few 800 hS) ?_
 rintro v H' ⟨rfl,hS⟩
 by_cases hle:n≤800
 rotate_left
 ·have g1:decide ((n:Int)≤800)=false:=decide_eq_false (by omega)
  simp only[g1,↓DD,UU,↓reduceIte,xA,xB,xC,xD,xE,xF,xG,xH,xI,xJ,xK,xL,xM,xN,xO,xP,xQ,ne_eq,eq_self]
  exact hS.tail
 have g1:decide ((n:Int)≤800)=true:=decide_eq_true (by omega)
 simp only[g1,↓DD,UU,↓reduceIte,xA,xB,xC,xD,xE,xF,xG,xH,xI,xJ,xK,xL,xM,xN,xO,xP,xQ,ne_eq,eq_self]
 refine callT_of (c_few 800 hS) ?_
 rintro v H' ⟨rfl,hS⟩
 by_cases hle2:n2≤800
 rotate_left
 ·have g1:decide ((n2:Int)≤800)=false:=decide_eq_false (by omega)
  simp only[g1,↓DD,UU,↓reduceIte,xA,xB,xC,xD,xE,xF,xG,xH,xI,xJ,xK,xL,xM,xN,xO,xP,xQ,ne_eq,eq_self]
  exact hS.tail
 have g1:decide ((n2:Int)≤800)=true:=decide_eq_true (by omega)
 have hx1:=hS.look
 have r1:=fun o n=>rdn_of hx1 o n
 simp only[g1,hx1,r1,↓DD,UU,↓reduceIte,xA,xB,xC,xD,xE,xF,xG,xH,xI,xJ,xK,xL,xM,xN,xO,xP,xQ,ne_eq,eq_self]
 cases hm:may sh.p sh.c sh.m
 ·refine callT_of (c_begin_no hm hS) ?_
  rintro v H' ⟨rfl,hS⟩
  have hx1:=hS.look
  have r1:=fun o n=>rdn_of hx1 o n
  simp only[hx1,r1,↓DD,UU,↓reduceIte,xA,xB,xC,xD,xE,xF,xG,xH,xI,xJ,xK,xL,xM,xN,xO,xP,xQ,ne_eq,eq_self]
  refine callT_of (c_begin_no hm hS) ?_
  rintro v H' ⟨rfl,hS⟩
  have hx1:=hS.look
  have r1:=fun o n=>rdn_of hx1 o n
  simp only[hx1,r1,↓DD,UU,↓reduceIte,xA,xB,xC,xD,xE,xF,xG,xH,xI,xJ,xK,xL,xM,xN,xO,xP,xQ,ne_eq,eq_self]
  refine callT_of (c_begin_no hm hS) ?_
  rintro v H' ⟨rfl,hS⟩
  simp only[↓DD,UU,↓reduceIte,xA,xB,xC,xD,xE,xF,xG,xH,xI,xJ,xK,xL,xM,xN,xO,xP,xQ,ne_eq,eq_self]
  exact hS.tail
 have hb:=(may_iff _ _ _).1 hm
 obtain⟨N,hN⟩:∃ N:Nat,(N:Int)=words sh.p sh.c sh.m:=⟨(words sh.p sh.c sh.m).toNat,by have:=words_le hm;omega⟩
 refine callT_of (c_begin hm hN hS) ?_
 rintro v H' ⟨ku,ju,pu,P1,rfl,hP1,hS⟩
 have hx1:=hS.outL.look
 have r1:=fun o n=>rdn_of hx1 o n
 simp only[hx1,r1,↓DD,UU,↓reduceIte,xA,xB,xC,xD,xE,xF,xG,xH,xI,xJ,xK,xL,xM,xN,xO,xP,xQ,ne_eq,eq_self]
 refine callT_of (c_begin hm hN hS) ?_
 rintro v H' ⟨kv,jv,pv,P2,rfl,hP2,hS⟩
 have hx1:=hS.dropF.outL.look
 have r1:=fun o n=>rdn_of hx1 o n
 simp only[hx1,r1,↓DD,UU,↓reduceIte,xA,xB,xC,xD,xE,xF,xG,xH,xI,xJ,xK,xL,xM,xN,xO,xP,xQ,ne_eq,eq_self]
 refine callT_of (c_begin hm hN hS) ?_
 rintro v H' ⟨kw,jw,pw,P3,rfl,hP3,hS⟩
 have hS:=rot3 hS
 have hw:(Wo.new sh (Wd.zero N)).wf:=Wo.new_wf hm hN
 simp only[↓DD,UU,↓reduceIte,xA,xB,xC,xD,xE,xF,xG,xH,xI,xJ,xK,xL,xM,xN,xO,xP,xQ,ne_eq,eq_self]
 refine loop_intro (ttI sh a a2 n cap n2 cap2 ku kv kw (sg x (.cells #[.int .i64 sh.p,.int .i64 sh.c,.int .i64 sh.m] 23 (0,0)) :: g :: l)) (fun F' _=>(max (n:Int) n2 - iv (gt F' 13)).toNat) ⟨0,_,_,pu,pv,pw,P1,P2,P3,by omega,⟨rfl,rfl,rfl,rfl,rfl,rfl⟩,⟨hw,hw,rfl,rfl,by show 0≤_;omega,by show 0≤_;omega,by show 0≤_;omega,by show 0≤_;omega⟩,⟨hP1,hP2,hP3⟩,hS⟩ ?_
 clear hS hx1 r1
 rintro F' H' ⟨i,U,V,pu,pv,pw,P1,P2,P3,hi,⟨e13,e1,e2,e7,e9,e11⟩,⟨hU,hV,hUs,hVs,tu,tv,su,sv⟩,⟨hP1,hP2,hP3⟩,hS⟩
 have mxe:(if(n2:Int) > (n:Int) then(n2:Int) else n)=max (n:Int) n2:=by split<;>omega
 by_cases hlt:i<max n n2
 rotate_left
 ·have d1:decide ((i:Int)<max (n:Int) n2)=false:=decide_eq_false (by omega)
  simp only[e13,e1,e2,mxe,d1,↓DD,UU,↓reduceIte,xA,xB,xC,xD,xE,xF,xG,xH,xI,xJ,xK,xL,xM,xN,xO,xP,xQ,ne_eq,eq_self]
  rw[e7]
  refine callT_of (c_trace (by omega) hP1 hS) ?_
  rintro v H' ⟨a3,cap3,g3,rfl,hE3,hS⟩
  simp only[e11,↓DD,UU,↓reduceIte,xA,xB,xC,xD,xE,xF,xG,xH,xI,xJ,xK,xL,xM,xN,xO,xP,xQ,ne_eq,eq_self]
  refine callT_of (c_trace (by omega) hP3 (Sep.over (X:=g3 :: P1) (L:=P3) hS)) ?_
  rintro v H' ⟨a4,cap4,g4,rfl,hE4,hS⟩
  simp only[↓DD,UU,↓reduceIte,xA,xB,xC,xD,xE,xF,xG,xH,xI,xJ,xK,xL,xM,xN,xO,xP,xQ,ne_eq,eq_self]
  refine callT_of (c_strace hE3 hE4 (by omega) hS (by simp) (by simp)) ?_
  rintro v H' ⟨rfl,hS⟩
  have hS:Sep (P1 ++ (P3 ++ (P2 ++ (sg x (.cells #[.int .i64 sh.p,.int .i64 sh.c,.int .i64 sh.m] 23 (0,0)) :: g :: l)))) H':=Sep.over (X:=P3) (L:=P1) (Sep.outL (L:=P3) (z:=g3) hS.tail).tail
  simp only[e7,↓DD,UU,↓reduceIte,xA,xB,xC,xD,xE,xF,xG,xH,xI,xJ,xK,xL,xM,xN,xO,xP,xQ,ne_eq,eq_self]
  refine callT_of (c_stepsW (by omega) hP1 hS) ?_
  rintro v H' ⟨a3,cap3,g3,rfl,hE3,hS⟩
  simp only[e11,↓DD,UU,↓reduceIte,xA,xB,xC,xD,xE,xF,xG,xH,xI,xJ,xK,xL,xM,xN,xO,xP,xQ,ne_eq,eq_self]
  refine callT_of (c_stepsW (by omega) hP3 (Sep.over (X:=g3 :: P1) (L:=P3) hS)) ?_
  rintro v H' ⟨a4,cap4,g4,rfl,hE4,hS⟩
  simp only[↓DD,UU,↓reduceIte,xA,xB,xC,xD,xE,xF,xG,xH,xI,xJ,xK,xL,xM,xN,xO,xP,xQ,ne_eq,eq_self]
  refine callT_of (c_ssteps hE3 hE4 (by omega) hS (by simp) (by simp)) ?_
  rintro v H' ⟨rfl,hS⟩
  have hS:Sep (P1 ++ (P3 ++ (P2 ++ (sg x (.cells #[.int .i64 sh.p,.int .i64 sh.c,.int .i64 sh.m] 23 (0,0)) :: g :: l)))) H':=Sep.over (X:=P3) (L:=P1) (Sep.outL (L:=P3) (z:=g3) hS.tail).tail
  simp only[e7,↓DD,UU,↓reduceIte,xA,xB,xC,xD,xE,xF,xG,xH,xI,xJ,xK,xL,xM,xN,xO,xP,xQ,ne_eq,eq_self]
  refine callT_of (c_wordsW hU hP1 hS) ?_
  rintro v H' ⟨a3,cap3,g3,rfl,hE3,hS⟩
  simp only[e11,↓DD,UU,↓reduceIte,xA,xB,xC,xD,xE,xF,xG,xH,xI,xJ,xK,xL,xM,xN,xO,xP,xQ,ne_eq,eq_self]
  refine callT_of (c_wordsW hU hP3 (Sep.over (X:=g3 :: P1) (L:=P3) hS)) ?_
  rintro v H' ⟨a4,cap4,g4,rfl,hE4,hS⟩
  simp only[↓DD,UU,↓reduceIte,xA,xB,xC,xD,xE,xF,xG,xH,xI,xJ,xK,xL,xM,xN,xO,xP,xQ,ne_eq,eq_self]
  refine callT_of (c_same hE3 hE4 (U.n_le hU) hS (by simp) (by simp)) ?_
  rintro v H' ⟨rfl,hS⟩
  have hS:Sep (P1 ++ (P3 ++ (P2 ++ (sg x (.cells #[.int .i64 sh.p,.int .i64 sh.c,.int .i64 sh.m] 23 (0,0)) :: g :: l)))) H':=Sep.over (X:=P3) (L:=P1) (Sep.outL (L:=P3) (z:=g3) hS.tail).tail
  simp only[↓DD,UU,↓reduceIte,xA,xB,xC,xD,xE,xF,xG,xH,xI,xJ,xK,xL,xM,xN,xO,xP,xQ,ne_eq,eq_self]
  exact hS.dropF.dropF.dropF.tail
 have d1:decide ((i:Int)<max (n:Int) n2)=true:=decide_eq_true (by omega)
 have i0:(0:Int)≤(i:Int):=by omega
 have wi:w64 ((i:Int)+1)=(i:Int)+1:=w64_eq (by omega) (by omega)
 simp only[e13,e1,e2,mxe,d1,↓DD,UU,↓reduceIte,xA,xB,xC,xD,xE,xF,xG,xH,xI,xJ,xK,xL,xM,xN,xO,xP,xQ,ne_eq,eq_self]
 by_cases h2:i<n2
 have d2:decide ((i:Int)<(n2:Int))=true:=decide_eq_true (by omega)
 have l2:(i:Int)<(n2:Int):=by omega
 obtain⟨b2,o2,ea2,hrd⟩:=(hr2.sub (hS.dropF.dropF.dropF.sb g (by simp))).at' h2
 have e2':gt F' 2=.slice (some ⟨b2,o2,none⟩) n2 cap2:=by rw[e2,ea2]
 simp only[d2,i0,l2,e13,e1,e2',e9,hrd,Int.toNat_natCast,↓DD,UU,↓reduceIte,xA,xB,xC,xD,xE,xF,xG,xH,xI,xJ,xK,xL,xM,xN,xO,xP,xQ,ne_eq,eq_self]
 refine callT_of (c_choice _ (rot3 hS)) ?_
 rintro v H' ⟨rfl,hS⟩
 simp only[↓DD,UU,↓reduceIte,xA,xB,xC,xD,xE,xF,xG,xH,xI,xJ,xK,xL,xM,xN,xO,xP,xQ,ne_eq,eq_self]
 refine callT_of (c_wdo (x:=chq V.s (ch2 i)) (bias:=(ch2 i).b) hV hP2 rfl (by omega) (by omega) hS) ?_
 rintro v H' ⟨rfl,pv,P2,hP2,-,hS⟩
 have hS:=rot3 (rot3 hS)
 have lV:=Wo.act_len (W:=V) (x:=chq V.s (ch2 i))
 have hVs:=(Wo.act_s (W:=V) (x:=chq V.s (ch2 i))).trans hVs
 have hV:=Wo.act_wf hV (chq_fit hV (ch2 i))
 have tv:(V.act (chq V.s (ch2 i))).1.tr.length≤3*(i+1):=by omega
 have sv:(V.act (chq V.s (ch2 i))).1.sp.length≤i+1:=by omega
 generalize (V.act (chq V.s (ch2 i))).1=V at hP2 hVs hV tv sv
 simp only[↓DD,UU,↓reduceIte,xA,xB,xC,xD,xE,xF,xG,xH,xI,xJ,xK,xL,xM,xN,xO,xP,xQ,ne_eq,eq_self]
 rotate_left
 have d2:decide ((i:Int)<(n2:Int))=false:=decide_eq_false (by omega)
 have tv:V.tr.length≤3*(i+1):=by omega
 have sv:V.sp.length≤i+1:=by omega
 simp only[d2,e13,e1,e2,↓DD,UU,↓reduceIte,xA,xB,xC,xD,xE,xF,xG,xH,xI,xJ,xK,xL,xM,xN,xO,xP,xQ,ne_eq,eq_self]
 all_goals by_cases h1:i<n
 all_goals first
  |have d3:decide ((i:Int)<(n:Int))=true:=decide_eq_true (by omega)
   have l1:(i:Int)<(n:Int):=by omega
   obtain⟨b1,o1,ea1,hrd1⟩:=hr.at' h1
   obtain⟨c1,T1,q1,hb1,hx1⟩:=rdn_blk hrd1
   have hsub:=hS.dropF.dropF.dropF.sb g (by simp)
   have hb:=hsub _ _ hb1
   have hsz:(o1+i*6+6≤c1.size)=True:=by
    split at hx1
    ·rename_i h;exact eq_true h
    ·cases hx1
   have hex:c1.extract (o1+i*6) (o1+i*6+6)=cv (ch i):=by
    rw[if_pos (of_eq_true hsz)]at hx1
    injection hx1
   have r1:=rdn_sub hrd1 hsub
   have e1':gt F' 1=.slice (some ⟨b1,o1,none⟩) n cap:=by rw[e1,ea1]
   refine draw_intro [(b1,c1,[])] (by simp only[hb,↓DD,UU,↓reduceIte,xA,xB,xC,xD,xE,xF,xG,xH,xI,xJ,xK,xL,xM,xN,xO,xP,xQ,ne_eq,eq_self]) ?_
   simp only[d3,i0,l1,e13,e1',e7,e11,r1,hsz,hex,Int.toNat_natCast,↓DD,UU,↓reduceIte,xA,xB,xC,xD,xE,xF,xG,xH,xI,xJ,xK,xL,xM,xN,xO,xP,xQ,ne_eq,eq_self]
   refine callT_of (c_choice _ hS) ?_
   rintro v H' ⟨rfl,hS⟩
   have hb:=hS.dropF.dropF.dropF.sb g (by simp) _ _ hb1
   refine⟨by simp only[hb,↓DD,UU,↓reduceIte,xA,xB,xC,xD,xE,xF,xG,xH,xI,xJ,xK,xL,xM,xN,xO,xP,xQ,ne_eq,eq_self],?_⟩
   simp only[↓DD,UU,↓reduceIte,xA,xB,xC,xD,xE,xF,xG,xH,xI,xJ,xK,xL,xM,xN,xO,xP,xQ,ne_eq,eq_self]
   refine callT_of (c_wdo (x:=chq U.s (ch i)) (bias:=(ch i).b) hU hP1 rfl (by omega) (by omega) hS) ?_
   rintro v H' ⟨rfl,pu,Q1,hQ1,-,hS⟩
   have hb:=hS.dropF.dropF.dropF.sb g (by simp) _ _ hb1
   refine⟨by simp only[hb,↓DD,UU,↓reduceIte,xA,xB,xC,xD,xE,xF,xG,xH,xI,xJ,xK,xL,xM,xN,xO,xP,xQ,ne_eq,eq_self],?_⟩
   simp only[↓DD,UU,↓reduceIte,xA,xB,xC,xD,xE,xF,xG,xH,xI,xJ,xK,xL,xM,xN,xO,xP,xQ,ne_eq,eq_self]
   refine callT_of (c_choice _ (rot3 (rot3 hS))) ?_
   rintro v H' ⟨rfl,hS⟩
   have hb:=hS.dropF.dropF.dropF.sb g (by simp) _ _ hb1
   refine⟨by simp only[hb,↓DD,UU,↓reduceIte,xA,xB,xC,xD,xE,xF,xG,xH,xI,xJ,xK,xL,xM,xN,xO,xP,xQ,ne_eq,eq_self],?_⟩
   simp only[↓DD,UU,↓reduceIte,xA,xB,xC,xD,xE,xF,xG,xH,xI,xJ,xK,xL,xM,xN,xO,xP,xQ,ne_eq,eq_self]
   refine callT_of (c_wdo (x:=chq U.s (ch i)) (bias:=(ch i).b) hU hP3 rfl (by omega) (by omega) hS) ?_
   rintro v H' ⟨rfl,pw,Q3,hQ3,-,hS⟩
   have hb:=hS.dropF.dropF.dropF.sb g (by simp) _ _ hb1
   refine⟨by simp only[hb,↓DD,UU,↓reduceIte,xA,xB,xC,xD,xE,xF,xG,xH,xI,xJ,xK,xL,xM,xN,xO,xP,xQ,ne_eq,eq_self],?_⟩
   have hS:=rot3 hS
   have lU:=Wo.act_len (W:=U) (x:=chq U.s (ch i))
   have hUs:=(Wo.act_s (W:=U) (x:=chq U.s (ch i))).trans hUs
   have hU:=Wo.act_wf hU (chq_fit hU (ch i))
   have dne:((U.act (chq U.s (ch i))).2 != (U.act (chq U.s (ch i))).2)=false:=bne_self_eq_false' ..
   simp only[dne,e13,wi,wrap_w64,↓DD,UU,↓reduceIte,xA,xB,xC,xD,xE,xF,xG,xH,xI,xJ,xK,xL,xM,xN,xO,xP,xQ,ne_eq,eq_self]
   refine⟨⟨i+1,_,V,pu,pv,pw,Q1,P2,Q3,by omega,⟨rfl,e1,e2,e7,e9,e11⟩,⟨hU,hV,hUs,hVs,by omega,tv,by omega,sv⟩,⟨hQ1,hP2,hQ3⟩,hS⟩,?_⟩
   show(_ - ((i:Int)+1)).toNat<(_ - (i:Int)).toNat
   omega
  |have d3:decide ((i:Int)<(n:Int))=false:=decide_eq_false (by omega)
   refine draw_intro [] (by simp only[↓DD,UU,↓reduceIte,xA,xB,xC,xD,xE,xF,xG,xH,xI,xJ,xK,xL,xM,xN,xO,xP,xQ,ne_eq,eq_self]) ?_
   simp only[d3,e13,e1,wi,wrap_w64,↓DD,UU,↓reduceIte,xA,xB,xC,xD,xE,xF,xG,xH,xI,xJ,xK,xL,xM,xN,xO,xP,xQ,ne_eq,eq_self]
   refine⟨⟨i+1,U,V,pu,pv,pw,P1,P2,P3,by omega,⟨rfl,e1,e2,e7,e9,e11⟩,⟨hU,hV,hUs,hVs,by omega,tv,by omega,sv⟩,⟨hP1,hP2,hP3⟩,hS⟩,?_⟩
   show(_ - ((i:Int)+1)).toNat<(_ - (i:Int)).toNat
   omega
theorem l_toptwins {W:World} {n2 cap2:Nat} {a2:Option Addr} {ch ch2:Nat→Chr} (p c m:Int) (_:-9223372036854775808≤p∧p≤9223372036854775807) (_:-9223372036854775808≤c∧c≤9223372036854775807) (_:-9223372036854775808≤m∧m≤9223372036854775807) (hn:n≤9223372036854775807) (hr:RowC (memOf W) a n ch) (hn2:n2≤9223372036854775807) (hr2:RowC (memOf W) a2 n2 ch2) :
  CallP Tryz.prog W 3 #[.agg #[.int .i64 p,.int .i64 c,.int .i64 m],.slice a n cap,.slice a2 n2 cap2] (memOf W) fun v H'=>v=.bool true∧Sub (memOf W) H':=
 (c_toptwins (sh:=⟨p,c,m⟩) hn hr hn2 hr2 (Sep.one _)).mono fun v H' ⟨h1,h2⟩=>⟨h1,h2.head⟩
end
end Go.Proofs.YtjhgpoajcopciaaGreat
