/-
TopHeld, walked: how many words each one holds. Conditions: none.
-/
import Derived.Test.YtkjpgikjcfhckaaGreatCodeX
import Derived.Test.YtkjpgikjcfhckaaGreatAskX
import Derived.Test.YtkjpgikjcfhckaaGreatAwX
import Derived.Test.YtkjpgikjcfhckaaGreatMaT
import Derived.Test.YtkjpgikjcfhckaaGreatRefPack
import Derived.Test.YtkjpgikjcfhckaaGreatLawK
import Derived.Test.YtkjpgikjcfhckaaGreatCode
open Nat renaming reduceAdd→xA,reduceMul→xB,reduceSub→xC,reduceEqDiff→xD,reduceBEq→xE,reduceLeDiff→xF,reduceLT→xG
open Int renaming reduceAdd→xH,reduceMul→xI,reduceSub→xJ,reduceLT→xK,reduceLE→xL,reduceToNat→xM,reduceEq→xN,reduceNe→xO,reduceBEq→xP,reduceBNe→xQ
set_option linter.unusedVariables false
set_option linter.unusedSectionVars false
set_option linter.unusedSimpArgs false
set_option maxRecDepth 8000
namespace Go.Ma
open Go.Pl Ow
end Go.Ma
namespace Go.Proofs.YtkjpgikjcfhckaaGreat
open Go Go.Ev Go.Pl Go.Ma
section
variable {W:World} {H g:Hp} {l P:List Hp} {k cap n b:Nat} {a:Option Addr} {sh:Sh} {X:Wo} {pv:Nat→Value} {c:Int} {o:Go.Ma.Op}
theorem c_wstatW (hX:X.wf) (hP:WoP k pv X P) (c0:0≤c) (c1:c<X.s.c) (hS:Sep (P ++ l) H) :
  CallP Tryz.prog W 36 #[.pointer (some ⟨k,0,none⟩),.int .i64 c] H fun v H'=>v=.int .i64 (X.stk c)∧Sep (P ++ l) H':=by
 obtain⟨b,s,kc,C,ta,tc,tg,sa,sc,sg',g,hC,ht,hs,hk⟩:=hP
 have h1:¬ X.sat c<0:=by unfold Wo.sat;rw[status_yes hX.m c0 c1];omega
 have h2:=Wo.sat_in hX h1
 unfold Wo.sat at h2
 exact c_wstat hX.w (by omega) hS
def hdB (sh:Sh) (y:Nat) (own:Int→Int):Hp:=sg y (.cells (irow sh.c.toNat fun d=>own (d:Int)) 3 (0,0))
def thG (a:Option Addr) (n cap k x:Nat) (i:Nat) (F':Fr):Prop:=gt F' 7=.int .i64 (i:Int)∧gt F' 1=.slice a n cap∧gt F' 2=.pointer (some ⟨x,0,none⟩)∧gt F' 5=.pointer (some ⟨k,0,none⟩)
def shB (sh:Sh) (x:Nat):Hp:=sg x (.cells #[.int .i64 sh.p,.int .i64 sh.c,.int .i64 sh.m] 23 (0,0))
def thI (sh:Sh) (a:Option Addr) (n cap k x:Nat) (L:List Hp) (F':Fr) (H':Hp):Prop:=
 ∃ (i:Nat) (X:Wo) (pv:Nat→Value) (P:List Hp),i≤n∧thG a n cap k x i F' ∧
  (Ti X∧X.s=sh∧X.tr.length≤3*i∧X.sp.length≤i)∧WoP k pv X P∧Sep (P ++ (shB sh x :: L)) H'
def thA (sh:Sh) (ws:Nat→Int) (N:Nat) (a:Option Addr) (n cap k x y:Nat) (i:Nat) (a3:Option Addr) (cap3:Nat) (g3:Hp) (P L:List Hp) (F':Fr) (H':Hp):Prop:=
 ∃ q:Nat,(q:Int)≤sh.p*64∧thG a n cap k x i F'∧(gt F' 10=.int .i64 (q:Int)∧gt F' 8=.slice (some ⟨y,0,none⟩) sh.c.toNat sh.c.toNat∧gt F' 9=.slice a3 N cap3) ∧
  Sep (g3 :: hdB sh y (fun c=>Kt.sm (Kt.one c sh ws) q) :: (P ++ (shB sh x :: L))) H'
def thC (sh:Sh) (a:Option Addr) (n cap k x y:Nat) (i:Nat) (own:Int→Int) (P L:List Hp) (F':Fr) (H':Hp):Prop:=
 ∃ c:Nat,(c:Int)≤sh.c∧thG a n cap k x i F'∧(gt F' 13=.int .i64 (c:Int)∧gt F' 8=.slice (some ⟨y,0,none⟩) sh.c.toNat sh.c.toNat) ∧
  Sep (P ++ (hdB sh y own :: shB sh x :: L)) H'
end
end Go.Proofs.YtkjpgikjcfhckaaGreat
set_option maxRecDepth 8000
namespace Go.Proofs.YtkjpgikjcfhckaaGreat
open Go Go.Ev Go.Pl Go.Ma
section
variable {W:World} {H g:Hp} {l P:List Hp} {k cap n:Nat} {a:Option Addr} {sh:Sh} {X:Wo} {pv:Nat→Value} {c:Int} {o:Go.Ma.Op}
theorem Gr.ext {T:TypeId} {a:Option Addr} {n n' cap:Nat} {vs vs':Nat→Value} {g:Hp} (h:Gr T a n cap vs g) (en:n'=n) (e:∀ j,j<n→vs j=vs' j):Gr T a n' cap vs' g:=by
 subst en
 rcases h with h |⟨z,c,h1,h2,h3,h4,h5⟩
 ·exact .inl h
 ·exact .inr ⟨z,c,h1,h2,h3,h4,fun i hi=>by rw[h5 i hi,e i hi]⟩
def liveN (X:Wo) (n:Nat):List Nat:=(List.range n).filter fun d=>(X.k d).isSome
theorem liveN_yes {X:Wo} {n:Nat} (h:(X.k n).isSome=true):liveN X (n+1)=liveN X n ++ [n]:=by
 unfold liveN;rw[List.range_succ,List.filter_append];simp [h]
theorem liveN_no {X:Wo} {n:Nat} (h:(X.k n).isSome=false):liveN X (n+1)=liveN X n:=by
 unfold liveN;rw[List.range_succ,List.filter_append];simp [h]
theorem liveN_le (X:Wo) (n:Nat):(liveN X n).length≤n:=by
 unfold liveN
 exact Nat.le_trans (List.length_filter_le _ _) (by simp)
def lvV (X:Wo) (n:Nat):Nat→Value:=fun j=>.int .i64 (((liveN X n).getD j 0:Nat):Int)
theorem c_always (v:Value) (hS:Sep l H):CallP Tryz.prog W 99 #[v] H fun v H'=>v=.bool true∧Sep l H':=by
 refine CallP.of mixed Tryz.func99 tr99 (by show 1≤_;decide) fun W _=>?_
 simp only[↓DD,UU,↓reduceIte,xA,xB,xC,xD,xE,xF,xG,xH,xI,xJ,xK,xL,xM,xN,xO,xP,xQ,ne_eq]
 first | exact hS | exact⟨rfl,hS⟩
def whI (X:Wo) (kc C:Nat) (L:List Hp) (F':Fr) (H':Hp):Prop:=
 ∃ (i:Nat) (a:Option Addr) (cap:Nat) (g':Hp),i≤C∧gt F' 15=.int .i64 (i:Int)∧gt F' 13=.slice (some ⟨kc,0,none⟩) C C∧gt F' 14=.int .i64 (C:Int)∧gt F' 1=.func (.func 99) #[] #[] ∧
  gt F' 5=.slice a (liveN X i).length cap∧Gr 3 a (liveN X i).length cap (lvV X i) g'∧Sep (g' :: L) H'
set_option maxHeartbeats 2000000 in
theorem c_who (hX:X.wf) (hP:WoP k pv X P) (hS:Sep (P ++ l) H) :
  CallP Tryz.prog W 98 #[.pointer (some ⟨k,0,none⟩),.func (.func 99) #[] #[]] H fun v H'=>∃ a cap g',v=.slice a (liveN X X.s.c.toNat).length cap∧Gr 3 a (liveN X X.s.c.toNat).length cap (lvV X X.s.c.toNat) g'∧Sep (g' :: (P ++ l)) H':=by
 refine CallP.of mixed Tryz.func98 tr98 (by show 2≤_;decide) fun W _=>?_
 have hb:=(may_iff _ _ _).1 hX.m
 have q99:okFn Tryz.prog 99=true:=by kernel_rfl
 obtain⟨b,s,kc,C,ta,tc,tg,sa,sc,sg',g,hC,ht,hs,hk⟩:=hP
 have hCe:X.s.c.toNat=C:=by omega
 rw[hCe]
 have hS:Ev.Sep (woB k (woC X.s b kc C ta X.tr.length tc sa X.sp.length sc) :: wB b s X.w :: wR s X.w :: kcB kc C pv :: tg :: sg' :: (famL C g ++ l)) H:=hS
 have hk1:=hS.look
 have r0:=fun o=>rd_of hk1 o
 simp only[hk1,r0,woC,↓DD,UU,↓reduceIte,xA,xB,xC,xD,xE,xF,xG,xH,xI,xJ,xK,xL,xM,xN,xO,xP,xQ,ne_eq]
 refine loop_intro (whI X kc C (woB k (woC X.s b kc C ta X.tr.length tc sa X.sp.length sc) :: wB b s X.w :: wR s X.w :: kcB kc C pv :: tg :: sg' :: (famL C g ++ l))) (fun F' _=>((C:Int) - iv (gt F' 15)).toNat) ⟨0,none,0,_,by omega,by simp [gt],by simp [gt],by simp [gt],by simp [gt],by simp [gt,liveN],Gr.none _ _,hS.nothing⟩ ?_
 clear hS hk1 r0
 rintro F' H' ⟨i,a,cap,g',hi,e15,e13,e14,e1,e5,hG,hS⟩
 by_cases hlt:i<C
 rotate_left
 ·have d1:decide ((i:Int)<(C:Int))=false:=decide_eq_false (by omega)
  simp only[e15,e14,e5,d1,↓DD,UU,↓reduceIte,xA,xB,xC,xD,xE,xF,xG,xH,xI,xJ,xK,xL,xM,xN,xO,xP,xQ,ne_eq]
  have:i=C:=by omega
  subst this
  exact⟨a,cap,g',rfl,hG,hS⟩
 have d1:decide ((i:Int)<(C:Int))=true:=decide_eq_true (by omega)
 have i0:(0:Int)≤(i:Int):=by omega
 have l1:(i:Int)<(C:Int):=by omega
 have wi:w64 ((i:Int)+1)=(i:Int)+1:=w64_eq (by omega) (by omega)
 have hkc:=hS.lk 4 rfl
 have rk:=fun o=>rd_of hkc o
 have va:=vrow_at (f:=pv) hlt
 have hkd:=hk i hlt
 generalize hkp:g i=Pd at hkd
 generalize hpv:pv i=vi at hkd va
 generalize hkx:X.k i=xi at hkd
 cases hkd with
 |no=>
  have hn:=liveN_no (X:=X) (n:=i) (by rw[hkx];rfl)
  simp only[e15,e14,e13,e5,d1,i0,l1,hkc,rk,va,wi,wrap_w64,Int.toNat_natCast,↓DD,UU,↓reduceIte,xA,xB,xC,xD,xE,xF,xG,xH,xI,xJ,xK,xL,xM,xN,xO,xP,xQ,ne_eq]
  refine⟨⟨i+1,a,cap,g',by omega,by simp [gt],by simp [gt,e13],by simp [gt,e14],by simp [gt,e1],by rw[hn];simp [gt,e5],by unfold lvV;rw[hn];exact hG,hS⟩,?_⟩
  show(_ - ((i:Int)+1)).toNat<(_ - (i:Int)).toNat
  omega
 |yes kx x Px hx=>
  have hn:=liveN_yes (X:=X) (n:=i) (by rw[hkx];rfl)
  simp only[e15,e14,e13,e5,e1,d1,i0,l1,hkc,rk,va,q99,Int.toNat_natCast,↓DD,UU,↓reduceIte,xA,xB,xC,xD,xE,xF,xG,xH,xI,xJ,xK,xL,xM,xN,xO,xP,xQ,ne_eq]
  refine callT_of (c_always _ hS) ?_
  rintro v H' ⟨rfl,hS⟩
  simp only[e5,↓DD,UU,↓reduceIte,xA,xB,xC,xD,xE,xF,xG,xH,xI,xJ,xK,xL,xM,xN,xO,xP,xQ,ne_eq]
  refine newB_intro fun y hy f5 f6=>?_
  have hS2:=hS.new f5 (.cells #[.int .i64 (i:Int)] 3 (0,0))
  have ha:rds (upd H' y (.cells #[.int .i64 (i:Int)] 3 (0,0))) (some ⟨y,0,none⟩) 1=some #[.int .i64 (i:Int)]:=by
   simp only[rds,↓DD,UU,↓reduceIte,xA,xB,xC,xD,xE,xF,xG,xH,xI,xJ,xK,xL,xM,xN,xO,xP,xQ,ne_eq]
  simp only[e5,ha,Nat.mul_one,↓DD,UU,↓reduceIte,xA,xB,xC,xD,xE,xF,xG,xH,xI,xJ,xK,xL,xM,xN,xO,xP,xQ,ne_eq]
  have hll:=liveN_le X i
  refine grow (z0:=.int .i64 0) (bytes:=8) (v:=.int .i64 (i:Int)) hG rfl (by omega) (by decide) hS2.p1 (fun g2 H2 hG2 hS3=>?_) (fun old cap2' b2 hG2 hS3=>?_)
  all_goals
   simp only[e15,wi,wrap_w64,↓DD,UU,↓reduceIte,xA,xB,xC,xD,xE,xF,xG,xH,xI,xJ,xK,xL,xM,xN,xO,xP,xQ,ne_eq]
   have hl9:(liveN X (i+1)).length=(liveN X i).length+1:=by rw[hn];simp
   have hG3:=Gr.ext (vs':=lvV X (i+1)) hG2 hl9 fun j hj=>by
    unfold lvV
    rw[hn]
    (try dsimp only)
    by_cases z:j=(liveN X i).length
    ·rw[if_pos z,z]
     simp
    ·rw[if_neg z,List.getD_eq_getElem?_getD,List.getD_eq_getElem?_getD,List.getElem?_append_left (by omega)]
   refine⟨⟨i+1,_,_,_,by omega,by simp [gt],by simp [gt,e13],by simp [gt,e14],by simp [gt,e1],by rw[hl9];simp [gt],hG3,hS3.p1.tail⟩,?_⟩
   ·show(_ - ((i:Int)+1)).toNat<(_ - (i:Int)).toNat
    omega
theorem c_live (hX:X.wf) (hP:WoP k pv X P) (hS:Sep (P ++ l) H) :
  CallP Tryz.prog W 63 #[.pointer (some ⟨k,0,none⟩)] H fun v H'=>∃ a cap g',v=.slice a (liveN X X.s.c.toNat).length cap∧Gr 3 a (liveN X X.s.c.toNat).length cap (lvV X X.s.c.toNat) g'∧Sep (g' :: (P ++ l)) H':=by
 refine CallP.of mixed Tryz.func63 tr63 (by show 1≤_;decide) fun W _=>?_
 simp only[↓DD,UU,↓reduceIte,xA,xB,xC,xD,xE,xF,xG,xH,xI,xJ,xK,xL,xM,xN,xO,xP,xQ,ne_eq]
 refine callT_of (c_who hX hP hS) ?_
 rintro v H' ⟨a,cap,g',rfl,hG,hS⟩
 simp only[↓DD,UU,↓reduceIte,xA,xB,xC,xD,xE,xF,xG,xH,xI,xJ,xK,xL,xM,xN,xO,xP,xQ,ne_eq]
 exact⟨a,cap,g',rfl,hG,hS⟩
theorem restN_snoc (X:Wo) (l:List Nat) (d:Nat):Ti.restN X (l ++ [d])=(Ti.restN X l).go d (Ti.lot (Ti.restN X l)):=by
 unfold Ti.restN;rw[List.foldl_append];rfl
def qtF (a:Option Addr) (n cap k x:Nat) (c:Int) (F':Fr):Prop:=
 gt F' 0=.pointer (some ⟨k,0,none⟩)∧gt F' 2=.int .i64 c∧gt F' 4=.pointer (some ⟨x,0,none⟩)∧gt F' 6=.slice a n cap
def qtI (X:Wo) (A:List Nat) (a:Option Addr) (cap k x:Nat) (c:Int) (L:List Hp) (F':Fr) (H':Hp):Prop:=
 ∃ (i:Nat) (pv:Nat→Value) (P:List Hp),i≤A.length∧gt F' 7=.int .i64 (i:Int)∧qtF a A.length cap k x c F'∧((Ti.restN X (A.take i)).tr.length≤X.tr.length+24000*i∧(Ti.restN X (A.take i)).sp.length≤X.sp.length+8000*i) ∧
  WoP k pv (Ti.restN X (A.take i)) P∧Sep (P ++ L) H'
def qtJ (sh:Sh) (V0:Wo) (d S i n:Nat) (a:Option Addr) (cap k x:Nat) (c:Int) (L:List Hp) (F':Fr) (H':Hp):Prop:=
 ∃ (m:Nat) (V:Wo) (pv:Nat→Value) (P:List Hp),m≤S∧gt F' 8=.int .i64 (m:Int)∧gt F' 7=.int .i64 (i:Int)∧qtF a n cap k x c F'∧(V.wf∧V.s=sh∧V.go d (S - m)=V0.go d S∧V.tr.length≤V0.tr.length+3*m∧V.sp.length≤V0.sp.length+m∧∃ cl,V.k d=some cl) ∧
  WoP k pv V P∧Sep (P ++ L) H'
def qtK (c:Int) (V:Wo) (k x:Nat) (L:List Hp) (F':Fr) (H':Hp):Prop:=
 ∃ (n:Nat) (pv:Nat→Value) (P:List Hp),(n:Int)≤V.s.c∧gt F' 9=.int .i64 (n:Int)∧(gt F' 0=.pointer (some ⟨k,0,none⟩)∧gt F' 2=.int .i64 c∧gt F' 4=.pointer (some ⟨x,0,none⟩)) ∧
  ((Ti.adN c V n).tr.length≤V.tr.length+30000*n∧(Ti.adN c V n).sp.length≤V.sp.length+10000*n)∧WoP k pv (Ti.adN c V n) P∧Sep (P ++ L) H'
set_option maxHeartbeats 4000000 in
theorem c_quiet (hT:Ti X) {kc:Cl} (hc:X.k c.toNat=some kc) (c0:0≤c) (hP:WoP k pv X P) (hl:X.tr.length≤100000) (hl2:X.sp.length≤100000) (hS:Sep (P ++ l) H) :
  CallP Tryz.prog W 23 #[.pointer (some ⟨k,0,none⟩),.agg #[.int .i64 X.s.p,.int .i64 X.s.c,.int .i64 X.s.m],.int .i64 c] H fun v H'=>∃ pv' P',WoP k pv' (Ti.adN c (Ti.restN X (liveN X X.s.c.toNat)) X.s.c.toNat) P'∧Sep (P' ++ l) H':=by
 refine CallP.of mixed Tryz.func23 tr23 (by show 3≤_;decide) fun W _=>?_
 have hX:=hT.wf
 have hb:=(may_iff _ _ _).1 hX.m
 have hsm:steps X.s.p X.s.c X.s.m=110*X.s.p+4*X.s.m+60:=by unfold steps;rw[if_pos hX.m]
 obtain⟨S,hSS⟩:∃ S:Nat,(S:Int)=110*X.s.p+4*X.s.m+60:=⟨(110*X.s.p+4*X.s.m+60).toNat,by omega⟩
 simp only[↓DD,UU,↓reduceIte,xA,xB,xC,xD,xE,xF,xG,xH,xI,xJ,xK,xL,xM,xN,xO,xP,xQ,ne_eq]
 refine newB_intro fun x hx f1 f2=>?_
 have hS:=(hS.new f1 (.cells #[.int .i64 X.s.p,.int .i64 X.s.c,.int .i64 X.s.m] 23 (0,0)))
 simp only[↓DD,UU,↓reduceIte,xA,xB,xC,xD,xE,xF,xG,xH,xI,xJ,xK,xL,xM,xN,xO,xP,xQ,ne_eq]
 refine callT_of (c_live hX hP (Sep.over (X:=[_]) (L:=P) hS)) ?_
 rintro v H' ⟨a,cap,gl,rfl,hG,hS⟩
 obtain⟨A,hA⟩:∃ A,A=liveN X X.s.c.toNat:=⟨_,rfl⟩
 have hAl:A.length≤12:=by have:=liveN_le X X.s.c.toNat;rw[← hA]at this;omega
 have hAm:∀ d,d∈A→∃ k,X.k d=some k:=fun d hd=>by
  rw[hA]at hd
  unfold liveN at hd
  exact Option.isSome_iff_exists.1 (List.mem_filter.1 hd).2
 have hGv:∀ (i d:Nat),A[i]? = some d→lvV X X.s.c.toNat i=.int .i64 (d:Int):=fun i d e=>by
  unfold lvV
  rw[← hA,List.getD_eq_getElem?_getD,e];rfl
 rw[← hA]at hG ⊢
 have hS:Sep (P ++ (gl :: sg x (.cells #[.int .i64 X.s.p,.int .i64 X.s.c,.int .i64 X.s.m] 23 (0,0)) :: l)) H':=Sep.over (X:=[gl]) (L:=P) hS
 simp only[↓DD,UU,↓reduceIte,xA,xB,xC,xD,xE,xF,xG,xH,xI,xJ,xK,xL,xM,xN,xO,xP,xQ,ne_eq]
 have hpre:∀ i,∀ d,d∈A.take i→∃ k,X.k d=some k:=fun i d hd=>hAm d (List.mem_of_mem_take hd)
 refine loop_intro (qtI X A a cap k x c (gl :: sg x (.cells #[.int .i64 X.s.p,.int .i64 X.s.c,.int .i64 X.s.m] 23 (0,0)) :: l)) (fun F' _=>((A.length:Int) - iv (gt F' 7)).toNat) ⟨0,pv,P,by omega,by simp [gt],⟨by simp [gt],by simp [gt],by simp [gt],by simp [gt]⟩,⟨by rw[List.take_zero];show X.tr.length≤_;omega,by rw[List.take_zero];show X.sp.length≤_;omega⟩,by rw[List.take_zero];exact hP,hS⟩ ?_
 clear hS hP
 rintro F' H' ⟨i,pv,P,hi,e7,⟨e0,e2,e4,e6⟩,⟨hlt1,hls1⟩,hP,hS⟩
 obtain⟨hTi,hTs,hTk,hTb⟩:=Ti.restN_ok (A.take i) hT (hpre i)
 by_cases hlt:i<A.length
 rotate_left
 ·have d1:decide ((i:Int)<(A.length:Int))=false:=decide_eq_false (by omega)
  simp only[e7,e6,d1,↓DD,UU,↓reduceIte,xA,xB,xC,xD,xE,xF,xG,xH,xI,xJ,xK,xL,xM,xN,xO,xP,xQ,ne_eq]
  have hte:A.take i=A:=List.take_of_length_le (by omega)
  rw[hte]at hTi hTs hTk hTb hP hlt1 hls1
  obtain⟨V,hV⟩:∃ V,V=Ti.restN X A:=⟨_,rfl⟩
  rw[← hV]at hTi hTs hTk hTb hP hlt1 hls1 ⊢
  have hid:Ti.Idle V:=fun d kd ed=>by
   refine hTb d kd ed (.inl ?_)
   rw[hA]
   unfold liveN
   refine List.mem_filter.2 ⟨List.mem_range.2 ?_,?_⟩
   ·obtain⟨w1,w2,w3⟩:=hTi.wf.k d kd ed
    have:=w1.c1
    rw[w2,hTs,w3]at this
    omega
   ·rw[← hTk d,ed];rfl
  obtain⟨kv,hkv⟩:∃ kv,V.k c.toNat=some kv:=Option.isSome_iff_exists.1 (by rw[hTk,hc];rfl)
  rw[← hTs]
  refine loop_intro (qtK c V k x (gl :: sg x (.cells #[.int .i64 X.s.p,.int .i64 X.s.c,.int .i64 X.s.m] 23 (0,0)) :: l)) (fun F' _=>(V.s.c - iv (gt F' 9)).toNat) ⟨0,pv,P,by rw[hTs];omega,by simp [gt],⟨by simp [gt,e0],by simp [gt,e2],by simp [gt,e4]⟩,⟨by show V.tr.length≤_;omega,by show V.sp.length≤_;omega⟩,hP,hS⟩ ?_
  clear hS hP e0 e2 e4 e6 e7
  rintro F' H' ⟨n,pv,P,hn,e9,⟨e0,e2,e4⟩,⟨hlt2,hls2⟩,hP,hS⟩
  obtain⟨t1,t2,t3,⟨k',t4⟩,t5⟩:=Ti.adN_ok hTi hid hkv c0 n hn
  have hx1:=hS.dropF.lk 1 rfl
  have rx:=fun o=>rd_of hx1 o
  have rxn:=fun o n=>rdn_of hx1 o n
  by_cases hnl:(n:Int)<X.s.c
  rotate_left
  ·have d1:decide ((n:Int)<X.s.c)=false:=decide_eq_false hnl
   simp only[e9,e4,hx1,rx,d1,↓DD,UU,↓reduceIte,xA,xB,xC,xD,xE,xF,xG,xH,xI,xJ,xK,xL,xM,xN,xO,xP,xQ,ne_eq]
   have:n=V.s.c.toNat:=by rw[hTs]at hn ⊢;omega
   rw[← this]
   exact⟨pv,P,hP,(hS.perm List.perm_append_comm).tail.tail.perm List.perm_append_comm⟩
  have d1:decide ((n:Int)<X.s.c)=true:=decide_eq_true hnl
  have wn:w64 ((n:Int)+1)=(n:Int)+1:=w64_eq (by omega) (by omega)
  by_cases hnc:(n:Int)=c
  ·have g1:((n:Int) != c)=false:=by rw[hnc];exact bne_self_eq_false' ..
   have ea:Ti.adN c V (n+1)=Ti.adN c V n:=by
    show(if _ then _ else _)=_
    rw[if_neg (fun z=>z.1 hnc)]
   simp only[e9,e0,e2,e4,hx1,rx,d1,g1,wn,wrap_w64,↓DD,UU,↓reduceIte,xA,xB,xC,xD,xE,xF,xG,xH,xI,xJ,xK,xL,xM,xN,xO,xP,xQ,ne_eq]
   refine⟨⟨n+1,pv,P,by rw[hTs];omega,by simp [gt],⟨by simp [gt,e0],by simp [gt,e2],by simp [gt,e4]⟩,by rw[ea];omega,by rw[ea];exact hP,hS⟩,?_⟩
   rw[hTs]
   show(_ - ((n:Int)+1)).toNat<(_ - (n:Int)).toNat
   omega
  have g1:((n:Int) != c)=true:=bne_iff_ne.2 hnc
  simp only[e9,e0,e2,e4,hx1,rx,d1,g1,↓DD,UU,↓reduceIte,xA,xB,xC,xD,xE,xF,xG,xH,xI,xJ,xK,xL,xM,xN,xO,xP,xQ,ne_eq]
  refine callT_of (c_wstatW t1.wf hP (c:=n) (by omega) (by rw[t3,hTs];exact hnl) hS) ?_
  rintro v H' ⟨rfl,hS⟩
  have hx1:=hS.dropF.lk 1 rfl
  have rx:=fun o=>rd_of hx1 o
  have rxn:=fun o n=>rdn_of hx1 o n
  by_cases hst:1<(Ti.adN c V n).stk n
  rotate_left
  ·have g2:decide (1<(Ti.adN c V n).stk n)=false:=decide_eq_false hst
   have ea:Ti.adN c V (n+1)=Ti.adN c V n:=by
    show(if _ then _ else _)=_
    rw[if_neg (fun z=>hst z.2)]
   simp only[e9,g2,wn,wrap_w64,↓DD,UU,↓reduceIte,xA,xB,xC,xD,xE,xF,xG,xH,xI,xJ,xK,xL,xM,xN,xO,xP,xQ,ne_eq]
   refine⟨⟨n+1,pv,P,by rw[hTs];omega,by simp [gt],⟨by simp [gt,e0],by simp [gt,e2],by simp [gt,e4]⟩,by rw[ea];omega,by rw[ea];exact hP,hS⟩,?_⟩
   rw[hTs]
   show(_ - ((n:Int)+1)).toNat<(_ - (n:Int)).toNat
   omega
  have g2:decide (1<(Ti.adN c V n).stk n)=true:=decide_eq_true hst
  have ea:Ti.adN c V (n+1)=(Ti.adN c V n).ended c ⟨4,n,0⟩:=by
   show(if _ then _ else _)=_
   rw[if_pos ⟨hnc,hst⟩]
  have el:=Wo.ended_len (c:=c) (o:=⟨4,n,0⟩) t1.wf
  have es:(Ti.adN c V n).s=X.s:=t3.trans hTs
  have ca:=c_ask (W:=W) (c:=c) (o:=⟨4,n,0⟩) t1.wf hP (by omega) (by omega) hS
  rw[es]at ca
  simp only[e9,e0,e2,e4,hx1,rxn,g2,↓DD,UU,↓reduceIte,xA,xB,xC,xD,xE,xF,xG,xH,xI,xJ,xK,xL,xM,xN,xO,xP,xQ,ne_eq]
  refine callT_of ca ?_
  rintro v H' ⟨rfl,pv',P',hP',hS⟩
  simp only[e9,wn,wrap_w64,↓DD,UU,↓reduceIte,xA,xB,xC,xD,xE,xF,xG,xH,xI,xJ,xK,xL,xM,xN,xO,xP,xQ,ne_eq]
  refine⟨⟨n+1,pv',P',by rw[hTs];omega,by simp [gt],⟨by simp [gt,e0],by simp [gt,e2],by simp [gt,e4]⟩,⟨by rw[ea];exact Nat.le_trans el.1 (by omega),by rw[ea];exact Nat.le_trans el.2 (by omega)⟩,by rw[ea];exact hP',hS⟩,?_⟩
  rw[hTs]
  show(_ - ((n:Int)+1)).toNat<(_ - (n:Int)).toNat
  omega
 have d1:decide ((i:Int)<(A.length:Int))=true:=decide_eq_true (by omega)
 obtain⟨d,hd⟩:∃ d,A[i]? = some d:=⟨_,List.getElem?_eq_getElem hlt⟩
 have hts:A.take (i+1)=A.take i ++ [d]:=by rw[List.take_add_one,hd];rfl
 have hdv:=hGv i d hd
 obtain⟨V0,hV0⟩:∃ V0,V0=Ti.restN X (A.take i):=⟨_,rfl⟩
 have hnx:Ti.restN X (A.take (i+1))=V0.go d S:=by
  rw[hts,restN_snoc,← hV0]
  congr 1
  unfold Ti.lot
  rw[hV0,hTs];omega
 rw[← hV0]at hTi hTs hTk hTb hP hlt1 hls1
 obtain⟨kd,hkd⟩:∃ kd,V0.k d=some kd:=Option.isSome_iff_exists.1 (by rw[hTk];obtain⟨k,e⟩:=hAm d (List.mem_of_getElem? hd);rw[e];rfl)
 simp only[e7,e6,d1,↓DD,UU,↓reduceIte,xA,xB,xC,xD,xE,xF,xG,xH,xI,xJ,xK,xL,xM,xN,xO,xP,xQ,ne_eq]
 refine loop_intro (qtJ X.s V0 d S i A.length a cap k x c (gl :: sg x (.cells #[.int .i64 X.s.p,.int .i64 X.s.c,.int .i64 X.s.m] 23 (0,0)) :: l)) (fun F' _=>((S:Int) - iv (gt F' 8)).toNat) ⟨0,V0,pv,P,by omega,by simp [gt],by simp [gt,e7],⟨by simp [gt,e0],by simp [gt,e2],by simp [gt,e4],by simp [gt,e6]⟩,⟨hTi.wf,hTs,rfl,by omega,by omega,kd,hkd⟩,hP,hS⟩ ?_
 clear hS hP e0 e2 e4 e6 e7
 rintro F' H' ⟨m,V,pv,P,hm,e8,e7,⟨e0,e2,e4,e6⟩,⟨hVw,hVs,hgo,htl,hsl,cl,hcl⟩,hP,hS⟩
 have hx1:=hS.dropF.lk 1 rfl
 have rx:=fun o=>rd_of hx1 o
 have rxn:=fun o n=>rdn_of hx1 o n
 have wi:w64 ((i:Int)+1)=(i:Int)+1:=w64_eq (by omega) (by omega)
 have i0:(0:Int)≤(i:Int):=by omega
 have l1:(i:Int)<(A.length:Int):=by omega
 have hS9:S≤8000:=by omega
 have out:∀ {H':Hp} {P':List Hp},V0.go d S=V→WoP k pv V P'→Sep (P' ++ (gl :: sg x (.cells #[.int .i64 X.s.p,.int .i64 X.s.c,.int .i64 X.s.m] 23 (0,0)) :: l)) H'→∀ F2:Fr,gt F2 7=.int .i64 ((i:Int)+1)→qtF a A.length cap k x c F2→qtI X A a cap k x c (gl :: sg x (.cells #[.int .i64 X.s.p,.int .i64 X.s.c,.int .i64 X.s.m] 23 (0,0)) :: l) F2 H':=fun g1 g2 g3 F2 g4 g5=>
  ⟨i+1,pv,_,by omega,by rw[g4];simp,g5,by rw[hnx,g1];omega,by rw[hnx,g1];exact g2,g3⟩
 have ms:((A.length:Int) - ((i:Int)+1)).toNat<((A.length:Int) - (i:Int)).toNat:=by omega
 by_cases hmS:m<S
 rotate_left
 ·have d2:decide ((m:Int)<110*X.s.p+4*X.s.m+60)=false:=decide_eq_false (by omega)
  have hgx:V0.go d S=V:=by rw[← hgo,show S - m=0 by omega];rfl
  simp only[e8,e7,e4,hx1,rxn,v_steps,hsm,d2,wi,wrap_w64,↓DD,UU,↓reduceIte,xA,xB,xC,xD,xE,xF,xG,xH,xI,xJ,xK,xL,xM,xN,xO,xP,xQ,ne_eq]
  refine⟨out hgx hP hS _ (by simp [gt]) ⟨by simp [gt,e0],by simp [gt,e2],by simp [gt,e4],by simp [gt,e6]⟩,?_⟩
  exact ms
 have d2:decide ((m:Int)<110*X.s.p+4*X.s.m+60)=true:=decide_eq_true (by omega)
 obtain⟨z,rfl,hrd⟩:=hG.rd hS (by simp) hlt
 rw[hdv]at hrd
 have hdn:(d:Int)<X.s.c:=by
  obtain⟨w1,w2,w3⟩:=hVw.k d cl hcl
  have:=w1.c1
  rw[w2,hVs,w3]at this;exact this
 have hdt:((d:Int)).toNat=d:=by omega
 have hcn:((d:Int)).toNat<V.s.c.toNat:=by rw[hVs];omega
 have hcl':V.k ((d:Int)).toNat=some cl:=by rw[hdt];exact hcl
 obtain⟨kk,hkk⟩:=WoP.ptr (c:=(d:Int)) hVw hP hcn hcl'
 have gif:(if 0≤(d:Int)∧(d:Int)<V.s.c then pv ((d:Int)).toNat else .pointer none)=.pointer (some ⟨kk,0,none⟩):=by rw[if_pos ⟨by omega,by rw[hVs];exact hdn⟩];exact hkk
 simp only[e8,e7,e0,e4,e6,hx1,rxn,v_steps,hsm,d2,i0,l1,hrd,Int.toNat_natCast,↓DD,UU,↓reduceIte,xA,xB,xC,xD,xE,xF,xG,xH,xI,xJ,xK,xL,xM,xN,xO,xP,xQ,ne_eq]
 refine callT_of (c_wclient (c:=(d:Int)) hP hS) ?_
 rintro v H' ⟨rfl,hS⟩
 rw[gif]
 obtain⟨z',ez',hrd⟩:=hG.rd hS (by simp) hlt
 injection ez' with ez';injection ez' with ez';subst ez'
 rw[hdv]at hrd
 simp only[e7,e0,e6,i0,l1,hrd,Int.toNat_natCast,↓DD,UU,↓reduceIte,xA,xB,xC,xD,xE,xF,xG,xH,xI,xJ,xK,xL,xM,xN,xO,xP,xQ,ne_eq]
 refine callT_of (c_wclient (c:=(d:Int)) hP hS) ?_
 rintro v H' ⟨rfl,hS⟩
 rw[gif]
 simp only[↓DD,UU,↓reduceIte,xA,xB,xC,xD,xE,xF,xG,xH,xI,xJ,xK,xL,xM,xN,xO,xP,xQ,ne_eq]
 have hwi:=c_widle (W:=W) (c:=(d:Int)) hVw hP hcn hcl' hS
 rw[hkk]at hwi
 refine callT_of hwi ?_
 rintro v H' ⟨rfl,hS⟩
 obtain⟨z',ez',hrd⟩:=hG.rd hS (by simp) hlt
 injection ez' with ez';injection ez' with ez';subst ez'
 rw[hdv]at hrd
 cases hbu:cl.busy
 ·have hgx:V0.go d S=V:=by rw[← hgo];exact Wo.go_idle _ (by unfold Wo.busy;rw[hcl'];exact hbu)
  simp only[e7,hbu,wi,wrap_w64,↓DD,UU,↓reduceIte,xA,xB,xC,xD,xE,xF,xG,xH,xI,xJ,xK,xL,xM,xN,xO,xP,xQ,ne_eq]
  refine⟨out hgx hP hS _ (by simp [gt]) ⟨by simp [gt,e0],by simp [gt,e2],by simp [gt,e4],by simp [gt,e6]⟩,?_⟩
  exact ms
 ·simp only[e7,e0,e6,hbu,i0,l1,hrd,Int.toNat_natCast,↓DD,UU,↓reduceIte,xA,xB,xC,xD,xE,xF,xG,xH,xI,xJ,xK,xL,xM,xN,xO,xP,xQ,ne_eq]
  refine callT_of (c_wdo (x:=⟨3,(d:Int),Go.Ma.Op.zero,0⟩) (bias:=0) hVw hP (shrv_zero _ (by rw[hVs];omega) (by rw[hVs];omega)).symm (by omega) (by omega) hS) ?_
  rintro v H' ⟨rfl,pv2,P2,hP2,hpv,hS⟩
  have hX2:(V.act ⟨3,(d:Int),Go.Ma.Op.zero,0⟩).1.wf:=Wo.act_wf hVw (Wo.fit0 hVw)
  have hs2:(V.act ⟨3,(d:Int),Go.Ma.Op.zero,0⟩).1.s=V.s:=Wo.act_s
  have hln2:=Wo.act_len (W:=V) (x:=⟨3,(d:Int),Go.Ma.Op.zero,0⟩)
  have hli:=Wo.act_lives (c:=(d:Int)) (o:=Go.Ma.Op.zero) hVw hcl'
  rw[hdt]at hli
  have wm:w64 ((m:Int)+1)=(m:Int)+1:=w64_eq (by omega) (by omega)
  obtain⟨M,hM⟩:∃ M,S - m=M+1:=⟨S - m - 1,by omega⟩
  simp only[e8,wm,wrap_w64,↓DD,UU,↓reduceIte,xA,xB,xC,xD,xE,xF,xG,xH,xI,xJ,xK,xL,xM,xN,xO,xP,xQ,ne_eq]
  refine⟨⟨m+1,_,pv2,P2,by omega,by simp [gt],by simp [gt,e7],⟨by simp [gt,e0],by simp [gt,e2],by simp [gt,e4],by simp [gt,e6]⟩,⟨hX2,hs2.trans hVs,?_,by omega,by omega,hli⟩,hP2,hS⟩,?_⟩
  ·rw[← hgo,hM,show S - (m+1)=M by omega]
   show _=if V.busy (d:Int) then _ else _
   unfold Wo.busy;rw[hcl'];dsimp only;rw[if_pos hbu]
  ·show(_ - ((m:Int)+1)).toNat<(_ - (m:Int)).toNat
   omega
end
end Go.Proofs.YtkjpgikjcfhckaaGreat
set_option maxRecDepth 8000
namespace Go.Proofs.YtkjpgikjcfhckaaGreat
open Go Go.Ev Go.Pl Go.Ma

section
variable {W:World} {H h:Hp} {l:List Hp} {n cap:Nat} {a:Option Addr} {ws:Nat→Int} {sh:Sh}
def spX (sh:Sh) (ws:Nat→Int) (q:Int):Int:=ws (page sh.p sh.c sh.m q).toNat
theorem cells_of {H:Hp} {b o:Nat} {v:Value} (h:rd H b o=some v):∃ c T f,H b=some (.cells c T f)∧c[o]? = some v:=by
 unfold rd at h
 split at h
 ·rename_i c T f e;exact⟨c,T,f,e,h⟩
 ·cases h
theorem words_ge (hm:may sh.p sh.c sh.m=true) (hn:(n:Int)=words sh.p sh.c sh.m):sh.c+sh.p*17+sh.c*sh.m=(n:Int)∧0≤sh.c*sh.m∧sh.c*sh.m≤96:=by
 have hb:=(may_iff _ _ _).1 hm
 have hml:=mul_bd sh.c sh.m (by omega) hb.2.2.2.1 hb.2.2.2.2.1 hb.2.2.2.2.2
 rw[hn];unfold words;rw[if_pos hm];omega
def spG (p:Int) (n cap:Nat) (a:Option Addr) (x y:Nat) (F':Fr):Prop:=gt F' 1=.slice a n cap∧gt F' 2=.int .i64 p∧gt F' 4=.pointer (some ⟨x,0,none⟩)∧gt F' 7=.pointer (some ⟨y,0,none⟩)
def spI (r:Nat) (p:Int) (n cap:Nat) (a:Option Addr) (x y:Nat) (L:List Hp) (F':Fr) (H':Hp):Prop:=
 ∃ i:Nat,i≤16∧gt F' r=.int .i64 (i:Int)∧spG p n cap a x y F'∧Sep L H'
def spL (A p:Int) (n cap:Nat) (a:Option Addr) (x y:Nat) (L:List Hp) (F':Fr) (H':Hp):Prop:=
 ∃ i:Int,1≤i∧(i=1∨i≤A)∧gt F' 16=.int .i64 i∧spG p n cap a x y F'∧Sep L H'
end
end Go.Proofs.YtkjpgikjcfhckaaGreat
set_option maxRecDepth 8000
namespace Go.Proofs.YtkjpgikjcfhckaaGreat
open Go Go.Ev Go.Pl Go.Ma
theorem livW_st {X:Wo} (h:Ti X) (c:Int) (c0:0≤c) (c1:c<X.s.c):livW X.s X.w.ws c=true↔X.w.ws c.toNat=1:=by
 unfold livW
 rw[if_pos ⟨c0,c1⟩,beq_iff_eq]
 exact(Ad.st_rd h.wf.m (h.sx c c0 c1)).2.1
section
variable {W:World} {H g:Hp} {l P:List Hp} {k cap n b:Nat} {a:Option Addr} {sh:Sh} {X:Wo} {pv:Nat→Value} {c:Int} {o:Go.Ma.Op}
def tlG (a:Option Addr) (n cap k x:Nat) (i:Nat) (kd:Int) (F':Fr):Prop:=gt F' 8=.int .i64 (i:Int)∧gt F' 7=.int .i64 kd∧gt F' 1=.slice a n cap∧gt F' 2=.pointer (some ⟨x,0,none⟩)∧gt F' 5=.pointer (some ⟨k,0,none⟩)
def tlI (sh:Sh) (a:Option Addr) (n cap k x:Nat) (L:List Hp) (F':Fr) (H':Hp):Prop:=
 ∃ (i:Nat) (X:Wo) (pv:Nat→Value) (P:List Hp) (kd:Int),i≤n∧tlG a n cap k x i kd F' ∧
  (Ti X∧Ti.dn X≤kd∧0≤kd∧kd≤i∧X.s=sh∧X.tr.length≤3*i∧X.sp.length≤i)∧WoP k pv X P∧Sep (P ++ (sg x (.cells #[.int .i64 sh.p,.int .i64 sh.c,.int .i64 sh.m] 23 (0,0)) :: L)) H'
def tlC (sh:Sh) (a:Option Addr) (n cap k x:Nat) (i:Nat) (kd:Int) (c:Cn) (P L:List Hp) (F':Fr) (H':Hp):Prop:=
 tlG a n cap k x i kd F'∧∃ z,gt F' 10=.pointer (some ⟨z,0,none⟩)∧Sep (awB z c :: (P ++ (sg x (.cells #[.int .i64 sh.p,.int .i64 sh.c,.int .i64 sh.m] 23 (0,0)) :: L))) H'
end
end Go.Proofs.YtkjpgikjcfhckaaGreat
set_option maxRecDepth 8000
namespace Go.Proofs.YtkjpgikjcfhckaaGreat
open Go Go.Ev Go.Pl Go.Ma
section
variable {W:World} {H g:Hp} {l P:List Hp} {k cap n:Nat} {a:Option Addr} {sh:Sh} {X:Wo} {pv:Nat→Value} {c:Int} {o:Go.Ma.Op}
theorem chq_cell {H:Hp} {b o:Nat} {y:Chr} (h:rdn H b o 6=some (cv y)):∃ c T f,H b=some (.cells c T f)∧c[o+1]? = some (.int .i64 y.c):=by
 obtain⟨c,T,f,h1,h2⟩:=rdn_blk h
 refine⟨c,T,f,h1,?_⟩
 split at h2
 ·injection h2 with h2
  have:=congrArg (fun z=>z[1]?) h2
  simp only[Array.getElem?_extract,cv]at this
  rw[if_pos (by omega)]at this
  exact this
 ·cases h2
theorem sm_bd {f:Nat→Int} {b:Int} (h:∀ j,0≤f j∧f j≤b):∀ n:Nat,0≤Kt.sm f n∧Kt.sm f n≤b*n
 | 0=>⟨Int.le_refl _,by show(0:Int)≤b*0;omega⟩
 |n+1=>by
  have h1:=sm_bd h n
  have h2:=h n
  show 0≤Kt.sm f n+f n∧Kt.sm f n+f n≤b*((n+1:Nat):Int)
  rw[Int.natCast_add,Int.mul_add]
  omega
theorem ent_bd (s:Sh) (ws:Nat→Int) (d:Int) (j:Nat):0≤Kt.ent s ws d j∧Kt.ent s ws d j≤32:=by
 unfold Kt.ent
 split
 ·exact Cn.size_bd _
 ·omega
def mgS (sh:Sh) (ws:Nat→Int) (n:Nat):Int:=Kt.sm (fun d:Nat=>Kt.sm (Kt.ent sh ws d) sh.m.toNat) n
theorem mgS_bd {sh:Sh} {ws:Nat→Int} (h:sh.m≤8) (n:Nat):0≤mgS sh ws n∧mgS sh ws n≤256*n:=
 sm_bd (fun d=>by have:=sm_bd (ent_bd sh ws d) sh.m.toNat;omega) n
def tqF (a:Option Addr) (N cap x:Nat) (F':Fr):Prop:=gt F' 2=.pointer (some ⟨x,0,none⟩)∧gt F' 9=.slice a N cap
def tqD (sh:Sh) (ws:Nat→Int) (a:Option Addr) (N cap x:Nat) (L:List Hp) (F':Fr) (H':Hp):Prop:=
 ∃ d:Nat,(d:Int)≤sh.c∧gt F' 11=.int .i64 (d:Int)∧gt F' 10=.int .i64 (mgS sh ws d)∧tqF a N cap x F'∧Sep L H'
def tqM (sh:Sh) (ws:Nat→Int) (a:Option Addr) (N cap x d:Nat) (L:List Hp) (F':Fr) (H':Hp):Prop:=
 ∃ i:Nat,(i:Int)≤sh.m∧gt F' 12=.int .i64 (i:Int)∧gt F' 11=.int .i64 (d:Int)∧gt F' 10=.int .i64 (mgS sh ws d+Kt.sm (Kt.ent sh ws d) i)∧tqF a N cap x F'∧Sep L H'
def tqE (sh:Sh) (ws:Nat→Int) (a:Option Addr) (N cap x d i:Nat) (P S K:Int) (ok:Bool) (L:List Hp) (F':Fr) (H':Hp):Prop:=
 gt F' 12=.int .i64 (i:Int)∧gt F' 11=.int .i64 (d:Int)∧gt F' 10=.int .i64 (mgS sh ws d+Kt.sm (Kt.ent sh ws d) i)∧tqF a N cap x F'∧gt F' 14=.bool ok∧∃ v,gt F' 13=.pointer (some ⟨v,0,none⟩)∧Sep (sg v (.cells #[.int .i64 P,.int .i64 S,.int .i64 K] 63 (0,0)) :: L) H'
def tqP (sh:Sh) (w:Int) (a:Option Addr) (N cap x:Nat) (L:List Hp) (F':Fr) (H':Hp):Prop:=
 ∃ p:Nat,(p:Int)≤sh.p∧gt F' 15=.int .i64 (p:Int)∧gt F' 10=.int .i64 w∧tqF a N cap x F'∧Sep L H'
def tqG (w:Int) (a:Option Addr) (N cap x p:Nat) (K A B:Int) (L:List Hp) (F':Fr) (H':Hp):Prop:=
 gt F' 15=.int .i64 (p:Int)∧gt F' 10=.int .i64 w∧tqF a N cap x F'∧gt F' 17=.bool true∧∃ v,gt F' 16=.pointer (some ⟨v,0,none⟩)∧Sep (sg v (.cells #[.int .i64 K,.int .i64 A,.int .i64 B] 69 (0,0)) :: L) H'
def tqI (sh:Sh) (a:Option Addr) (n cap k x:Nat) (L:List Hp) (F':Fr) (H':Hp):Prop:=
 ∃ (i:Nat) (X:Wo) (pv:Nat→Value) (P:List Hp),i≤n∧(gt F' 8=.int .i64 (i:Int)∧gt F' 1=.slice a n cap∧gt F' 2=.pointer (some ⟨x,0,none⟩)∧gt F' 5=.pointer (some ⟨k,0,none⟩)∧gt F' 7=.int .i64 (sh.c - 1)) ∧
  (Ti X∧X.s=sh∧X.w.ws (sh.c - 1).toNat=0∧X.tr.length≤3*i∧X.sp.length≤i)∧WoP k pv X P∧Sep (P ++ (sg x (.cells #[.int .i64 sh.p,.int .i64 sh.c,.int .i64 sh.m] 23 (0,0)) :: L)) H'
set_option maxHeartbeats 4000000 in
theorem c_topquiet {ch:Nat→Chr} (hn:n≤9223372036854775807) (hr:RowC g a n ch) (hS:Sep (g :: l) H) :
  CallP Tryz.prog W 6 #[.agg #[.int .i64 sh.p,.int .i64 sh.c,.int .i64 sh.m],.slice a n cap] H fun v H'=>v=.bool true∧Sep (g :: l) H':=by
 refine CallP.of mixed Tryz.func6 tr6 (by show 2≤_;decide) fun W _=>?_
 simp only[↓DD,UU,↓reduceIte,xA,xB,xC,xD,xE,xF,xG,xH,xI,xJ,xK,xL,xM,xN,xO,xP,xQ,ne_eq]
 refine newB_intro fun x hx f1 f2=>?_
 have hS:=(hS.new f1 (.cells #[.int .i64 sh.p,.int .i64 sh.c,.int .i64 sh.m] 23 (0,0)))
 simp only[↓DD,UU,↓reduceIte,xA,xB,xC,xD,xE,xF,xG,xH,xI,xJ,xK,xL,xM,xN,xO,xP,xQ,ne_eq]
 refine callT_of (c_awakeT hS) ?_
 rintro v H' ⟨rfl,hS⟩
 simp only[↓DD,UU,↓reduceIte,xA,xB,xC,xD,xE,xF,xG,xH,xI,xJ,xK,xL,xM,xN,xO,xP,xQ,ne_eq]
 refine callT_of (c_few 1000 hS) ?_
 rintro v H' ⟨rfl,hS⟩
 have hx1:=hS.look
 have rx:=fun o=>rd_of hx1 o
 by_cases hle:n≤1000
 rotate_left
 ·have g1:decide ((n:Int)≤1000)=false:=decide_eq_false (by omega)
  simp only[g1,↓DD,UU,↓reduceIte,xA,xB,xC,xD,xE,xF,xG,xH,xI,xJ,xK,xL,xM,xN,xO,xP,xQ,ne_eq]
  exact hS.tail
 have g1:decide ((n:Int)≤1000)=true:=decide_eq_true (by omega)
 have r1:=fun o n=>rdn_of hx1 o n
 by_cases hc2:sh.c<2
 ·have g2:decide (sh.c<2)=true:=decide_eq_true hc2
  simp only[g1,g2,hx1,rx,↓DD,UU,↓reduceIte,xA,xB,xC,xD,xE,xF,xG,xH,xI,xJ,xK,xL,xM,xN,xO,xP,xQ,ne_eq]
  exact hS.tail
 have g2:decide (sh.c<2)=false:=decide_eq_false hc2
 simp only[g1,g2,hx1,rx,r1,↓DD,UU,↓reduceIte,xA,xB,xC,xD,xE,xF,xG,xH,xI,xJ,xK,xL,xM,xN,xO,xP,xQ,ne_eq]
 cases hm:may sh.p sh.c sh.m
 ·refine callT_of (c_begin_no hm hS) ?_
  rintro v H' ⟨rfl,hS⟩
  simp only[↓DD,UU,↓reduceIte,xA,xB,xC,xD,xE,xF,xG,xH,xI,xJ,xK,xL,xM,xN,xO,xP,xQ,ne_eq]
  exact hS.tail
 have hb:=(may_iff _ _ _).1 hm
 obtain⟨N,hN⟩:∃ N:Nat,(N:Int)=words sh.p sh.c sh.m:=⟨(words sh.p sh.c sh.m).toNat,by have:=words_le hm;omega⟩
 refine callT_of (c_begin hm hN hS) ?_
 rintro v H' ⟨k,j0,pv,P,rfl,hP,hS⟩
 have hx1:=hS.dropF.look
 have rx:=fun o=>rd_of hx1 o
 have wc:w64 (sh.c - 1)=sh.c - 1:=w64_eq (by omega) (by omega)
 simp only[hx1,rx,wc,wrap_w64,↓DD,UU,↓reduceIte,xA,xB,xC,xD,xE,xF,xG,xH,xI,xJ,xK,xL,xM,xN,xO,xP,xQ,ne_eq]
 have hw:(Wo.new sh (Wd.zero N)).wf:=Wo.new_wf hm hN
 have hti:Ti (Wo.new sh (Wd.zero N)):=Ti.new hm hw.w fun _=>rfl
 refine loop_intro (tqI sh a n cap k x (g :: l)) (fun F' _=>((n:Int) - iv (gt F' 8)).toNat) ⟨0,_,pv,P,by omega,⟨by simp [gt],by simp [gt],by simp [gt],by simp [gt],by simp [gt]⟩,⟨hti,rfl,rfl,by show 0≤_;omega,by show 0≤_;omega⟩,hP,hS⟩ ?_
 clear hS hx1 r1 rx hP hti hw
 rintro F' H' ⟨i,X,pv,P,hi,⟨e8,e1,e2,e5,e7⟩,⟨hT,hXs,hz,tu,su⟩,hP,hS⟩
 by_cases hlt:i<n
 ·have d1:decide ((i:Int)<(n:Int))=true:=decide_eq_true (by omega)
  have i0:(0:Int)≤(i:Int):=by omega
  have l1:(i:Int)<(n:Int):=by omega
  have wi:w64 ((i:Int)+1)=(i:Int)+1:=w64_eq (by omega) (by omega)
  obtain⟨b1,o1,ea1,hrd1⟩:=hr.at' hlt
  have hrd:=rdn_sub hrd1 (hS.dropF.sb g (by simp))
  obtain⟨cb,Tb,fb,hb1,hcc⟩:=chq_cell hrd
  have rb:=fun o=>rd_of hb1 o
  have e1':gt F' 1=.slice (some ⟨b1,o1,none⟩) n cap:=by rw[e1,ea1]
  by_cases hne:(ch i).c=sh.c - 1
  ·have g3:((ch i).c != sh.c - 1)=false:=by rw[hne];exact bne_self_eq_false' ..
   simp only[e8,e1',e7,e5,d1,i0,l1,hb1,rb,hcc,g3,wi,wrap_w64,Int.toNat_natCast,↓DD,UU,↓reduceIte,xA,xB,xC,xD,xE,xF,xG,xH,xI,xJ,xK,xL,xM,xN,xO,xP,xQ,ne_eq]
   refine⟨⟨i+1,X,pv,P,by omega,⟨by simp [gt],by simp [gt,e1],by simp [gt,e2],by simp [gt,e5],by simp [gt,e7]⟩,⟨hT,hXs,hz,by omega,by omega⟩,hP,hS⟩,?_⟩
   show(_ - ((i:Int)+1)).toNat<(_ - (i:Int)).toNat
   omega
  have g3:((ch i).c != sh.c - 1)=true:=bne_iff_ne.2 hne
  simp only[e8,e1',e7,e5,d1,i0,l1,hb1,rb,hcc,g3,hrd,Int.toNat_natCast,↓DD,UU,↓reduceIte,xA,xB,xC,xD,xE,xF,xG,xH,xI,xJ,xK,xL,xM,xN,xO,xP,xQ,ne_eq]
  refine callT_of (c_choice _ hS) ?_
  rintro v H' ⟨rfl,hS⟩
  simp only[↓DD,UU,↓reduceIte,xA,xB,xC,xD,xE,xF,xG,xH,xI,xJ,xK,xL,xM,xN,xO,xP,xQ,ne_eq]
  refine callT_of (c_wdo (x:=chq sh (ch i)) (bias:=(ch i).b) hT.wf hP (by rw[hXs];rfl) (by omega) (by omega) hS) ?_
  rintro v H' ⟨rfl,pv,P,hP,-,hS⟩
  have hfit:X.fit (chq sh (ch i)):=by rw[← hXs];exact chq_fit hT.wf (ch i)
  have hln:=Wo.act_len (W:=X) (x:=chq sh (ch i))
  have hs2:=(Wo.act_s (W:=X) (x:=chq sh (ch i))).trans hXs
  simp only[e8,wi,wrap_w64,↓DD,UU,↓reduceIte,xA,xB,xC,xD,xE,xF,xG,xH,xI,xJ,xK,xL,xM,xN,xO,xP,xQ,ne_eq]
  refine⟨⟨i+1,_,pv,P,by omega,⟨by simp [gt],by simp [gt,e1],by simp [gt,e2],by simp [gt,e5],by simp [gt,e7]⟩,⟨hT.act hfit,hs2,hT.stay0 hfit (by omega) (by rw[hXs];omega) hne hz,by omega,by omega⟩,hP,hS⟩,?_⟩
  show(_ - ((i:Int)+1)).toNat<(_ - (i:Int)).toNat
  omega
 have d1:decide ((i:Int)<(n:Int))=false:=decide_eq_false (by omega)
 simp only[e8,e1,e5,e7,d1,↓DD,UU,↓reduceIte,xA,xB,xC,xD,xE,xF,xG,xH,xI,xJ,xK,xL,xM,xN,xO,xP,xQ,ne_eq]
 refine callT_of (c_wdo (x:=⟨1,sh.c - 1,Go.Ma.Op.zero,0⟩) (bias:=0) hT.wf hP (shrv_zero _ (by rw[hXs];omega) (by rw[hXs];omega)).symm (by omega) (by omega) hS) ?_
 rintro v H' ⟨rfl,pv,P,hP,-,hS⟩
 obtain⟨hT1,kc,hkc⟩:=hT.begins (c:=sh.c - 1) (by omega) (by rw[hXs];omega) hz (b:=0) (by rw[hXs];omega) Go.Ma.Op.zero
 have hs1:=(Wo.act_s (W:=X) (x:=⟨1,sh.c - 1,Go.Ma.Op.zero,0⟩)).trans hXs
 have hln:=Wo.act_len (W:=X) (x:=⟨1,sh.c - 1,Go.Ma.Op.zero,0⟩)
 generalize hX1:(X.act ⟨1,sh.c - 1,Go.Ma.Op.zero,0⟩).1=X1 at *
 have hx1:=hS.dropF.look
 have r1:=fun o n=>rdn_of hx1 o n
 have cq:=c_quiet (W:=W) hT1 hkc (by omega) hP (by omega) (by omega) hS
 obtain⟨hQ,hQs⟩:=hT1.quiet hkc (by omega) (A:=liveN X1 X1.s.c.toNat) (fun d=>by
  unfold liveN
  rw[List.mem_filter,List.mem_range]
  constructor
  ·rintro⟨a,b⟩;exact⟨by omega,b⟩
  ·rintro⟨a,b⟩;exact⟨by omega,b⟩)
 rw[hs1]at cq hQ hQs
 generalize hV:Ti.adN (sh.c - 1) (Ti.restN X1 (liveN X1 sh.c.toNat)) sh.c.toNat=V at *
 simp only[e2,e5,e7,hx1,r1,↓DD,UU,↓reduceIte,xA,xB,xC,xD,xE,xF,xG,xH,xI,xJ,xK,xL,xM,xN,xO,xP,xQ,ne_eq]
 refine callT_of cq ?_
 rintro v H' ⟨pv,P,hP,hS⟩
 simp only[e5,↓DD,UU,↓reduceIte,xA,xB,xC,xD,xE,xF,xG,xH,xI,xJ,xK,xL,xM,xN,xO,xP,xQ,ne_eq]
 refine callT_of (c_wordsW hQ.ti.wf hP hS) ?_
 rintro v H' ⟨a9,cap9,g9,rfl,hr9,hS⟩
 have hU:∀ i,U (V.w.ws i):=hQ.ti.wf.w.u
 have nV:V.w.n=N:=by have:=hQ.ti.wf.w.n;rw[hQs]at this;omega
 rw[nV]at hr9
 have hpage:=fun (q:Int) (q0:0≤q) (q1:q<V.s.p)=>hQ.page q0 q1
 have hcount:=hQ.count (liv:=livW V.s V.w.ws) (fun c a b=>livW_st hQ.ti c a b)
 have hst:=hQ.ti
 rw[hQs]at hpage hcount
 obtain⟨ws,hws⟩:∃ ws,ws=V.w.ws:=⟨_,rfl⟩
 rw[← hws]at hU hr9 hpage hcount
 have hwd:=words_ge hm hN
 have hS:Sep (P ++ (g9 :: sg x (.cells #[.int .i64 sh.p,.int .i64 sh.c,.int .i64 sh.m] 23 (0,0)) :: g :: l)) H':=Sep.inL (L:=P) hS
 obtain⟨xb,xo,rfl,hr0⟩:=hr9.at' (i:=0) (by omega)
 obtain⟨_,_,_,-,-,far⟩:=part_cell hS.dropF 0 rfl hr0
 obtain⟨mx,xm⟩:=far 1 x _ (by decide) rfl
 clear far
 have row:∀ {H':Hp},Sub g9 H'→∀ i,i<N→rd H' xb (xo+i)=some (.int .u64 (ws i)):=fun hs i hi=>by
  obtain⟨b,o,e,g⟩:=(hr9.sub hs).at' hi
  injection e with e;injection e with e1 e2;subst e1;subst e2;exact g
 simp only[nV,↓DD,UU,↓reduceIte,xA,xB,xC,xD,xE,xF,xG,xH,xI,xJ,xK,xL,xM,xN,xO,xP,xQ,ne_eq]
 refine loop_intro (tqD sh ws (some ⟨xb,xo,none⟩) N cap9 x (P ++ (g9 :: sg x (.cells #[.int .i64 sh.p,.int .i64 sh.c,.int .i64 sh.m] 23 (0,0)) :: g :: l))) (fun F' _=>(sh.c - iv (gt F' 11)).toNat) ⟨0,by omega,by simp [gt],by simp [gt,mgS,Kt.sm],⟨by simp [gt,e2],by simp [gt]⟩,hS⟩ ?_
 clear hS e1 e2 e5 e7 e8
 rintro F' H' ⟨d,hd,e11,e10,⟨e2,e9⟩,hS⟩
 have hx1:=hS.dropF.lk 1 rfl
 have rx:=fun o=>rd_of hx1 o
 have rxn:=fun o n=>rdn_of hx1 o n
 have hbS:=mgS_bd (sh:=sh) (ws:=ws) (by omega) d
 by_cases hlt:(d:Int)<sh.c
 ·have d1:decide ((d:Int)<sh.c)=true:=decide_eq_true hlt
  simp only[e11,e2,hx1,rx,d1,↓DD,UU,↓reduceIte,xA,xB,xC,xD,xE,xF,xG,xH,xI,xJ,xK,xL,xM,xN,xO,xP,xQ,ne_eq]
  refine loop_intro (tqM sh ws (some ⟨xb,xo,none⟩) N cap9 x d (P ++ (g9 :: sg x (.cells #[.int .i64 sh.p,.int .i64 sh.c,.int .i64 sh.m] 23 (0,0)) :: g :: l))) (fun F' _=>(sh.m - iv (gt F' 12)).toNat) ⟨0,by omega,by simp [gt],by simp [gt,e11],by simp [gt,e10,Kt.sm],⟨by simp [gt,e2],by simp [gt,e9]⟩,hS⟩ ?_
  clear hS hx1 rx rxn e11 e10 e2 e9
  rintro F' H' ⟨i,hi,e12,e11,e10,⟨e2,e9⟩,hS⟩
  have hx1:=hS.dropF.lk 1 rfl
  have rx:=fun o=>rd_of hx1 o
  have rxn:=fun o n=>rdn_of hx1 o n
  have hbi:=sm_bd (ent_bd sh ws d) i
  by_cases hlm:(i:Int)<sh.m
  rotate_left
  ·have d2:decide ((i:Int)<sh.m)=false:=decide_eq_false hlm
   have wd:w64 ((d:Int)+1)=(d:Int)+1:=w64_eq (by omega) (by omega)
   have im:i=sh.m.toNat:=by omega
   simp only[e12,e11,e2,hx1,rx,d2,wd,wrap_w64,↓DD,UU,↓reduceIte,xA,xB,xC,xD,xE,xF,xG,xH,xI,xJ,xK,xL,xM,xN,xO,xP,xQ,ne_eq]
   refine⟨⟨d+1,by omega,by simp [gt],by simp [gt,e10,im,mgS,Kt.sm],⟨by simp [gt,e2],by simp [gt,e9]⟩,hS⟩,?_⟩
   show(_ - ((d:Int)+1)).toNat<(_ - (d:Int)).toNat
   omega
  have d2:decide ((i:Int)<sh.m)=true:=decide_eq_true hlm
  have om:=Int.mul_nonneg (by omega:0≤(d:Int)) (by omega:0≤sh.m)
  have om2:=Int.mul_le_mul_of_nonneg_right (by omega:(d:Int)+1≤sh.c) (by omega:0≤sh.m)
  rw[Int.add_mul]at om2
  have hmg:mag sh.p sh.c sh.m d i=sh.c+sh.p+sh.p*16+d*sh.m+i:=mag_yes hm (by omega) hlt (by omega) hlm
  have p0:(0:Int)≤sh.c+sh.p+sh.p*16+d*sh.m+i:=by omega
  have p1:sh.c+sh.p+sh.p*16+d*sh.m+i<(N:Int):=by omega
  have hrd:=row (hS.dropF.sb g9 (by simp)) (sh.c+sh.p+sh.p*16+d*sh.m+i).toNat (by omega)
  obtain⟨cb',Tb,fb,hcb,hco⟩:=cells_of hrd
  have rb:=fun o=>rd_of hcb o
  have e3:=u_readen sh (hU (sh.c+sh.p+sh.p*16+(d:Int)*sh.m+i).toNat)
  have hsa:ws (sh.c+sh.p+sh.p*16+(d:Int)*sh.m+i).toNat=mgAt sh ws d i:=rfl
  obtain⟨P3,hP3⟩:∃ b,enP sh (mgAt sh ws d i)=b:=⟨_,rfl⟩
  obtain⟨S3,hS3⟩:∃ b,enS sh (mgAt sh ws d i)=b:=⟨_,rfl⟩
  obtain⟨K3,hK3⟩:∃ b,enK sh (mgAt sh ws d i)=b:=⟨_,rfl⟩
  obtain⟨o3,ho3⟩:∃ b,okEn sh (mgAt sh ws d i)=b:=⟨_,rfl⟩
  rw[hsa,ho3,hP3,hS3,hK3]at e3
  rw[hsa]at hco
  have wi:w64 ((i:Int)+1)=(i:Int)+1:=w64_eq (by omega) (by omega)
  have ms:(sh.m - ((i:Int)+1)).toNat<(sh.m - (i:Int)).toNat:=by omega
  have hei:Kt.ent sh ws d i=if o3 then size K3 else 0:=by unfold Kt.ent;rw[ho3,hK3]
  simp only[e12,e2,hx1,rx,d2,↓DD,UU,↓reduceIte,xA,xB,xC,xD,xE,xF,xG,xH,xI,xJ,xK,xL,xM,xN,xO,xP,xQ,ne_eq]
  refine draw_cut [(x,#[.int .i64 sh.p,.int .i64 sh.c,.int .i64 sh.m],[]),(xb,cb',[])] (tqE sh ws (some ⟨xb,xo,none⟩) N cap9 x d i P3 S3 K3 o3 (P ++ (g9 :: sg x (.cells #[.int .i64 sh.p,.int .i64 sh.c,.int .i64 sh.m] 23 (0,0)) :: g :: l))) (by simp only[hx1,hcb,↓DD,UU,↓reduceIte,xA,xB,xC,xD,xE,xF,xG,xH,xI,xJ,xK,xL,xM,xN,xO,xP,xQ,ne_eq]) ?_ ?_
  ·simp only[e2,e9,e11,e12,hx1,hcb,rxn,rb,mx,xm,u_mag,hmg,p0,p1,hco,e3,↓e_dalt2,↓DD,UU,↓reduceIte,xA,xB,xC,xD,xE,xF,xG,xH,xI,xJ,xK,xL,xM,xN,xO,xP,xQ,ne_eq]
   refine⟨⟨?_,?_⟩,?_⟩
   all_goals
    refine newB_intro fun v hv f9 f0=>?_
    have nxw:(x=v)=False:=f9 x (by rw[hx1];rfl)
    have nwx:(v=x)=False:=f0 x (by rw[hx1];rfl)
    have nbw:(xb=v)=False:=f9 xb (by rw[hcb];rfl)
    have nwb:(v=xb)=False:=f0 xb (by rw[hcb];rfl)
    have hS:=(hS.new f9 (.cells #[.int .i64 P3,.int .i64 S3,.int .i64 K3] 63 (0,0)))
    simp only[e2,e9,e11,e12,hx1,hcb,rxn,rb,mx,xm,nxw,nwx,nbw,nwb,u_mag,hmg,p0,p1,hco,e3,Ev.upd_upd,↓DD,UU,↓reduceIte,xA,xB,xC,xD,xE,xF,xG,xH,xI,xJ,xK,xL,xM,xN,xO,xP,xQ,ne_eq]
    exact⟨by simp [gt,e12],by simp [gt,e11],by simp [gt,e10],⟨by simp [gt,e2],by simp [gt,e9]⟩,by simp [gt],v,by simp [gt],hS⟩
  ·clear hS hx1 rx rxn e2 e9 e10 e11 e12 hcb hco rb hrd
   rintro F' H' ⟨e12,e11,e10,⟨e2,e9⟩,e14,v,e13,hS⟩
   have hv1:=hS.look
   have rv:=fun o=>rd_of hv1 o
   have hsz:=Cn.size_bd K3
   have ww:w64 (mgS sh ws d+Kt.sm (Kt.ent sh ws d) i+size K3)=mgS sh ws d+Kt.sm (Kt.ent sh ws d) i+size K3:=w64_eq (by omega) (by omega)
   cases o3
   ·simp only[e14,e12,wi,wrap_w64,↓DD,UU,↓reduceIte,xA,xB,xC,xD,xE,xF,xG,xH,xI,xJ,xK,xL,xM,xN,xO,xP,xQ,ne_eq]
    refine⟨⟨i+1,by omega,by simp [gt],by simp [gt,e11],?_,⟨by simp [gt,e2],by simp [gt,e9]⟩,hS.tail⟩,ms⟩
    have:Kt.sm (Kt.ent sh ws d) (i+1)=Kt.sm (Kt.ent sh ws d) i:=by
     show Kt.sm (Kt.ent sh ws d) i+Kt.ent sh ws d i=_
     rw[hei];simp
    rw[this];simp [gt,e10]
   ·simp only[e14,e13,e12,e10,hv1,rv,u_size,ww,wi,wrap_w64,↓DD,UU,↓reduceIte,xA,xB,xC,xD,xE,xF,xG,xH,xI,xJ,xK,xL,xM,xN,xO,xP,xQ,ne_eq]
    refine⟨⟨i+1,by omega,by simp [gt],by simp [gt,e11],?_,⟨by simp [gt,e2],by simp [gt,e9]⟩,hS.tail⟩,ms⟩
    have:Kt.sm (Kt.ent sh ws d) (i+1)=Kt.sm (Kt.ent sh ws d) i+size K3:=by
     show Kt.sm (Kt.ent sh ws d) i+Kt.ent sh ws d i=_
     rw[hei];rfl
    rw[this,← Int.add_assoc];simp [gt]
 have d1:decide ((d:Int)<sh.c)=false:=decide_eq_false hlt
 have dc:d=sh.c.toNat:=by omega
 obtain⟨w9,hw9⟩:∃ w9,mgS sh ws d=w9:=⟨_,rfl⟩
 rw[hw9]at e10 hbS
 simp only[e11,e2,hx1,rx,d1,↓DD,UU,↓reduceIte,xA,xB,xC,xD,xE,xF,xG,xH,xI,xJ,xK,xL,xM,xN,xO,xP,xQ,ne_eq]
 refine loop_intro (tqP sh w9 (some ⟨xb,xo,none⟩) N cap9 x (P ++ (g9 :: sg x (.cells #[.int .i64 sh.p,.int .i64 sh.c,.int .i64 sh.m] 23 (0,0)) :: g :: l))) (fun F' _=>(sh.p - iv (gt F' 15)).toNat) ⟨0,by omega,by simp [gt],by simp [gt,e10],⟨by simp [gt,e2],by simp [gt,e9]⟩,hS⟩ ?_
 clear hS hx1 rx rxn e11 e10 e2 e9
 rintro F' H' ⟨p,hp,e15,e10,⟨e2,e9⟩,hS⟩
 have hx1:=hS.dropF.lk 1 rfl
 have rx:=fun o=>rd_of hx1 o
 have rxn:=fun o n=>rdn_of hx1 o n
 by_cases hlp:(p:Int)<sh.p
 ·have d2:decide ((p:Int)<sh.p)=true:=decide_eq_true hlp
  have hpg:page sh.p sh.c sh.m p=sh.c+p:=page_yes hm (by omega) hlp
  have p0:(0:Int)≤sh.c+p:=by omega
  have p1:sh.c+p<(N:Int):=by omega
  have hrd:=row (hS.dropF.sb g9 (by simp)) (sh.c+p).toNat (by omega)
  obtain⟨cb',Tb,fb,hcb,hco⟩:=cells_of hrd
  have rb:=fun o=>rd_of hcb o
  have e3:=u_readpg sh p (hU (sh.c+(p:Int)).toNat)
  have hsa:ws (sh.c+(p:Int)).toNat=pgAt sh ws p:=by unfold pgAt;rw[hpg]
  obtain⟨ok1,k1⟩:=hpage p (by omega) hlp
  obtain⟨K3,hK3⟩:∃ b,pgK sh p (pgAt sh ws p)=b:=⟨_,rfl⟩
  obtain⟨A3,hA3⟩:∃ b,pgA sh p (pgAt sh ws p)=b:=⟨_,rfl⟩
  obtain⟨B3,hB3⟩:∃ b,pgB sh p (pgAt sh ws p)=b:=⟨_,rfl⟩
  rw[hK3]at k1
  rw[hsa,ok1,hK3,hA3,hB3]at e3
  rw[hsa]at hco
  have wp:w64 ((p:Int)+1)=(p:Int)+1:=w64_eq (by omega) (by omega)
  simp only[e15,e2,hx1,rx,d2,↓DD,UU,↓reduceIte,xA,xB,xC,xD,xE,xF,xG,xH,xI,xJ,xK,xL,xM,xN,xO,xP,xQ,ne_eq]
  refine draw_cut [(x,#[.int .i64 sh.p,.int .i64 sh.c,.int .i64 sh.m],[]),(xb,cb',[])] (tqG w9 (some ⟨xb,xo,none⟩) N cap9 x p K3 A3 B3 (P ++ (g9 :: sg x (.cells #[.int .i64 sh.p,.int .i64 sh.c,.int .i64 sh.m] 23 (0,0)) :: g :: l))) (by simp only[hx1,hcb,↓DD,UU,↓reduceIte,xA,xB,xC,xD,xE,xF,xG,xH,xI,xJ,xK,xL,xM,xN,xO,xP,xQ,ne_eq]) ?_ ?_
  ·simp only[e2,e9,e15,hx1,hcb,rxn,rb,mx,xm,u_page,hpg,p0,p1,hco,e3,↓e_dalt2,↓DD,UU,↓reduceIte,xA,xB,xC,xD,xE,xF,xG,xH,xI,xJ,xK,xL,xM,xN,xO,xP,xQ,ne_eq]
   refine⟨⟨?_,?_⟩,?_⟩
   all_goals
    refine newB_intro fun v hv f9 f0=>?_
    have nxw:(x=v)=False:=f9 x (by rw[hx1];rfl)
    have nwx:(v=x)=False:=f0 x (by rw[hx1];rfl)
    have nbw:(xb=v)=False:=f9 xb (by rw[hcb];rfl)
    have nwb:(v=xb)=False:=f0 xb (by rw[hcb];rfl)
    have hS:=(hS.new f9 (.cells #[.int .i64 K3,.int .i64 A3,.int .i64 B3] 69 (0,0)))
    simp only[e2,e9,e15,hx1,hcb,rxn,rb,mx,xm,nxw,nwx,nbw,nwb,u_page,hpg,p0,p1,hco,e3,Ev.upd_upd,↓DD,UU,↓reduceIte,xA,xB,xC,xD,xE,xF,xG,xH,xI,xJ,xK,xL,xM,xN,xO,xP,xQ,ne_eq]
    exact⟨by simp [gt,e15],by simp [gt,e10],⟨by simp [gt,e2],by simp [gt,e9]⟩,by simp [gt],v,by simp [gt],hS⟩
  ·clear hS hx1 rx rxn e2 e9 e10 e15 hcb hco rb hrd
   rintro F' H' ⟨e15,e10,⟨e2,e9⟩,e17,v,e16,hS⟩
   have hv1:=hS.look
   have rv:=fun o=>rd_of hv1 o
   have g:(K3 == 1)=false:=beq_eq_false_iff_ne.2 k1
   simp only[e17,e16,e15,hv1,rv,g,wp,wrap_w64,↓DD,UU,↓reduceIte,xA,xB,xC,xD,xE,xF,xG,xH,xI,xJ,xK,xL,xM,xN,xO,xP,xQ,ne_eq]
   refine⟨⟨p+1,by omega,by simp [gt],by simp [gt,e10],⟨by simp [gt,e2],by simp [gt,e9]⟩,hS.tail⟩,?_⟩
   show(_ - ((p:Int)+1)).toNat<(_ - (p:Int)).toNat
   omega
 have d2:decide ((p:Int)<sh.p)=false:=decide_eq_false hlp
 simp only[e15,e2,e9,e10,hx1,rx,rxn,d2,↓DD,UU,↓reduceIte,xA,xB,xC,xD,xE,xF,xG,xH,xI,xJ,xK,xL,xM,xN,xO,xP,xQ,ne_eq]
 refine callT_of (c_awords (cap:=cap9) hm hN hr9 (fun i _=>hU i) hS.outL) ?_
 rintro v H' ⟨rfl,hS⟩
 obtain⟨c1,c2,c3⟩:=hcount
 have c2:(Cn.all (livW sh ws) sh ws sh.p.toNat).li=w9:=by rw[c2,← hw9,dc];rfl
 generalize hx9:Cn.all (livW sh ws) sh ws sh.p.toNat=z9 at *
 have t1:(z9.li == w9)=true:=beq_iff_eq.2 c2
 have t2:(z9.lo == 0)=true:=beq_iff_eq.2 c1
 rw[c2]at c3
 have wa:w64 (z9.fr+z9.ta)=z9.fr+z9.ta:=w64_eq (by omega) (by omega)
 have wb:w64 (z9.fr+z9.ta+w9)=z9.fr+z9.ta+w9:=w64_eq (by omega) (by omega)
 have wp:w64 (sh.p*64)=sh.p*64:=w64_eq (by omega) (by omega)
 have t3:(z9.fr+z9.ta+w9 == sh.p*64)=true:=beq_iff_eq.2 c3
 have hx1:=hS.tail.dropF.look
 have rx:=fun o=>rd_of hx1 o
 simp only[awC,e2,↓DD,UU,↓reduceIte,xA,xB,xC,xD,xE,xF,xG,xH,xI,xJ,xK,xL,xM,xN,xO,xP,xQ,ne_eq]
 refine newB_intro fun y hy f9 f0=>?_
 have nxy:(x=y)=False:=f9 x (by rw[hx1];rfl)
 have nyx:(y=x)=False:=f0 x (by rw[hx1];rfl)
 have hS:=(hS.new f9 (.cells #[.int .i64 z9.fr,.int .i64 z9.ta,.int .i64 z9.li,.int .i64 z9.lo] 41 (0,0)))
 simp only[e2,e10,hx1,rx,nxy,nyx,t1,t2,wa,wb,wp,t3,wrap_w64,Ev.upd_upd,↓DD,UU,↓reduceIte,xA,xB,xC,xD,xE,xF,xG,xH,xI,xJ,xK,xL,xM,xN,xO,xP,xQ,ne_eq]
 exact hS.tail.tail.dropF.tail
theorem l_topquiet {W:World} {ch:Nat→Chr} (p c m:Int) (_:-9223372036854775808≤p∧p≤9223372036854775807) (_:-9223372036854775808≤c∧c≤9223372036854775807) (_:-9223372036854775808≤m∧m≤9223372036854775807) (hn:n≤9223372036854775807) (hr:RowC (memOf W) a n ch) :
  CallP Tryz.prog W 6 #[.agg #[.int .i64 p,.int .i64 c,.int .i64 m],.slice a n cap] (memOf W) fun v H'=>v=.bool true∧Sub (memOf W) H':=
 (c_topquiet (sh:=⟨p,c,m⟩) hn hr (Sep.one _)).mono fun v H' ⟨h1,h2⟩=>⟨h1,h2.head⟩
end
end Go.Proofs.YtkjpgikjcfhckaaGreat
