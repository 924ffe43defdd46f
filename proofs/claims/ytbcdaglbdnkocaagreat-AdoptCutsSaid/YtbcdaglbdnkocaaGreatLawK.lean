/-
 What the laws use of the shared words: filled, modelled, compared. Conditions: none.
-/
import Derived.Test.YtbcdaglbdnkocaaGreatCodeX
import Derived.Test.YtbcdaglbdnkocaaGreatModel
import Derived.Test.YtbcdaglbdnkocaaGreatCode
open Nat renaming reduceAdd→xA,reduceMul→xB,reduceSub→xC,reduceEqDiff→xD,reduceBEq→xE,reduceLeDiff→xF,reduceLT→xG
open Int renaming reduceAdd→xH,reduceMul→xI,reduceSub→xJ,reduceLT→xK,reduceLE→xL,reduceToNat→xM,reduceEq→xN,reduceNe→xO,reduceBEq→xP,reduceBNe→xQ
set_option linter.unusedVariables false
set_option linter.unusedSimpArgs false
set_option maxRecDepth 8000
namespace Go.Proofs.YtbcdaglbdnkocaaGreat
open Go Go.Ev Go.Pl Go.Ma

def rowW (n:Nat) (ws:Nat→Int):Wd:={ Wd.zero n with ws:=fun j=>if j<n then ws j else 0 }

theorem LogOk.row (n:Nat) (ws:Nat→Int):LogOk none 0 (rowW n ws) fun _=>none:=⟨by simp [rowW,Wd.zero],by simp [rowW,Wd.zero],by simp [rowW,Wd.zero],.inl ⟨rfl,rfl,rfl⟩⟩

section
variable {W:World} {H h:Hp} {l:List Hp} {n cap:Nat} {a:Option Addr} {ws:Nat→Int}

def fillI (b s:Nat) (n cap:Nat) (a:Option Addr) (ws:Nat→Int) (h:Hp) (l:List Hp) (F':Fr) (H':Hp):Prop:=
 ∃ i:Nat,i≤n∧gt F' 4=.int .i64 (i:Int)∧gt F' 0=.slice a n cap∧gt F' 3=.pointer (some ⟨b,0,none⟩) ∧
  Sep (wB b s { Wd.zero n with ws:=fun j=>if j<i then ws j else 0 } :: wR s { Wd.zero n with ws:=fun j=>if j<i then ws j else 0 } :: h :: l) H'
theorem c_fill (hn:n≤2000) (hr:RowU h a n ws) (hS:Sep (h :: l) H) :
  CallP Tryz.prog W 13 #[.slice a n cap] H fun v H'=>∃ b s,v=.pointer (some ⟨b,0,none⟩)∧Sep (wB b s (rowW n ws) :: wR s (rowW n ws) :: h :: l) H':=by
 refine CallP.of mixed Tryz.func13 tr13 (by show 1≤_;decide) fun W _=>?_
 simp only[↓DD,UU,↓reduceIte,xA,xB,xC,xD,xE,xF,xG,xH,xI,xJ,xK,xL,xM,xN,xO,xP,xQ,ne_eq,eq_self]
 refine callT_of (c_wnew n hn hS) ?_
 rintro v H' ⟨b,s,rfl,hS⟩
 simp only[↓DD,UU,↓reduceIte,xA,xB,xC,xD,xE,xF,xG,xH,xI,xJ,xK,xL,xM,xN,xO,xP,xQ,ne_eq,eq_self]
 refine loop_intro (fillI b s n cap a ws h l) (fun F' _=>(n - iv (gt F' 4)).toNat) ⟨0,Nat.zero_le _,rfl,rfl,rfl,by simpa [Wd.zero] using hS⟩ ?_
 rintro F' H' ⟨i,hi,e4,e0,e3,hS⟩
 by_cases hlt:i<n
 ·have g1:decide ((i:Int)<(n:Int))=true:=decide_eq_true (by omega)
  have g2:(0:Int)≤(i:Int):=by omega
  have g3:(i:Int)<(n:Int):=by omega
  have w1:w64 ((i:Int)+1)=((i+1:Nat):Int):=by rw[w64_eq (by omega) (by omega)];omega
  obtain⟨x,o,rfl,hrd⟩:=(hr.sub (hS.sb h (by simp))).at' hlt
  simp only[e4,e0,e3,g1,g2,g3,hrd,Int.toNat_natCast,↓DD,UU,↓reduceIte,xA,xB,xC,xD,xE,xF,xG,xH,xI,xJ,xK,xL,xM,xN,xO,xP,xQ,ne_eq,eq_self]
  refine callT_of (c_put (i:Int) (ws i) g2 g3 hS) ?_
  rintro v H' ⟨rfl,hS⟩
  simp only[e4,e0,e3,wrap_w64,w1,↓DD,UU,↓reduceIte,xA,xB,xC,xD,xE,xF,xG,xH,xI,xJ,xK,xL,xM,xN,xO,xP,xQ,ne_eq,eq_self]
  refine⟨⟨i+1,hlt,rfl,by simp [gt,e0],by simp [gt,e3],?_⟩,by simp [gt,iv,e4];omega⟩
  have e:(Wd.put { Wd.zero n with ws:=fun j=>if j<i then ws j else 0 } (i:Int) (ws i)) = { Wd.zero n with ws:=fun j=>if j<i+1 then ws j else 0 }:=by
   unfold Wd.put;simp only[Wd.mk.injEq,true_and,and_true,Int.toNat_natCast]
   funext j
   by_cases h1:j=i
   ·subst h1;simp
   ·rw[if_neg h1];by_cases h2:j<i
    ·rw[if_pos h2,if_pos (by omega)]
    ·rw[if_neg h2,if_neg (by omega)]
  rw[e]at hS;exact hS
 ·have hin:i=n:=by omega
  subst hin
  have g1:decide ((i:Int)<(i:Int))=false:=decide_eq_false (by omega)
  simp only[e4,e0,e3,g1,↓DD,UU,↓reduceIte,xA,xB,xC,xD,xE,xF,xG,xH,xI,xJ,xK,xL,xM,xN,xO,xP,xQ,ne_eq,eq_self]
  exact⟨b,s,rfl,hS⟩

theorem rds_row (hn:n≤2000) (hr:RowU h a n ws) (hs:Sub h H):rds H a n=some (urow n ws):=by
 rcases hr with rfl |⟨b,o,rfl,hr⟩
 ·simp [rds,urow]
 ·cases n with
  | zero=>simp [rds,urow]
  |succ n=>
   show rdn H b o (n+1)=_
   have h0:=hr n (by omega)
   unfold rd at h0
   split at h0
   ·rename_i c T f hc
    have hlt:o+n<c.size:=(Array.getElem?_eq_some_iff.1 h0).1
    rw[rdn_of (hs _ _ hc),if_pos (by omega)]
    congr 1
    apply Array.ext
    ·simp [urow];omega
    ·intro i h1 h2
     have hi:i<n+1:=by simpa [urow] using h2
     have:=hr i hi
     rw[rd_of hc]at this
     simp only[Array.getElem_extract,urow,Array.getElem_ofFn]
     obtain⟨_,e⟩:=Array.getElem?_eq_some_iff.1 this
     exact e
   ·cases h0
theorem setN_urow {n:Nat} (ws:Nat→Int):∀ (m i:Nat) (vs:Nat→Int),i+m≤n →
  setN (urow n vs) i ((List.range' i m).map fun j=>Value.int .u64 (ws j))=urow n (fun j=>if i≤j∧j<i+m then ws j else vs j)
 | 0,i,vs,_=>by
  simp only[List.range'_zero,List.map_nil,setN]
  congr 1;funext j;rw[if_neg (by omega)]
 |m+1,i,vs,h=>by
  rw[List.range'_succ,List.map_cons,sn_cons,urow_set,setN_urow ws m (i+1) _ (by omega)]
  congr 1;funext j
  by_cases h1:j=i
  ·subst h1;rw[if_neg (by omega),if_pos rfl,if_pos (by omega)]
  ·by_cases h2:i+1≤j∧j<i+1+m
   ·rw[if_pos h2,if_pos (by omega)]
   ·rw[if_neg h2,if_neg h1,if_neg (by omega)]
theorem urow_list (n:Nat) (ws:Nat→Int):(urow n ws).toList=(List.range' 0 n).map fun j=>Value.int .u64 (ws j):=by
 apply List.ext_getElem
 ·simp [urow]
 ·intro i h1 h2;simp [urow]
theorem urow_congr {n:Nat} {f g:Nat→Int} (h:∀ j,j<n→f j=g j):urow n f=urow n g:=by
 apply Array.ext
 ·simp [urow]
 ·intro i h1 h2;simp only[urow,Array.getElem_ofFn];rw[h i (by simpa [urow] using h1)]
theorem c_model (hn:n≤2000) (hr:RowU h a n ws) (hS:Sep (h :: l) H) :
  CallP Tryz.prog W 7 #[.slice a n cap] H fun v H'=>∃ b s,v=.pointer (some ⟨b,0,none⟩)∧Sep (mB b s none 0 (rowW n ws) :: wR s (rowW n ws) :: h :: l) H':=by
 refine CallP.of mixed Tryz.func7 tr7 (by show 1≤_;decide) fun W _=>?_
 simp only[↓DD,UU,↓reduceIte,xA,xB,xC,xD,xE,xF,xG,xH,xI,xJ,xK,xL,xM,xN,xO,xP,xQ,ne_eq,eq_self]
 refine callT_of (m_new n hn hS) ?_
 rintro v H' ⟨b,s,rfl,hS⟩
 have hb:=hS.look
 have hs:=hS.lk 1 rfl
 have r1:=fun o=>rd_of hb o
 have hm:Nat.min n n=n:=Nat.min_self n
 have hrow:=rds_row hn hr (hS.sb h (by simp))
 have hz:(urow n ws).size=n:=urow_size n ws
 have hz0:(urow n fun _=>0).size=n:=urow_size n _
 simp only[hb,hs,r1,mobj,hm,hrow,Wd.zero,↓DD,UU,↓reduceIte,xA,xB,xC,xD,xE,xF,xG,xH,xI,xJ,xK,xL,xM,xN,xO,xP,xQ,ne_eq,eq_self]
 unfold stow
 rw[hz]
 have fin:∀ H2,Sep (mB b s none 0 (rowW n ws) :: wR s (rowW n ws) :: h :: l) H2→∃ b s,Value.pointer (some ⟨b,0,none⟩)=.pointer (some ⟨b,0,none⟩)∧Sep (mB b s none 0 (rowW n ws) :: wR s (rowW n ws) :: h :: l) H2:=fun H2 hS=>⟨b,s,rfl,hS⟩
 by_cases h0:n=0
 ·rw[if_pos h0]
  simp only[↓DD,UU,↓reduceIte,xA,xB,xC,xD,xE,xF,xG,xH,xI,xJ,xK,xL,xM,xN,xO,xP,xQ,ne_eq,eq_self]
  refine⟨b,s,rfl,?_⟩
  subst h0
  have e:Wd.zero 0=rowW 0 ws:=by unfold rowW Wd.zero;simp
  rw[← e];exact hS
 ·rw[if_neg h0]
  have hall:((urow n ws).toList.all Value.oneCell')=true:=by
   rw[urow_list,List.all_eq_true];intro x hx;obtain⟨j,_,rfl⟩:=List.mem_map.1 hx;rfl
  have hset:setN (urow n fun _=>0) 0 (urow n ws).toList=urow n (rowW n ws).ws:=by
   rw[urow_list,setN_urow ws n 0 _ (by omega)]
   exact urow_congr fun j hj=>by show(if _ then _ else _)=if _ then _ else _;rw[if_pos (by omega),if_pos hj]
  simp only[hs,Wd.zero,hz,hz0,hall,hset,Nat.le_refl,↓DD,UU,↓reduceIte,xA,xB,xC,xD,xE,xF,xG,xH,xI,xJ,xK,xL,xM,xN,xO,xP,xQ,ne_eq,eq_self]
  exact⟨b,s,rfl,(hS.p1.set _).p1⟩
theorem c_fair {sh:Sh} (hS:Sep l H) :
  CallP Tryz.prog W 5 #[.agg #[.int .i64 sh.p,.int .i64 sh.c,.int .i64 sh.m],.slice a n cap] H fun v H'=>v=.bool (may sh.p sh.c sh.m && ((n:Int) == words sh.p sh.c sh.m))∧Sep l H':=by
 refine CallP.of mixed Tryz.func5 tr5 (by show 2≤_;decide) fun W _=>?_
 simp only[↓DD,UU,↓reduceIte,xA,xB,xC,xD,xE,xF,xG,xH,xI,xJ,xK,xL,xM,xN,xO,xP,xQ,ne_eq,eq_self]
 refine newB_intro fun x hx f1 f2=>?_
 cases hm:may sh.p sh.c sh.m
 ·simp only[u_may,hm,Bool.false_and,↓DD,UU,↓reduceIte,xA,xB,xC,xD,xE,xF,xG,xH,xI,xJ,xK,xL,xM,xN,xO,xP,xQ,ne_eq,eq_self]
  exact(hS.new f1 _).tail
 ·simp only[u_may,u_words,hm,↓DD,UU,↓reduceIte,xA,xB,xC,xD,xE,xF,xG,xH,xI,xJ,xK,xL,xM,xN,xO,xP,xQ,ne_eq,eq_self]
  exact(hS.new f1 _).tail
end

end Go.Proofs.YtbcdaglbdnkocaaGreat
