/-
 A slice of values of several cells that grows by append, by as many as like. Conditions: none.
-/
import Derived.Test.YtkjpgikjcfhckaaGreatSep
set_option linter.unusedVariables false
set_option linter.unusedSimpArgs false
namespace Go.Ev
open Go
def Rw (T:TypeId) (K:Nat) (a:Option Addr) (n cap:Nat) (vs:List Value) (g:Hp):Prop:=
 vs.length=n*K∧((a=none∧n=0∧cap=0∧g=fun _=>none) ∨
 ∃ z c,a=some ⟨z,0,none⟩∧g=sg z (.cells c T (0,0))∧n≤cap∧cap*K≤c.size∧c.extract 0 (n*K)=vs.toArray)
theorem Rw.none (T:TypeId) (K:Nat):Rw T K Option.none 0 0 [] fun _=>Option.none:=⟨by simp,.inl ⟨rfl,rfl,rfl,rfl⟩⟩
theorem Rw.rds {T:TypeId} {K:Nat} {a:Option Addr} {n cap:Nat} {vs:List Value} {g H:Hp} (h:Rw T K a n cap vs g) (hs:Sub g H):Ev.rds H a (n*K)=some vs.toArray:=by
 obtain⟨hl,⟨rfl,rfl,rfl,rfl⟩|⟨z,c,rfl,rfl,h1,h2,h3⟩⟩:=h
 ·have:vs = []:=List.eq_nil_of_length_eq_zero (by omega)
  subst this
  simp [Ev.rds]
 ·have hz:=hs z _ (sg_at _ _)
  have hk:=Nat.mul_le_mul_right K h1
  cases hn:n*K with
  |zero=>
   rw[hn]at h3 hl
   have:vs = []:=List.eq_nil_of_length_eq_zero hl
   subst this
   rfl
  |succ m=>
   show rdn H z 0 (m+1)=_
   rw[rdn_of hz,if_pos (by omega),Nat.zero_add,← hn,h3]
theorem setN_size (l:List Value):∀ (c:Array Value) (o:Nat),(setN c o l).size=c.size:=by
 induction l with
 | nil=>intro c o;rfl
 | cons v l ih=>intro c o;show(setN (c.setIfInBounds o v) (o+1) l).size=_;rw[ih];simp
theorem setN_ext (l:List Value):∀ (c:Array Value) (o:Nat),o+l.length≤c.size→(setN c o l).extract 0 (o+l.length)=c.extract 0 o ++ l.toArray:=by
 induction l with
 | nil=>intro c o h;simp [setN]
 |cons v l ih=>
  intro c o h
  have h:o+(l.length+1)≤c.size:=h
  show(setN (c.setIfInBounds o v) (o+1) l).extract 0 (o+(l.length+1))=_
  have e:o+(l.length+1)=o+1+l.length:=by omega
  rw[e,ih _ _ (by simp;omega)]
  have e2:(c.setIfInBounds o v).extract 0 (o+1)=c.extract 0 o ++ #[v]:=by
   apply Array.ext
   ·simp;omega
   ·intro i h1 h2
    simp only[Array.size_extract,Array.size_setIfInBounds]at h1
    rw[Array.getElem_extract,Array.getElem_append]
    split
    ·rename_i g
     simp only[Array.size_extract]at g
     rw[Array.getElem_extract,Array.getElem_setIfInBounds_ne _ (by omega)]
    ·rename_i g
     simp only[Array.size_extract]at g
     have:i=o:=by omega
     subst this
     simp
  rw[e2,Array.append_assoc]
  simp
theorem growN {W:World} {H g:Hp} {l:List Hp} {T:TypeId} {K m bytes:Nat} {a:Option Addr} {n cap:Nat} {vs:List Value} {new z0:Array Value} {Q:Value→Hp→Prop}
  (hG:Rw T K a n cap vs g) (hw:new.size=m*K) (h1:(new.all Value.oneCell')=true) (hz0:z0.size=K) (hn:n+m≤1000000000) (hb:bytes≤128) (hS:Sep (g :: l) H)
  (hQ:∀ a' cap' g' H',Rw T K a' (n+m) cap' (vs ++ new.toList) g'→Sep (g' :: l) H'→Q (.slice a' (n+m) cap') H') :
  if n+m≤cap then stow H a (n*K) new fun H'=>Q (.slice a (n+m) cap) H'
  else Builtin.nextslicecap (n+m) cap*bytes≤281474976710656∧n+m≤9223372036854775807∧onSome (rds H a (n*K)) fun old=>allCap (n+m) fun cap=>newB W H fun b=>Q (.slice (some ⟨b,0,none⟩) (n+m) cap) (upd H b (.cells (old ++ new ++ Builtin.zeroCells z0 (cap - (n+m))) T (0,0))):=by
 have hrd:=hG.rds hS.head
 split
 ·rename_i hroom
  obtain⟨hl,⟨rfl,rfl,rfl,rfl⟩|⟨z,c,rfl,rfl,h4,h5,h3⟩⟩:=hG
  ·have m0:m=0:=by omega
   subst m0
   have e:new=#[]:=Array.eq_empty_of_size_eq_zero (by omega)
   subst e
   unfold stow
   rw[if_pos (by simp)]
   have:vs = []:=List.eq_nil_of_length_eq_zero (by omega)
   subst this
   exact hQ _ _ _ _ (by simpa using Rw.none T K) hS
  ·have hz:=hS.look
   unfold stow
   by_cases he:new=#[]
   ·subst he
    rw[if_pos (by simp)]
    have m0:m*K=0:=by simpa using hw.symm
    refine hQ _ _ _ _ ⟨by rw[Nat.add_mul,m0];simpa using hl,.inr ⟨z,c,rfl,rfl,hroom,h5,?_⟩⟩ hS
    rw[Nat.add_mul,m0];simpa using h3
   rw[if_neg (by simpa using he)]
   show onCells (H z) _
   rw[hz]
   have hk:=Nat.mul_le_mul_right K hroom
   rw[Nat.add_mul]at hk
   refine⟨by rw[hw];show 0+n*K+m*K≤_;omega,by simpa using h1,?_⟩
   have hlen:new.toList.length=m*K:=by simpa using hw
   refine hQ _ _ _ _ ⟨?_,.inr ⟨z,setN c (0+n*K) new.toList,rfl,rfl,hroom,by rw[setN_size];omega,?_⟩⟩ (hS.set _)
   ·rw[List.length_append,hl,hlen,Nat.add_mul]
   ·rw[Nat.zero_add,Nat.add_mul,← hlen,setN_ext _ _ _ (by rw[hlen];omega),h3]
    simp
 ·rename_i hroom
  have hc:=nextslicecap_le (need:=n+m) (old:=cap) (by omega)
  have g1:Builtin.nextslicecap (n+m) cap*bytes≤281474976710656:=by
   have:cap≤1000000000:=by omega
   exact Nat.le_trans (Nat.mul_le_mul_left _ hb) (by omega)
  refine⟨g1,by omega,?_⟩
  rw[hrd]
  intro cap2 hc2
  refine newB_intro fun b hb0 f1 f2=>?_
  have hlen:new.toList.length=m*K:=by simpa using hw
  have hl:=hG.1
  refine hQ _ _ _ _ ⟨by rw[List.length_append,hl,hlen,Nat.add_mul],.inr ⟨b,_,rfl,rfl,hc2,?_,?_⟩⟩ (hS.tail.new f1 _)
  ·have e:(Builtin.zeroCells z0 (cap2 - (n+m))).size=(cap2 - (n+m))*K:=by simp [Builtin.zeroCells,hz0]
   simp only[Array.size_append,e,hw,List.size_toArray,hl]
   rw[← Nat.add_mul,← Nat.add_mul]
   have:n+m+(cap2 - (n+m))=cap2:=by omega
   rw[this];exact Nat.le_refl _
  ·have e:(vs.toArray ++ new).size=(n+m)*K:=by simp [hl,hw,Nat.add_mul]
   rw[← e,Array.extract_append]
   simp
   exact List.take_of_length_le (by omega)
end Go.Ev
