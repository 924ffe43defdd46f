/-
 Heaps in parts: a list of parts that have no block in common, each within the heap. Conditions: none.
-/
import Derived.Test.YtkjpgikjcfhckaaGreatMono
set_option linter.unusedVariables false
namespace Go.Ev
open Go

def sg (b:Nat) (o:Obj):Hp:=fun k=>if k=b then some o else none
def Disj (a b:Hp):Prop:=∀ k,a k=none∨b k=none
def two (a b:Hp):Hp:=fun k=>match a k with
 | some o=>some o
 | none=>b k
structure Sep (l:List Hp) (H:Hp):Prop where
 dj:l.Pairwise Disj
 sb:∀ h∈l,Sub h H

theorem sg_at (b:Nat) (o:Obj):sg b o b=some o:=if_pos rfl
theorem sg_no {b k:Nat} (o:Obj) (h:k≠b):sg b o k=none:=if_neg h
theorem Disj.symm {a b:Hp} (h:Disj a b):Disj b a:=fun k=>(h k).symm
theorem Disj.sub {a b a':Hp} (h:Disj a b) (hs:Sub a' a):Disj a' b:=by
  intro k
  cases e:a' k with
  | none=>exact .inl rfl
  | some o => rcases h k with h' | h'
              · rw[hs k o e]at h';cases h'
              · exact .inr h'

namespace Sep
variable {l l':List Hp} {H H' a b c d e f:Hp}

theorem perm (h:Sep l H) (p:l.Perm l'):Sep l' H:=⟨(p.pairwise_iff fun h=>Disj.symm h).1 h.dj,fun x hx=>h.sb x (p.mem_iff.2 hx)⟩
theorem mono (h:Sep l H) (hs:Sub H H'):Sep l H':=⟨h.dj,fun x hx=>(h.sb x hx).trans hs⟩
theorem tail (h:Sep (a :: l) H):Sep l H:=⟨(List.pairwise_cons.1 h.dj).2,fun x hx=>h.sb x (List.mem_cons_of_mem _ hx)⟩
theorem head (h:Sep (a :: l) H):Sub a H:=h.sb a (List.mem_cons_self ..)
theorem p1 (h:Sep (a :: b :: l) H):Sep (b :: a :: l) H:=h.perm (.swap ..)
theorem cons (h:Sep (a :: l) H) (k:Sep l H→Sep l' H) (p:l.Perm l'):Sep (a :: l') H:=h.perm (p.cons _)
theorem p2 (h:Sep (a :: b :: c :: l) H):Sep (c :: a :: b :: l) H:=h.perm ((List.Perm.swap c b l).cons a |>.trans (.swap ..))
theorem p3 (h:Sep (a :: b :: c :: d :: l) H):Sep (d :: a :: b :: c :: l) H:=h.perm (((List.Perm.swap d c l).cons b |>.trans (.swap ..)).cons a |>.trans (.swap ..))
theorem p4 (h:Sep (a :: b :: c :: d :: e :: l) H):Sep (e :: a :: b :: c :: d :: l) H:=h.perm ((((List.Perm.swap e d l).cons c |>.trans (.swap ..)).cons b |>.trans (.swap ..)).cons a |>.trans (.swap ..))
theorem p5 (h:Sep (a :: b :: c :: d :: e :: f :: l) H):Sep (f :: a :: b :: c :: d :: e :: l) H:=
 h.perm (((((List.Perm.swap f e l).cons d |>.trans (.swap ..)).cons c |>.trans (.swap ..)).cons b |>.trans (.swap ..)).cons a |>.trans (.swap ..))
theorem r1 (h:Sep (a :: b :: l) H):Sep (b :: a :: l) H:=h.p1
theorem r2 (h:Sep (a :: b :: c :: l) H):Sep (b :: c :: a :: l) H:=h.p2.p2
theorem r3 (h:Sep (a :: b :: c :: d :: l) H):Sep (b :: c :: d :: a :: l) H:=h.p3.p3.p3
theorem r4 (h:Sep (a :: b :: c :: d :: e :: l) H):Sep (b :: c :: d :: e :: a :: l) H:=h.p4.p4.p4.p4
theorem r5 (h:Sep (a :: b :: c :: d :: e :: f :: l) H):Sep (b :: c :: d :: e :: f :: a :: l) H:=h.p5.p5.p5.p5.p5

theorem look {b:Nat} {o:Obj} (h:Sep (sg b o :: l) H):H b=some o:=h.head b o (sg_at b o)
theorem dj1 (h:Sep (a :: b :: l) H):Disj a b:=(List.pairwise_cons.1 h.dj).1 b (List.mem_cons_self ..)
theorem ne {b k:Nat} {o o':Obj} (h:Sep (sg b o :: sg k o' :: l) H):(b=k)=False:=by
 refine eq_false fun e=>?_
 subst e
 rcases h.dj1 b with h' | h'<;>rw[sg_at]at h'<;>cases h'
theorem set {b:Nat} {o:Obj} (h:Sep (sg b o :: l) H) (o':Obj):Sep (sg b o' :: l) (upd H b o'):=by
 have hd:=List.pairwise_cons.1 h.dj
 have hno:∀ x∈l,x b=none:=fun x hx=>by
  rcases hd.1 x hx b with h' | h'
  ·rw[sg_at]at h';cases h'
  ·exact h'
 refine⟨List.pairwise_cons.2 ⟨fun x hx k=>?_,hd.2⟩,fun x hx=>?_⟩
 ·by_cases e:k=b
  ·subst e;exact .inr (hno x hx)
  ·exact .inl (sg_no _ e)
 ·rcases List.mem_cons.1 hx with rfl | hx
  ·intro k y hk
   unfold sg at hk;split at hk
   ·rename_i e;subst e;injection hk with hk;subst hk;exact upd_same ..
   ·cases hk
  ·exact(h.sb x (List.mem_cons_of_mem _ hx)).upd (hno x hx)
theorem new {b:Nat} (h:Sep l H) (hb:∀ k,(H k).isSome=true→(k=b)=False) (o:Obj):Sep (sg b o :: l) (upd H b o):=by
 have hn:∀ x∈l,x b=none:=fun x hx=>by
  cases e:x b with
  | none=>rfl
  |some y=>
   have:=hb b (by rw[h.sb x hx b y e];rfl)
   simp at this
 refine⟨List.pairwise_cons.2 ⟨fun x hx k=>?_,h.dj⟩,fun x hx=>?_⟩
 ·by_cases e:k=b
  ·subst e;exact .inr (hn x hx)
  ·exact .inl (sg_no _ e)
 ·rcases List.mem_cons.1 hx with rfl | hx
  ·intro k y hk
   unfold sg at hk;split at hk
   ·rename_i e;subst e;injection hk with hk;subst hk;exact upd_same ..
   ·cases hk
  ·exact(h.sb x hx).upd (hn x hx)
theorem one (H:Hp):Sep [H] H:=⟨by simp,fun x hx=>by simp at hx;subst hx;exact Sub.refl _⟩
theorem nil (H:Hp):Sep [] H:=⟨by simp,fun x hx=>by cases hx⟩

theorem two_sub_left (a b:Hp):Sub a (two a b):=by intro k o h;unfold two;rw[h]
theorem two_sub_right (h:Disj a b):Sub b (two a b):=by
 intro k o hk;unfold two
 rcases h k with h' | h'
 ·rw[h'];exact hk
 ·rw[h']at hk;cases hk
theorem split (hd:Disj a b) (h:Sep (two a b :: l) H):Sep (a :: b :: l) H:=by
 have h1:=List.pairwise_cons.1 h.dj
 refine⟨List.pairwise_cons.2 ⟨fun x hx=>?_,List.pairwise_cons.2 ⟨fun x hx=>(h1.1 x hx).sub (two_sub_right hd),h1.2⟩⟩,fun x hx=>?_⟩
 ·rcases List.mem_cons.1 hx with rfl | hx
  ·exact hd
  ·exact(h1.1 x hx).sub (two_sub_left a b)
 ·rcases List.mem_cons.1 hx with rfl | hx
  ·exact(two_sub_left _ _).trans h.head
  ·rcases List.mem_cons.1 hx with rfl | hx
   ·exact(two_sub_right hd).trans h.head
   ·exact h.sb x (List.mem_cons_of_mem _ hx)
theorem lk (h:Sep l H) (i:Nat) {b:Nat} {o:Obj} (hi:l[i]? = some (sg b o)):H b=some o:=
 h.sb _ (List.mem_of_getElem? hi) b o (sg_at b o)
theorem neq (h:Sep l H) (i j:Nat) {b k:Nat} {o o':Obj} (hij:i<j) (hi:l[i]? = some (sg b o)) (hj:l[j]? = some (sg k o')):(b=k)=False:=by
 refine eq_false fun e=>?_
 subst e
 obtain⟨h1,e1⟩:=List.getElem?_eq_some_iff.1 hi
 obtain⟨h2,e2⟩:=List.getElem?_eq_some_iff.1 hj
 have:=List.pairwise_iff_getElem.1 h.dj i j h1 h2 hij
 rw[e1,e2]at this
 rcases this b with h' | h'<;>rw[sg_at]at h'<;>cases h'
theorem qen (h:Sep l H) (i j:Nat) {b k:Nat} {o o':Obj} (hij:i<j) (hi:l[i]? = some (sg b o)) (hj:l[j]? = some (sg k o')):(k=b)=False:=
 eq_false fun e=>(h.neq i j hij hi hj).mp e.symm
theorem p6 {g:Hp} (h:Sep (a :: b :: c :: d :: e :: f :: g :: l) H):Sep (g :: a :: b :: c :: d :: e :: f :: l) H:=(h.cons (fun x=>x.p5) ((((((List.Perm.swap g f l).cons e |>.trans (.swap ..)).cons d |>.trans (.swap ..)).cons c |>.trans (.swap ..)).cons b |>.trans (.swap ..)))).p1
theorem p7 {g i:Hp} (h:Sep (a :: b :: c :: d :: e :: f :: g :: i :: l) H):Sep (i :: a :: b :: c :: d :: e :: f :: g :: l) H:=h.perm (List.perm_middle (l₁:=[a,b,c,d,e,f,g]) (a:=i) (l₂:=l))
theorem p8 {g i j:Hp} (h:Sep (a :: b :: c :: d :: e :: f :: g :: i :: j :: l) H):Sep (j :: a :: b :: c :: d :: e :: f :: g :: i :: l) H:=h.perm (List.perm_middle (l₁:=[a,b,c,d,e,f,g,i]) (a:=j) (l₂:=l))
theorem p9 {g i j k:Hp} (h:Sep (a :: b :: c :: d :: e :: f :: g :: i :: j :: k :: l) H):Sep (k :: a :: b :: c :: d :: e :: f :: g :: i :: j :: l) H:=h.perm (List.perm_middle (l₁:=[a,b,c,d,e,f,g,i,j]) (a:=k) (l₂:=l))
theorem p10 {g i j k m:Hp} (h:Sep (a :: b :: c :: d :: e :: f :: g :: i :: j :: k :: m :: l) H):Sep (m :: a :: b :: c :: d :: e :: f :: g :: i :: j :: k :: l) H:=h.perm (List.perm_middle (l₁:=[a,b,c,d,e,f,g,i,j,k]) (a:=m) (l₂:=l))
theorem nothing (h:Sep l H):Sep ((fun _=>none) :: l) H:=
 ⟨List.pairwise_cons.2 ⟨fun x _ k=>.inl rfl,h.dj⟩,fun x hx=>by
  rcases List.mem_cons.1 hx with rfl | hx
  ·intro k o hk;cases hk
  ·exact h.sb x hx⟩
end Sep

theorem CallP.sub {P:Program} {W:World} {f:FuncId} {args:Array Value} {H:Hp} {K:Value→Hp→Prop} (h:CallP P W f args H fun v H'=>∃ H'',Sub H'' H'∧K v H''):CallP P W f args H K:=by
 intro w hw
 refine(h w hw).mono ?_
 rintro e w' ⟨v,H',he,hs,H'',hsub,hk⟩
 exact⟨v,H'',he,hs.mono hsub,hk⟩

end Go.Ev
