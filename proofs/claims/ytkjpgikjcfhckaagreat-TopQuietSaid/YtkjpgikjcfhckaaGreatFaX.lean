/-
A family of lists of parts of a heap: those of one are taken out, and put back; a row of any values. Conditions: none.
-/
import Derived.Test.YtkjpgikjcfhckaaGreatSep
set_option linter.unusedVariables false
set_option linter.unusedSimpArgs false
namespace Go.Ev
open Go
def famL (n:Nat) (g:Nat→List Hp):List Hp:=(List.range n).flatMap g
def famLB (n c:Nat) (g:Nat→List Hp):List Hp:=((List.range n).erase c).flatMap g
section
variable {g g':Nat→List Hp} {n c:Nat} {l x:List Hp} {H:Hp}
theorem famL_pick (hc:c<n):(famL n g ++ l).Perm (g c ++ (famLB n c g ++ l)):=by
 have h:=((List.perm_cons_erase (List.mem_range.2 hc)).flatMap_right g).append_right l
 rw[List.flatMap_cons,List.append_assoc]at h
 exact h
theorem famL_rest (h:∀ d,d≠c→g' d=g d):famLB n c g'=famLB n c g:=by
 unfold famLB
 rw[List.flatMap_def,List.flatMap_def]
 congr 1
 apply List.map_congr_left
 intro d hd
 exact h d ((List.nodup_range (n:=n)).mem_erase_iff.1 hd).1
theorem Sep.pickF (pre:List Hp) (h:Sep (pre ++ (famL n g ++ l)) H) (hc:c<n):Sep (g c ++ (pre ++ (famLB n c g ++ l))) H:=
 h.perm ((List.Perm.append_left pre (famL_pick hc)).trans (List.perm_append_comm_assoc _ _ _))
theorem Sep.backF (pre:List Hp) (h:Sep (x ++ (pre ++ (famLB n c g ++ l))) H) (hc:c<n) (hx:g' c=x) (h1:∀ d,d≠c→g' d=g d):Sep (pre ++ (famL n g' ++ l)) H:=by
 rw[← famL_rest (n:=n) h1,← hx]at h
 exact h.perm ((List.perm_append_comm_assoc _ _ _).trans (List.Perm.append_left pre (famL_pick hc).symm))
theorem Sep.dropF:∀ {m:List Hp},Sep (m ++ l) H→Sep l H
 | [],h=>h
 | _ :: m,h=>Sep.dropF (m:=m) h.tail
theorem Sep.over {X L Y:List Hp} {H:Hp} (h:Sep (X ++ (L ++ Y)) H):Sep (L ++ (X ++ Y)) H:=h.perm (List.perm_append_comm_assoc X L Y)
end
def vrow (n:Nat) (f:Nat→Value):Array Value:=Array.ofFn (n:=n) fun j=>f j.val
theorem vrow_size (n:Nat) (f:Nat→Value):(vrow n f).size=n:=by simp [vrow]
theorem vrow_at {n:Nat} {f:Nat→Value} {i:Nat} (h:i<n):(vrow n f)[i]? = some (f i):=by simp [vrow,h]
theorem vrow_set {n:Nat} {f:Nat→Value} {i:Nat} (x:Value):(vrow n f).setIfInBounds i x=vrow n (fun j=>if j=i then x else f j):=by
 apply Array.ext
 ·simp [vrow]
 ·intro k h1 h2
  have hk:k<n:=by simpa [vrow] using h2
  rw[Array.getElem_setIfInBounds (by simpa [vrow] using hk)]
  by_cases h:i=k
  ·subst h;simp [vrow]
  ·have h':¬ k=i:=fun e=>h e.symm
   simp [vrow,h,h']
theorem vrow_same (n:Nat) (v:Value):Array.replicate n v=vrow n fun _=>v:=by
 apply Array.ext
 ·simp [vrow]
 ·intro k h1 h2;simp [vrow]
end Go.Ev
namespace Go.Ev
open Go
def nul:Hp:=fun _=>none
def pa (l:List Hp) (i:Nat):Hp:=(l[i]?).getD nul
theorem pa_lt {l:List Hp} {i:Nat} (h:i<l.length):pa l i=l[i]:=by unfold pa;rw[List.getElem?_eq_getElem h];rfl
theorem pa_ge {l:List Hp} {i:Nat} (h:¬ i<l.length):pa l i=nul:=by unfold pa;rw[List.getElem?_eq_none (by omega)];rfl
theorem Sep.at_dj {l:List Hp} {H:Hp} (h:Sep l H) {i j:Nat} (hij:i≠j):Disj (pa l i) (pa l j):=by
 by_cases hi:i<l.length
 rotate_left
 ·intro k;left;rw[pa_ge (by omega)];rfl
 by_cases hj:j<l.length
 rotate_left
 ·intro k;right;rw[pa_ge (by omega)];rfl
 rw[pa_lt hi,pa_lt hj]
 have:=List.pairwise_iff_getElem.1 h.dj
 rcases Nat.lt_or_ge i j with g | g
 ·exact this i j hi hj g
 ·exact(this j i hj hi (by omega)).symm
theorem Sep.at_sub {l:List Hp} {H:Hp} (h:Sep l H) (i:Nat):Sub (pa l i) H:=by
 by_cases hi:i<l.length
 ·rw[pa_lt hi];exact h.sb _ (List.getElem_mem hi)
 ·rw[pa_ge (by omega)];intro k o hk;cases hk
theorem Sep.sel {l:List Hp} {H:Hp} (h:Sep l H) (n:Nat) (is:List Nat) (hn:is.Nodup) (hi:∀ i∈is,i<n):Sep (is.map (fun i=>pa l i) ++ l.drop n) H:=by
 refine⟨List.pairwise_append.2 ⟨?_,List.Pairwise.sublist (List.drop_sublist n l) h.dj,fun a ha b hb=>?_⟩,fun x hx=>?_⟩
 ·rw[List.pairwise_map]
  exact hn.imp fun g=>h.at_dj g
 ·obtain⟨i,hm,rfl⟩:=List.mem_map.1 ha
  obtain⟨j,hj,rfl⟩:=List.getElem_of_mem hb
  have:=hi i hm
  rw[List.getElem_drop]
  have hl:n+j<l.length:=by rw[List.length_drop]at hj;omega
  have:=h.at_dj (i:=i) (j:=n+j) (by omega)
  rw[pa_lt hl]at this
  exact this
 ·rcases List.mem_append.1 hx with g | g
  ·obtain⟨i,hm,rfl⟩:=List.mem_map.1 g
   exact h.at_sub i
  ·exact h.sb x (List.mem_of_mem_drop g)
theorem Sep.ino {X A B C:List Hp} {H:Hp} (h:Sep (X ++ (A ++ (B ++ C))) H):Sep (X ++ (B ++ (A ++ C))) H:=h.perm (List.Perm.append_left X (List.perm_append_comm_assoc A B C))
theorem Sep.tsw {X A B:List Hp} {H:Hp} (h:Sep (X ++ (A ++ B)) H):Sep (X ++ (B ++ A)) H:=h.perm (List.Perm.append_left X List.perm_append_comm)
end Go.Ev
