/-
 What a small operation, a region, a drawn region shows, it shows of whatever follows from it: walks may be cut. Conditions: none.
-/
import Derived.Test.YtkjpgikjcfhckaaGreatMore
set_option linter.unusedVariables false
namespace Go.Ev
open Go

section
variable {P:Program} {W:World} {F:Fr} {H:Hp} {K K':Value→Hp→Prop}

theorem m_thn {n n':Fr→Hp→Prop} {Q Q':Exit→Fr→Hp→Prop} (hn:∀ F H,n F H→n' F H) (hk:∀ e F H,Q e F H→Q' e F H):∀ e F H,thn n Q e F H→thn n' Q' e F H:=by
 intro e F H h
 cases e<;>first | exact hn _ _ h | exact hk _ _ _ h
theorem m_blk {id:Nat} {Q Q':Exit→Fr→Hp→Prop} (hk:∀ e F H,Q e F H→Q' e F H):∀ e F H,blk id Q e F H→blk id Q' e F H:=by
 intro e F H h
 cases e
 case exit j=>simp only[blk]at h ⊢;split at h<;>simp_all
 all_goals exact hk _ _ _ h
theorem mwp_mono:∀ (m:MC) {Q Q':Exit→Fr→Hp→Prop} {F:Fr} {H:Hp},mwp P W m Q F H→(∀ e F H,Q e F H→Q' e F H)→mwp P W m Q' F H
 | .skip,_,_,_,_,h,hk=>hk _ _ _ h
 | .ret,_,_,_,_,h,hk=>hk _ _ _ h
 | .exit _,_,_,_,_,h,hk=>hk _ _ _ h
 | .reg l,_,_,_,_,h,hk=>rwp_mono l h fun F H h=>hk _ _ _ h
 | .draw l,_,_,_,_,⟨R,h0,h⟩,hk=>⟨R,h0,dwpX_mono l h fun F H h=>hk _ _ _ h⟩
 | .seq a b,_,_,_,_,h,hk=>mwp_mono a h (m_thn (fun F H h=>mwp_mono b h hk) hk)
 | .cond c a b,_,_,_,_,h,hk=>m_onBool h fun _ h=>m_both h (fun h=>mwp_mono a h hk) (fun h=>mwp_mono b h hk)
 | .block id a,_,_,_,_,h,hk=>mwp_mono a h (m_blk hk)
 | .loop a,_,_,_,_,⟨I,μ,h0,hr⟩,hk=>⟨I,μ,h0,fun F' H' hi=>mwp_mono a (hr F' H' hi) (m_thn (fun _ _ h=>h) hk)⟩
 | .no,_,_,_,_,h,_=>h

def rounds (P:Program) (W:World) (a:MC) (Q:Exit→Fr→Hp→Prop):Nat→Fr→Hp→Prop
 | 0,_,_=>False
 | n+1,F,H=>mwp P W a (thn (rounds P W a Q n) Q) F H
theorem rounds_s (a:MC) (Q:Exit→Fr→Hp→Prop) (n:Nat) (F:Fr) (H:Hp):rounds P W a Q (n+1) F H=mwp P W a (thn (rounds P W a Q n) Q) F H:=_root_.id rfl
open Classical in
theorem loop_n {a:MC} {Q:Exit→Fr→Hp→Prop} {F:Fr} {H:Hp} (n:Nat) (h:rounds P W a Q n F H):mwp P W (.loop a) Q F H:=by
 have least:∀ (n:Nat) (F:Fr) (H:Hp),rounds P W a Q n F H→∃ m,m≤n∧rounds P W a Q m F H∧∀ k,k<m→¬ rounds P W a Q k F H:=by
  intro n
  induction n using Nat.strongRecOn with
  | _ n ih=>
   intro F H h
   by_cases hx:∃ k,k<n∧rounds P W a Q k F H
   ·obtain⟨k,hk,hr⟩:=hx
    obtain⟨m,h1,h2,h3⟩:=ih k hk F H hr
    exact⟨m,by omega,h2,h3⟩
   ·exact⟨n,Nat.le_refl _,h,fun k hk hr=>hx ⟨k,hk,hr⟩⟩
 refine⟨fun F H=>∃ n,rounds P W a Q n F H,fun F H=>if h:∃ n,rounds P W a Q n F H then Classical.choose (least h.choose F H h.choose_spec) else 0,⟨n,h⟩,?_⟩
 rintro F' H' hx
 simp only[dif_pos hx]
 have hsp:=Classical.choose_spec (least hx.choose F' H' hx.choose_spec)
 generalize Classical.choose (least hx.choose F' H' hx.choose_spec)=m at hsp ⊢
 obtain⟨-,hm,-⟩:=hsp
 cases m with
 | zero=>exact False.elim hm
 |succ m=>
  refine mwp_mono a hm (m_thn (fun F2 H2 h2=>⟨⟨m,h2⟩,?_⟩) fun _ _ _ h=>h)
  have hy:∃ n,rounds P W a Q n F2 H2:=⟨m,h2⟩
  simp only[dif_pos hy]
  have hsp2:=Classical.choose_spec (least hy.choose F2 H2 hy.choose_spec)
  generalize Classical.choose (least hy.choose F2 H2 hy.choose_spec)=k at hsp2 ⊢
  rcases Nat.lt_or_ge m k with hlt | hge
  ·exact absurd h2 (hsp2.2.2 m hlt)
  ·omega
end

end Go.Ev
