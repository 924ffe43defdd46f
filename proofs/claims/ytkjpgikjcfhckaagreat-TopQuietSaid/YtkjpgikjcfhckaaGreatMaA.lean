/-
The page claimer, plain: what stays, how long it goes on, where it ends. Conditions: none.
-/
import Derived.Test.YtkjpgikjcfhckaaGreatMa
set_option linter.unusedVariables false
namespace Go.Ma
open Go.Pl

def its {T:Type} (st:T→Wd→T×Wd):Nat→T→Wd→T×Wd
 | 0,t,w=>(t,w)
 | n+1,t,w=>st (its st n t w).1 (its st n t w).2

namespace Pc
variable {t:Pc} {w:Wd}

theorem step_cases (t:Pc) (w:Wd):(t.dn=true∧t.step w=(t,w))∨(t.dn=false ∧
    ((t.em=true∧w.get t.at'=0∧t.step w=({ t with fd:=true,dn:=true },w.swap t.c t.at' 0 (held t.c)))∨(t.em=true∧w.get t.at'≠0∧t.step w=(t.next,w.swap t.c t.at' 0 (held t.c))) ∨
     (t.em=false∧w.get t.at'=0∧t.step w=({ t with em:=true },w.load t.c t.at'))∨(t.em=false∧w.get t.at'≠0∧t.step w=(t.next,w.load t.c t.at')))):=by
  unfold step
  cases hd:t.dn
  · right
    refine⟨rfl,?_⟩
    cases he:t.em<;>by_cases hz:w.get t.at'=0<;>simp [hz]
  · left;exact⟨rfl,rfl⟩
theorem step_s:(t.step w).1.s=t.s:=by
 rcases step_cases t w with⟨-,e⟩|⟨-,⟨-,-,e⟩|⟨-,-,e⟩|⟨-,-,e⟩|⟨-,-,e⟩⟩<;>rw[e]<;>rfl
theorem step_c:(t.step w).1.c=t.c:=by
 rcases step_cases t w with⟨-,e⟩|⟨-,⟨-,-,e⟩|⟨-,-,e⟩|⟨-,-,e⟩|⟨-,-,e⟩⟩<;>rw[e]<;>rfl
theorem step_f:(t.step w).1.f=t.f:=by
 rcases step_cases t w with⟨-,e⟩|⟨-,⟨-,-,e⟩|⟨-,-,e⟩|⟨-,-,e⟩|⟨-,-,e⟩⟩<;>rw[e]<;>rfl
theorem step_of {s:Sh} (h:w.of s):(t.step w).2.of s:=by
 rcases step_cases t w with⟨-,e⟩|⟨-,⟨-,-,e⟩|⟨-,-,e⟩|⟨-,-,e⟩|⟨-,-,e⟩⟩<;>rw[e]
 ·exact h
 ·exact Wd.of_swap h (U_held _) _ _ _
 ·exact Wd.of_swap h (U_held _) _ _ _
 ·exact Wd.of_load h _ _
 ·exact Wd.of_load h _ _
theorem next_wf (h:t.wf) (hd:t.dn=false):t.next.wf:=by
 obtain⟨a1,a2,a3,a4,a5,a6,a7⟩:=h.of hd
 refine⟨fun h2=>?_⟩
 have h2:t.many+1≠t.s.p:=by simpa [next] using h2
 exact⟨a1,a2,a3,a4,a5,by show 0≤t.many+1;omega,by show t.many+1<t.s.p;omega⟩
theorem step_wf (h:t.wf):(t.step w).1.wf:=by
 rcases step_cases t w with⟨-,e⟩|⟨hd,⟨-,-,e⟩|⟨-,-,e⟩|⟨-,-,e⟩|⟨-,-,e⟩⟩<;>rw[e]
 ·exact h
 ·exact⟨fun h2=>by cases h2⟩
 ·exact next_wf h hd
 ·exact⟨fun _=>h.of hd⟩
 ·exact next_wf h hd
theorem step_fd (h:t.dn=false→t.fd=false):(t.step w).1.dn=false→(t.step w).1.fd=false:=by
 rcases step_cases t w with⟨-,e⟩|⟨hd,⟨-,-,e⟩|⟨-,-,e⟩|⟨-,-,e⟩|⟨-,-,e⟩⟩<;>rw[e]
 ·exact h
 ·intro h2;cases h2
 ·intro _;exact h hd
 ·intro _;exact h hd
 ·intro _;exact h hd
def left (t:Pc):Int:=if t.dn then 0 else 2*(t.s.p - t.many) - (if t.em then 1 else 0)
theorem left_nn (h:t.wf):0≤t.left:=by
 unfold left;split
 ·omega
 ·rename_i h1;have:=h.of (by simpa using h1);split<;>omega
theorem next_left (h:t.wf) (hd:t.dn=false):t.next.left≤2*(t.s.p - t.many) - 2:=by
 have:=h.of hd
 unfold left next
 simp only
 split<;>simp<;>omega
theorem step_left (h:t.wf) (hd:t.dn=false):(t.step w).1.left<t.left:=by
 have hw:=h.of hd
 have hn:=next_left h hd
 have e0:t.left=2*(t.s.p - t.many) - (if t.em then 1 else 0):=by unfold left;rw[hd];rfl
 rw[e0]
 rcases step_cases t w with⟨hd',e⟩|⟨-,⟨he,-,e⟩|⟨he,-,e⟩|⟨he,-,e⟩|⟨he,-,e⟩⟩<;>rw[e]
 ·rw[hd]at hd';cases hd'
 ·rw[he];simp [left];omega
 ·rw[he];simp only[if_true];omega
 ·rw[he];simp [left,hd];omega
 ·rw[he];simp only[Bool.false_eq_true,if_false];omega
theorem new_wf (s:Sh) (c f:Int):(Pc.new s c f).wf:=by
 constructor
 intro hd
 simp only[Pc.new,Bool.or_eq_false_iff,decide_eq_false_iff_not,status_lt0,page_lt0,Decidable.not_not]at hd
 exact⟨hd.1.1,hd.1.2.1,hd.1.2.2,hd.2.2.1,hd.2.2.2,Int.le_refl 0,by have:=(may_iff _ _ _).1 hd.1.1;show(0:Int)<s.p;omega⟩
end Pc
end Go.Ma
namespace Go.Ma
open Go.Pl

theorem good_of {s:Sh} {c k:Int} (h:good s c k=true):may s.p s.c s.m=true∧0≤c∧c<s.c∧0<slots k:=by
 simp only[good,Bool.and_eq_true,decide_eq_true_eq]at h
 have h1:¬ status s.p s.c s.m c<0:=by omega
 rw[status_lt0,Decidable.not_not]at h1
 exact⟨h1.1,h1.2.1,h1.2.2,h.2⟩
theorem page_of {s:Sh} {p:Int} (h:decide (0≤page s.p s.c s.m p)=true):may s.p s.c s.m=true∧0≤p∧p<s.p:=by
 rw[decide_eq_true_eq]at h
 have h1:¬ page s.p s.c s.m p<0:=by omega
 rwa [page_lt0,Decidable.not_not]at h1

namespace St
variable {t:St} {w:Wd}
theorem step_cases (t:St) (w:Wd):(t.dn=true∧t.step w=(t,w))∨(t.dn=false ∧
    ((t.bk=true∧t.step w=({ t with i:=t.i - 1,dn:=decide (t.i - 1=0) },w.store t.c (t.at' (t.i - 1)) (opn t.k))) ∨
     (t.bk=false∧t.i=slots t.k∧t.step w=({ t with hd:=true,dn:=true },w.store t.c t.pat (held t.c))) ∨
     (t.bk=false∧t.i≠slots t.k∧w.get (t.at' t.i)=opn t.k∧t.step w=({ t with i:=t.i+1 },w.swap t.c (t.at' t.i) (opn t.k) (way t.c))) ∨
     (t.bk=false∧t.i≠slots t.k∧w.get (t.at' t.i)≠opn t.k∧t.step w=({ t with bk:=true,dn:=decide (t.i=0) },w.swap t.c (t.at' t.i) (opn t.k) (way t.c))))):=by
  unfold step
  cases hd:t.dn
  · right
    refine⟨rfl,?_⟩
    cases hb:t.bk
    · by_cases hi:t.i=slots t.k
      · simp [hi]
      · by_cases hz:w.get (t.at' t.i)=opn t.k<;>simp [hi,hz]
    · simp
  · left;exact⟨rfl,rfl⟩
theorem step_s:(t.step w).1.s=t.s:=by
 rcases step_cases t w with⟨-,e⟩|⟨-,⟨-,e⟩|⟨-,-,e⟩|⟨-,-,-,e⟩|⟨-,-,-,e⟩⟩<;>rw[e]
theorem step_c:(t.step w).1.c=t.c:=by
 rcases step_cases t w with⟨-,e⟩|⟨-,⟨-,e⟩|⟨-,-,e⟩|⟨-,-,-,e⟩|⟨-,-,-,e⟩⟩<;>rw[e]
theorem step_p:(t.step w).1.p=t.p:=by
 rcases step_cases t w with⟨-,e⟩|⟨-,⟨-,e⟩|⟨-,-,e⟩|⟨-,-,-,e⟩|⟨-,-,-,e⟩⟩<;>rw[e]
theorem step_of {s:Sh} (h:w.of s):(t.step w).2.of s:=by
 rcases step_cases t w with⟨-,e⟩|⟨-,⟨-,e⟩|⟨-,-,e⟩|⟨-,-,-,e⟩|⟨-,-,-,e⟩⟩<;>rw[e]
 ·exact h
 ·exact Wd.of_store h (U_opn _) _ _
 ·exact Wd.of_store h (U_held _) _ _
 ·exact Wd.of_swap h (U_way _) _ _ _
 ·exact Wd.of_swap h (U_way _) _ _ _
theorem new_wf (s:Sh) (c p k:Int):(St.new s c p k).wf:=by
 constructor
 intro hd
 simp only[St.new,Bool.not_eq_false',Bool.and_eq_true]at hd
 obtain⟨h1,h2⟩:=hd
 obtain⟨g1,g2,g3,g4⟩:=good_of h1
 obtain⟨g5,g6,g7⟩:=page_of h2
 exact⟨g1,g2,g3,g6,g7,g4,Int.le_refl 0,by show 0≤slots k;omega,fun h=>by cases h⟩
theorem step_wf (h:t.wf):(t.step w).1.wf:=by
 rcases step_cases t w with⟨-,e⟩|⟨hd,⟨hb,e⟩|⟨-,-,e⟩|⟨hb,hi,-,e⟩|⟨hb,hi,-,e⟩⟩<;>rw[e]
 ·exact h
 ·obtain⟨a1,a2,a3,a4,a5,a6,a7,a8,a9⟩:=h.of hd
  refine⟨fun h2=>?_⟩
  have h2:t.i - 1≠0:=by simpa using h2
  have:=a9 hb
  exact⟨a1,a2,a3,a4,a5,a6,by show 0≤t.i - 1;omega,by show t.i - 1≤slots t.k;omega,fun _=>by show 0<t.i - 1;omega⟩
 ·exact⟨fun h2=>by cases h2⟩
 ·obtain⟨a1,a2,a3,a4,a5,a6,a7,a8,a9⟩:=h.of hd
  exact⟨fun _=>⟨a1,a2,a3,a4,a5,a6,by show 0≤t.i+1;omega,by show t.i+1≤slots t.k;omega,fun h3=>by have h3:t.bk=true:=h3;rw[hb]at h3;cases h3⟩⟩
 ·obtain⟨a1,a2,a3,a4,a5,a6,a7,a8,a9⟩:=h.of hd
  refine⟨fun h2=>?_⟩
  have h2:t.i≠0:=by simpa using h2
  exact⟨a1,a2,a3,a4,a5,a6,a7,a8,fun _=>by show 0<t.i;omega⟩
def left (t:St):Int:=if t.dn then 0 else if t.bk then t.i else 2*slots t.k+2 - t.i
theorem left_nn (h:t.wf):0≤t.left:=by
 unfold left;split
 ·omega
 ·rename_i h1;have:=h.of (by simpa using h1);split<;>omega
theorem step_left (h:t.wf) (hd:t.dn=false):(t.step w).1.left<t.left:=by
 have hw:=h.of hd
 rcases step_cases t w with⟨hd',e⟩|⟨-,⟨hb,e⟩|⟨hb,hi,e⟩|⟨hb,hi,-,e⟩|⟨hb,hi,-,e⟩⟩<;>rw[e]
 ·rw[hd]at hd';cases hd'
 ·have:=hw.2.2.2.2.2.2.2.2 hb
  simp only[left,hd,hb];split<;>simp<;>omega
 ·simp [left,hd,hb];omega
 ·simp [left,hd,hb];omega
 ·simp only[left,hd,hb];split<;>simp<;>omega
end St

namespace Bi
variable {t:Bi} {w:Wd}
theorem step_cases (t:Bi) (w:Wd):(t.dn=true∧t.step w=(t,w))∨(t.dn=false ∧
    ((t.bd=true∧t.step w=({ t with i:=t.i - 1,dn:=decide (t.i - 1=0) },w.store t.c t.at' (opn t.k))) ∨
     (t.bd=false∧t.i=16∧t.step w=({ t with bd:=true,i:=slots t.k - 1 },w.store t.c t.pat (super t.k t.c))) ∨
     (t.bd=false∧t.i≠16∧t.step w=({ t with i:=t.i+1 },w.store t.c t.at' (if t.i<slots t.k then way t.c else 0))))):=by
  unfold step
  cases hd:t.dn
  · right
    refine⟨rfl,?_⟩
    cases hb:t.bd
    · by_cases hi:t.i=16<;>simp [hi]
    · simp
  · left;exact⟨rfl,rfl⟩
theorem step_s:(t.step w).1.s=t.s:=by
 rcases step_cases t w with⟨-,e⟩|⟨-,⟨-,e⟩|⟨-,-,e⟩|⟨-,-,e⟩⟩<;>rw[e]
theorem step_c:(t.step w).1.c=t.c:=by
 rcases step_cases t w with⟨-,e⟩|⟨-,⟨-,e⟩|⟨-,-,e⟩|⟨-,-,e⟩⟩<;>rw[e]
theorem step_p:(t.step w).1.p=t.p:=by
 rcases step_cases t w with⟨-,e⟩|⟨-,⟨-,e⟩|⟨-,-,e⟩|⟨-,-,e⟩⟩<;>rw[e]
theorem step_k:(t.step w).1.k=t.k:=by
 rcases step_cases t w with⟨-,e⟩|⟨-,⟨-,e⟩|⟨-,-,e⟩|⟨-,-,e⟩⟩<;>rw[e]
theorem step_of {s:Sh} (h:w.of s):(t.step w).2.of s:=by
 rcases step_cases t w with⟨-,e⟩|⟨-,⟨-,e⟩|⟨-,-,e⟩|⟨-,-,e⟩⟩<;>rw[e]
 ·exact h
 ·exact Wd.of_store h (U_opn _) _ _
 ·exact Wd.of_store h (U_super _ _) _ _
 ·exact Wd.of_store h (by split;exact U_way _;exact U_0) _ _
theorem slots_two {k:Int} (h:0<slots k):2≤slots k∧slots k≤16:=by
 unfold slots at h ⊢;split<;>(try split)<;>(try split)<;>(try split)<;>simp_all
theorem new_wf (s:Sh) (c p k:Int):(Bi.new s c p k).wf:=by
 constructor
 intro hd
 simp only[Bi.new,Bool.not_eq_false',Bool.and_eq_true]at hd
 obtain⟨h1,h2⟩:=hd
 obtain⟨g1,g2,g3,g4⟩:=good_of h1
 obtain⟨g5,g6,g7⟩:=page_of h2
 exact⟨g1,g2,g3,g6,g7,g4,Int.le_refl 0,by show(0:Int)≤16;omega,fun h=>by cases h⟩
theorem step_wf (h:t.wf):(t.step w).1.wf:=by
 rcases step_cases t w with⟨-,e⟩|⟨hd,⟨hb,e⟩|⟨-,-,e⟩|⟨hb,hi,e⟩⟩<;>rw[e]
 ·exact h
 ·obtain⟨a1,a2,a3,a4,a5,a6,a7,a8,a9⟩:=h.of hd
  refine⟨fun h2=>?_⟩
  have h2:t.i - 1≠0:=by simpa using h2
  have:=a9 hb
  exact⟨a1,a2,a3,a4,a5,a6,by show 0≤t.i - 1;omega,by show t.i - 1≤16;omega,fun _=>by show 0<t.i - 1∧t.i - 1<slots t.k;omega⟩
 ·obtain⟨a1,a2,a3,a4,a5,a6,a7,a8,a9⟩:=h.of hd
  have:=slots_two a6
  exact⟨fun _=>⟨a1,a2,a3,a4,a5,a6,by show 0≤slots t.k - 1;omega,by show slots t.k - 1≤16;omega,fun _=>by show 0<slots t.k - 1∧slots t.k - 1<slots t.k;omega⟩⟩
 ·obtain⟨a1,a2,a3,a4,a5,a6,a7,a8,a9⟩:=h.of hd
  exact⟨fun _=>⟨a1,a2,a3,a4,a5,a6,by show 0≤t.i+1;omega,by show t.i+1≤16;omega,fun h3=>by have h3:t.bd=true:=h3;rw[hb]at h3;cases h3⟩⟩
def left (t:Bi):Int:=if t.dn then 0 else if t.bd then t.i else 16+slots t.k - t.i
theorem left_nn (h:t.wf):0≤t.left:=by
 unfold left;split
 ·omega
 ·rename_i h1;have:=h.of (by simpa using h1);split<;>omega
theorem step_left (h:t.wf) (hd:t.dn=false):(t.step w).1.left<t.left:=by
 have hw:=h.of hd
 rcases step_cases t w with⟨hd',e⟩|⟨-,⟨hb,e⟩|⟨hb,hi,e⟩|⟨hb,hi,e⟩⟩<;>rw[e]
 ·rw[hd]at hd';cases hd'
 ·have:=hw.2.2.2.2.2.2.2.2 hb
  simp only[left,hd,hb];split<;>simp<;>omega
 ·simp [left,hd,hb];omega
 ·simp [left,hd,hb];omega
end Bi
end Go.Ma
namespace Go.Ma
open Go.Pl

namespace Tk
variable {t:Tk} {w:Wd}
theorem step_cases (t:Tk) (w:Wd):(t.dn=true∧t.step w=(t,w))∨(t.dn=false ∧
    ((t.hit=true∧t.step w=({ t with fd:=true,dn:=true },w.store t.c t.at' 0)) ∨
     (t.hit=false∧t.hits w=true∧t.step w=({ t with ep:=enP t.s (w.get t.at'),es:=enS t.s (w.get t.at'),ek:=enK t.s (w.get t.at'),hit:=true },w.load t.c t.at')) ∨
     (t.hit=false∧t.hits w=false∧t.step w=({ t with i:=t.i+1,dn:=decide (t.i+1=t.s.m) },w.load t.c t.at')))):=by
  unfold step
  cases hd:t.dn
  · right
    refine⟨rfl,?_⟩
    cases hb:t.hit
    · cases hh:t.hits w<;>simp
    · simp
  · left;exact⟨rfl,rfl⟩
theorem step_s:(t.step w).1.s=t.s:=by
 rcases step_cases t w with⟨-,e⟩|⟨-,⟨-,e⟩|⟨-,-,e⟩|⟨-,-,e⟩⟩<;>rw[e]
theorem step_c:(t.step w).1.c=t.c:=by
 rcases step_cases t w with⟨-,e⟩|⟨-,⟨-,e⟩|⟨-,-,e⟩|⟨-,-,e⟩⟩<;>rw[e]
theorem step_of {s:Sh} (h:w.of s):(t.step w).2.of s:=by
 rcases step_cases t w with⟨-,e⟩|⟨-,⟨-,e⟩|⟨-,-,e⟩|⟨-,-,e⟩⟩<;>rw[e]
 ·exact h
 ·exact Wd.of_store h U_0 _ _
 ·exact Wd.of_load h _ _
 ·exact Wd.of_load h _ _
theorem new_wf (s:Sh) (c k:Int):(Tk.new s c k).wf:=by
 constructor
 intro hd
 simp only[Tk.new,Bool.or_eq_false_iff,Bool.not_eq_false',decide_eq_false_iff_not]at hd
 obtain⟨h1,h2⟩:=hd
 obtain⟨g1,g2,g3,g4⟩:=good_of h1
 have:=(may_iff _ _ _).1 g1
 exact⟨g1,g2,g3,Int.le_refl 0,by show(0:Int)<s.m;omega⟩
theorem step_wf (h:t.wf):(t.step w).1.wf:=by
 rcases step_cases t w with⟨-,e⟩|⟨hd,⟨hb,e⟩|⟨-,-,e⟩|⟨hb,hi,e⟩⟩<;>rw[e]
 ·exact h
 ·exact⟨fun h2=>by cases h2⟩
 ·exact⟨fun _=>h.of hd⟩
 ·obtain⟨a1,a2,a3,a4,a5⟩:=h.of hd
  refine⟨fun h2=>?_⟩
  have h2:t.i+1≠t.s.m:=by simpa using h2
  exact⟨a1,a2,a3,by show 0≤t.i+1;omega,by show t.i+1<t.s.m;omega⟩
theorem step_fd (h:t.dn=false→t.fd=false):(t.step w).1.dn=false→(t.step w).1.fd=false:=by
 rcases step_cases t w with⟨-,e⟩|⟨hd,⟨hb,e⟩|⟨-,-,e⟩|⟨hb,hi,e⟩⟩<;>rw[e]
 ·exact h
 ·intro h2;cases h2
 ·intro _;exact h hd
 ·intro _;exact h hd
def left (t:Tk):Int:=if t.dn then 0 else if t.hit then 1 else t.s.m - t.i+1
theorem left_nn (h:t.wf):0≤t.left:=by
 unfold left;split
 ·omega
 ·rename_i h1;have:=h.of (by simpa using h1);split<;>omega
theorem step_left (h:t.wf) (hd:t.dn=false):(t.step w).1.left<t.left:=by
 have hw:=h.of hd
 rcases step_cases t w with⟨hd',e⟩|⟨-,⟨hb,e⟩|⟨hb,-,e⟩|⟨hb,hi,e⟩⟩<;>rw[e]
 ·rw[hd]at hd';cases hd'
 ·simp [left,hd,hb]
 ·simp [left,hd,hb];omega
 ·simp only[left,hd,hb];split<;>simp<;>omega
end Tk

namespace Pu
variable {t:Pu} {w:Wd}
theorem step_cases (t:Pu) (w:Wd):(t.dn=true∧t.step w=(t,w))∨(t.dn=false ∧
    ((t.hit=true∧t.step w=({ t with put:=true,dn:=true },w.store t.c t.at' (putEn t.ep t.es t.ek))) ∨
     (t.hit=false∧w.get t.at'=0∧t.step w=({ t with hit:=true },w.load t.c t.at')) ∨
     (t.hit=false∧w.get t.at'≠0∧t.step w=({ t with i:=t.i+1,dn:=decide (t.i+1=t.s.m) },w.load t.c t.at')))):=by
  unfold step
  cases hd:t.dn
  · right
    refine⟨rfl,?_⟩
    cases hb:t.hit
    · by_cases hh:w.get t.at'=0<;>simp [hh]
    · simp
  · left;exact⟨rfl,rfl⟩
theorem step_s:(t.step w).1.s=t.s:=by
 rcases step_cases t w with⟨-,e⟩|⟨-,⟨-,e⟩|⟨-,-,e⟩|⟨-,-,e⟩⟩<;>rw[e]
theorem step_c:(t.step w).1.c=t.c:=by
 rcases step_cases t w with⟨-,e⟩|⟨-,⟨-,e⟩|⟨-,-,e⟩|⟨-,-,e⟩⟩<;>rw[e]
theorem step_of {s:Sh} (h:w.of s):(t.step w).2.of s:=by
 rcases step_cases t w with⟨-,e⟩|⟨-,⟨-,e⟩|⟨-,-,e⟩|⟨-,-,e⟩⟩<;>rw[e]
 ·exact h
 ·exact Wd.of_store h (U_putEn ..) _ _
 ·exact Wd.of_load h _ _
 ·exact Wd.of_load h _ _
theorem new_wf (s:Sh) (c p i k:Int):(Pu.new s c p i k).wf:=by
 constructor
 intro hd
 simp only[Pu.new,Bool.or_eq_false_iff,Bool.not_eq_false',Bool.and_eq_true,decide_eq_false_iff_not]at hd
 obtain⟨h1,h2⟩:=hd
 obtain⟨g1,g2,g3,g4⟩:=good_of h1.1.1.1
 have:=(may_iff _ _ _).1 g1
 exact⟨g1,g2,g3,Int.le_refl 0,by show(0:Int)<s.m;omega⟩
theorem step_wf (h:t.wf):(t.step w).1.wf:=by
 rcases step_cases t w with⟨-,e⟩|⟨hd,⟨hb,e⟩|⟨-,-,e⟩|⟨hb,hi,e⟩⟩<;>rw[e]
 ·exact h
 ·exact⟨fun h2=>by cases h2⟩
 ·exact⟨fun _=>h.of hd⟩
 ·obtain⟨a1,a2,a3,a4,a5⟩:=h.of hd
  refine⟨fun h2=>?_⟩
  have h2:t.i+1≠t.s.m:=by simpa using h2
  exact⟨a1,a2,a3,by show 0≤t.i+1;omega,by show t.i+1<t.s.m;omega⟩
def left (t:Pu):Int:=if t.dn then 0 else if t.hit then 1 else t.s.m - t.i+1
theorem left_nn (h:t.wf):0≤t.left:=by
 unfold left;split
 ·omega
 ·rename_i h1;have:=h.of (by simpa using h1);split<;>omega
theorem step_left (h:t.wf) (hd:t.dn=false):(t.step w).1.left<t.left:=by
 have hw:=h.of hd
 rcases step_cases t w with⟨hd',e⟩|⟨-,⟨hb,e⟩|⟨hb,-,e⟩|⟨hb,hi,e⟩⟩<;>rw[e]
 ·rw[hd]at hd';cases hd'
 ·simp [left,hd,hb]
 ·simp [left,hd,hb];omega
 ·simp only[left,hd,hb];split<;>simp<;>omega
end Pu

namespace Sc
variable {t:Sc} {w:Wd}
theorem step_cases (t:Sc) (w:Wd):(t.dn=true∧t.step w=(t,w))∨(t.dn=false ∧
    ((t.nx=0∧t.mine w=true∧t.step w=({ t with nx:=1 },w.load t.c t.pat)) ∨
     (t.nx=0∧t.mine w=false∧t.step w=(t.turn,w.load t.c t.pat)) ∨
     (t.nx=1∧w.get t.at'=opn t.k∧t.step w=({ t with nx:=2 },w.load t.c t.at')) ∨
     (t.nx=1∧w.get t.at'≠opn t.k∧t.step w=(t.miss,w.load t.c t.at')) ∨
     (t.nx≠0∧t.nx≠1∧w.get t.at'=opn t.k∧t.step w=({ t with fd:=true,dn:=true },w.swap t.c t.at' (opn t.k) (way t.c))) ∨
     (t.nx≠0∧t.nx≠1∧w.get t.at'≠opn t.k∧t.step w=(t.miss,w.swap t.c t.at' (opn t.k) (way t.c))))):=by
  unfold step
  cases hd:t.dn
  · right
    refine⟨rfl,?_⟩
    by_cases h0:t.nx=0
    · cases hm:t.mine w<;>simp [h0]
    · by_cases h1:t.nx=1
      · by_cases hz:w.get t.at'=opn t.k<;>simp [h1,hz]
      · by_cases hz:w.get t.at'=opn t.k<;>simp [h0,h1,hz]
  · left;exact⟨rfl,rfl⟩
theorem miss_s:t.miss.s=t.s:=by unfold miss turn;split<;>rfl
theorem miss_c:t.miss.c=t.c:=by unfold miss turn;split<;>rfl
theorem step_s:(t.step w).1.s=t.s:=by
 rcases step_cases t w with⟨-,e⟩|⟨-,⟨-,-,e⟩|⟨-,-,e⟩|⟨-,-,e⟩|⟨-,-,e⟩|⟨-,-,-,e⟩|⟨-,-,-,e⟩⟩<;>rw[e]<;>first | rfl | exact miss_s
theorem step_c:(t.step w).1.c=t.c:=by
 rcases step_cases t w with⟨-,e⟩|⟨-,⟨-,-,e⟩|⟨-,-,e⟩|⟨-,-,e⟩|⟨-,-,e⟩|⟨-,-,-,e⟩|⟨-,-,-,e⟩⟩<;>rw[e]<;>first | rfl | exact miss_c
theorem step_of {s:Sh} (h:w.of s):(t.step w).2.of s:=by
 rcases step_cases t w with⟨-,e⟩|⟨-,⟨-,-,e⟩|⟨-,-,e⟩|⟨-,-,e⟩|⟨-,-,e⟩|⟨-,-,-,e⟩|⟨-,-,-,e⟩⟩<;>rw[e]
 ·exact h
 ·exact Wd.of_load h _ _
 ·exact Wd.of_load h _ _
 ·exact Wd.of_load h _ _
 ·exact Wd.of_load h _ _
 ·exact Wd.of_swap h (U_way _) _ _ _
 ·exact Wd.of_swap h (U_way _) _ _ _
theorem new_wf (s:Sh) (c k f:Int):(Sc.new s c k f).wf:=by
 constructor
 intro hd
 simp only[Sc.new,Bool.not_eq_false',Bool.and_eq_true]at hd
 obtain⟨h1,h2⟩:=hd
 obtain⟨g1,g2,g3,g4⟩:=good_of h1
 obtain⟨p1,p2,p3⟩:=page_of h2
 exact⟨g1,g2,g3,p2,p3,Int.le_refl 0,by show(0:Int)<s.p;omega,Int.le_refl 0,g4,Int.le_refl 0,by show(0:Int)≤2;omega⟩
theorem turn_wf (h:t.wf) (hd:t.dn=false):t.turn.wf:=by
 obtain⟨a1,a2,a3,a4,a5,a6,a7,a8,a9,a10,a11⟩:=h.of hd
 refine⟨fun h2=>?_⟩
 have h2:t.many+1≠t.s.p:=by simpa [turn] using h2
 exact⟨a1,a2,a3,a4,a5,by show 0≤t.many+1;omega,by show t.many+1<t.s.p;omega,Int.le_refl 0,by show 0<slots t.k;omega,Int.le_refl 0,by show(0:Int)≤2;omega⟩
theorem miss_wf (h:t.wf) (hd:t.dn=false):t.miss.wf:=by
 obtain⟨a1,a2,a3,a4,a5,a6,a7,a8,a9,a10,a11⟩:=h.of hd
 unfold miss;split
 ·refine⟨fun h2=>?_⟩
  have h2:t.many+1≠t.s.p:=by simpa [turn] using h2
  exact⟨a1,a2,a3,a4,a5,by show 0≤t.many+1;omega,by show t.many+1<t.s.p;omega,Int.le_refl 0,by show 0<slots t.k;omega,Int.le_refl 0,by show(0:Int)≤2;omega⟩
 ·exact⟨fun h2=>⟨a1,a2,a3,a4,a5,a6,a7,by show 0≤t.i+1;omega,by show t.i+1<slots t.k;omega,by show(0:Int)≤1;omega,by show(1:Int)≤2;omega⟩⟩
theorem step_wf (h:t.wf):(t.step w).1.wf:=by
 rcases step_cases t w with⟨-,e⟩|⟨hd,⟨-,-,e⟩|⟨-,-,e⟩|⟨-,-,e⟩|⟨-,-,e⟩|⟨-,-,-,e⟩|⟨-,-,-,e⟩⟩<;>rw[e]
 ·exact h
 ·obtain⟨a1,a2,a3,a4,a5,a6,a7,a8,a9,a10,a11⟩:=h.of hd
  exact⟨fun _=>⟨a1,a2,a3,a4,a5,a6,a7,a8,a9,by show(0:Int)≤1;omega,by show(1:Int)≤2;omega⟩⟩
 ·exact turn_wf h hd
 ·obtain⟨a1,a2,a3,a4,a5,a6,a7,a8,a9,a10,a11⟩:=h.of hd
  exact⟨fun _=>⟨a1,a2,a3,a4,a5,a6,a7,a8,a9,by show(0:Int)≤2;omega,by show(2:Int)≤2;omega⟩⟩
 ·exact miss_wf h hd
 ·exact⟨fun h2=>by cases h2⟩
 ·exact miss_wf h hd
theorem step_fd (h:t.dn=false→t.fd=false):(t.step w).1.dn=false→(t.step w).1.fd=false:=by
 have hm:t.fd=false→t.miss.fd=false:=by unfold miss turn;split<;>exact id
 rcases step_cases t w with⟨-,e⟩|⟨hd,⟨-,-,e⟩|⟨-,-,e⟩|⟨-,-,e⟩|⟨-,-,e⟩|⟨-,-,-,e⟩|⟨-,-,-,e⟩⟩<;>rw[e]
 ·exact h
 ·intro _;exact h hd
 ·intro _;exact h hd
 ·intro _;exact h hd
 ·intro _;exact hm (h hd)
 ·intro h2;cases h2
 ·intro _;exact hm (h hd)
def rest (t:Sc):Int:=if t.nx=0 then 33 else if t.nx=1 then 2*(slots t.k - t.i) else 2*(slots t.k - t.i) - 1
def left (t:Sc):Int:=if t.dn then 0 else 33*(t.s.p - t.many - 1)+t.rest
theorem rest_bd (h:t.wf) (hd:t.dn=false):1≤t.rest∧t.rest≤33:=by
 obtain⟨a1,a2,a3,a4,a5,a6,a7,a8,a9,a10,a11⟩:=h.of hd
 have:=slots_bd t.k
 unfold rest;split
 ·omega
 ·split<;>omega
theorem left_nn (h:t.wf):0≤t.left:=by
 unfold left;split
 ·omega
 ·rename_i h1;have h1:t.dn=false:=by simpa using h1
  have:=h.of h1;have:=rest_bd h h1;omega
theorem turn_left:t.turn.left=33*(t.s.p - t.many - 1)∨t.turn.left=0:=by
 unfold left rest turn
 by_cases h:t.many+1=t.s.p
 ·right;simp [h]
 ·left;simp [h];omega
theorem step_left (h:t.wf) (hd:t.dn=false):(t.step w).1.left<t.left:=by
 have hw:=h.of hd
 have hr:=rest_bd h hd
 have e0:t.left=33*(t.s.p - t.many - 1)+t.rest:=by unfold left;rw[hd];rfl
 have hm:t.nx≠0→t.miss.left<t.left:=by
  intro hn
  unfold miss
  split
  ·have ht:=turn_left (t:={ t with i:=t.i+1,nx:=1 })
   have e2:33*(({ t with i:=t.i+1,nx:=1 }:Sc).s.p - ({ t with i:=t.i+1,nx:=1 }:Sc).many - 1)=33*(t.s.p - t.many - 1):=rfl
   rw[e2]at ht
   omega
  ·rename_i h2
   have e1:({ t with i:=t.i+1,nx:=1 }:Sc).left=33*(t.s.p - t.many - 1)+2*(slots t.k - (t.i+1)):=by
    unfold left rest;simp [hd]
   rw[e1,e0]
   unfold rest
   rw[if_neg hn]
   split<;>omega
 have hsl:=slots_bd t.k
 rcases step_cases t w with⟨hd',e⟩|⟨-,⟨hn,-,e⟩|⟨-,-,e⟩|⟨hn,-,e⟩|⟨hn,-,e⟩|⟨-,-,-,e⟩|⟨hn,-,-,e⟩⟩<;>rw[e]
 ·rw[hd]at hd';cases hd'
 ·have e1:({ t with nx:=1 }:Sc).left=33*(t.s.p - t.many - 1)+2*(slots t.k - t.i):=by unfold left rest;simp [hd]
  rw[e1,e0];unfold rest;rw[if_pos hn];omega
 ·show t.turn.left<t.left
  have ht:=turn_left (t:=t)
  have h1:=hw.2.2.2.2.2.2.1
  omega
 ·have e1:({ t with nx:=2 }:Sc).left=33*(t.s.p - t.many - 1)+(2*(slots t.k - t.i) - 1):=by unfold left rest;simp [hd]
  rw[e1,e0];unfold rest;rw[if_neg (by omega),if_pos hn];omega
 ·exact hm (by omega)
 ·have:({ t with fd:=true,dn:=true }:Sc).left=0:=rfl
  rw[this];omega
 ·exact hm hn
end Sc
end Go.Ma
namespace Go.Ma
open Go.Pl

namespace Bi
variable {t:Bi} {w:Wd}
end Bi

namespace St
variable {t:St} {w:Wd}
end St

namespace Tk
variable {t:Tk} {w:Wd}
end Tk

namespace Pu
variable {t:Pu} {w:Wd}
end Pu

namespace Sc
variable {t:Sc} {w:Wd}
end Sc

end Go.Ma
